/- Contracts by hand: the look into the table of operations; an instruction's three numbers. -/
import Derived.Test.YtgnplpmmadbbdaaDoorB
import Derived.Test.YtgnplpmmadbbdaaDoorPx0
namespace Go.Proofs.YtgnplpmmadbbdaaDoor
open Go.RowKit Go.Proofs.YtgnplpmmadbbdaaDoorW.PrintWords

/-- An operation's row, by a whole number. -/
def isOp (op : Int) : Bool := decide (0 ≤ op ∧ op < 22)
def kN (op : Int) : ByteArray := if 0 ≤ op ∧ op < 22 then kname op.toNat else ⟨#[]⟩
def kH (op : Int) : ByteArray := if 0 ≤ op ∧ op < 22 then khas op.toNat else ⟨#[]⟩
def kR (op : Int) : ByteArray := if 0 ≤ op ∧ op < 22 then kreads op.toNat else ⟨#[]⟩
def kW (op : Int) : Bool := if 0 ≤ op ∧ op < 22 then kwrites op.toNat else false

theorem find_in (op : Int) (h0 : 0 ≤ op) (h1 : op < 22) (w : World) (hk : KindsAt w) :
    Calls Tryd.prog 32 #[.int .i64 op] w fun e w' => e = .returned (.tuple #[.agg #[.string (kname op.toNat), .string (khas op.toNat), .string (kreads op.toNat), .bool (kwrites op.toNat)], .bool true]) ∧ Below w.heap.size w w' := by
  have c0 := hk.name op.toNat (by omega)
  have c1 := hk.has op.toNat (by omega)
  have c2 := hk.reads op.toNat (by omega)
  have c3 := hk.writes op.toNat (by omega)
  have hs := hk.pos
  clear hk
  go_enter Tryd.func32, Tryd.ntmps32
  go_wp2
  exact bodyPost_ret (v := .tuple #[.agg #[.string (kname op.toNat), .string (khas op.toNat), .string (kreads op.toNat), .bool (kwrites op.toNat)], .bool true]) (by simp [results, Tryd.results32, go_sem]) rfl ⟨rfl, (Below.refl _ _).alloc (Nat.le_refl _) _⟩

theorem find_out (op : Int) (h : op < 0 ∨ 22 ≤ op) (w : World) :
    Calls Tryd.prog 32 #[.int .i64 op] w fun e w' => e = .returned (.tuple #[.agg #[.string ⟨#[]⟩, .string ⟨#[]⟩, .string ⟨#[]⟩, .bool false], .bool false]) ∧ Below w.heap.size w w' := by
  go_enter Tryd.func32, Tryd.ntmps32
  rcases h with h | h
  · go_wp2
    exact bodyPost_ret (v := .tuple #[.agg #[.string ⟨#[]⟩, .string ⟨#[]⟩, .string ⟨#[]⟩, .bool false], .bool false]) (by simp [results, Tryd.results32, go_sem]) rfl ⟨rfl, (Below.refl _ _).alloc (Nat.le_refl _) _⟩
  · go_wp2
    all_goals exact bodyPost_ret (v := .tuple #[.agg #[.string ⟨#[]⟩, .string ⟨#[]⟩, .string ⟨#[]⟩, .bool false], .bool false]) (by simp [results, Tryd.results32, go_sem]) rfl ⟨rfl, (Below.refl _ _).alloc (Nat.le_refl _) _⟩

def code_find.f (a0 : Int) : Option (ByteArray × ByteArray × ByteArray × Bool × Bool) := some (kN a0, kH a0, kR a0, kW a0, isOp a0)
theorem code_find.calls (a0 : Int) (r1 r2 r3 : ByteArray) (r4 r5 : Bool) (w : World) (h : code_find.f a0 = some (r1, r2, r3, r4, r5)) (hGl : KindsAt w) :
    Calls Tryd.prog 32 #[.int .i64 a0] w fun e w' => e = .returned (.tuple #[.agg #[.string r1, .string r2, .string r3, .bool r4], .bool r5]) ∧ Below w.heap.size w w' := by
  simp only [code_find.f, Option.some.injEq, Prod.mk.injEq] at h
  obtain ⟨rfl, rfl, rfl, rfl, rfl⟩ := h
  by_cases h : 0 ≤ a0 ∧ a0 < 22
  · have := find_in a0 h.1 h.2 w hGl
    simpa only [kN, kH, kR, kW, isOp, if_pos h, decide_eq_true h] using this
  · have := find_out a0 (by omega) w
    simpa only [kN, kH, kR, kW, isOp, if_neg h, decide_eq_false h] using this

/-- What holds of each operation, and of what is none, holds of every number. -/
theorem op_cases {p : Int → Prop} (h : ∀ n : Fin 22, p (n.val : Int)) (h2 : ∀ op, op < 0 ∨ 22 ≤ op → p op) (op : Int) : p op := by
  by_cases hc : 0 ≤ op ∧ op < 22
  · have := h ⟨op.toNat, by omega⟩
    rwa [show ((op.toNat : Nat) : Int) = op from by omega] at this
  · exact h2 op (by omega)
theorem three_any (o a b c : Int) (w : World) :
    Calls Tryd.prog 33 #[.agg #[.int .i64 o, .int .i64 a, .int .i64 b, .int .i64 c]] w fun e w' => e = .returned (.agg #[.int .i64 a, .int .i64 b, .int .i64 c]) ∧ Below w.heap.size w w' := by
  go_enter Tryd.func33, Tryd.ntmps33
  go_wp2
  exact bodyPost_ret (v := .agg #[.int .i64 a, .int .i64 b, .int .i64 c]) (by simp [results, Tryd.results33, go_sem]) rfl ⟨rfl, ((Below.refl _ _).alloc (Nat.le_refl _) _).alloc (by simp) _⟩

theorem refThree_any (o a b c : Int) (w : World) :
    Calls Tryd.prog 35 #[.agg #[.int .i64 o, .int .i64 a, .int .i64 b, .int .i64 c]] w fun e w' => e = .returned (.agg #[.int .i64 a, .int .i64 b, .int .i64 c]) ∧ Below w.heap.size w w' := by
  go_enter Tryd.func35, Tryd.ntmps35
  go_wp2
  exact bodyPost_ret (v := .agg #[.int .i64 a, .int .i64 b, .int .i64 c]) (by simp [results, Tryd.results35, go_sem]) rfl ⟨rfl, ((Below.refl _ _).alloc (Nat.le_refl _) _).alloc (by simp) _⟩
end Go.Proofs.YtgnplpmmadbbdaaDoor
