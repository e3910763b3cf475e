/- By hand: what Hear refuses. -/
import Derived.Test.YteeljnlhgaljaaaE5
import Derived.Test.YteeljnlhgaljaaaE6
import Derived.Test.YteeljnlhgaljaaaV
namespace Go.Proofs.Yteeljnlhgaljaaa
set_option linter.unusedVariables false
set_option linter.unusedSimpArgs false
open Go.RowKit Go.Proofs.YteeljnlhgaljaaaW.PrintWords Go.Proofs.YteeljnlhgaljaaaW.PrintLast Go.Proofs.Yteeljnlhgaljaaa.P

set_option maxRecDepth 100000 in
theorem hear_nil (v : Value) (w : World) : Calls Try.prog 20 #[.pointer none, .agg #[.int .i64 0, .slice none 0 0, .int .i64 0]] w fun e w' => e = .returned (.int .i64 1) ∧ Below w.heap.size w w' := by
  go_enter Try.func20, Try.ntmps20
  go_wp2
  go_ret
  exact ⟨rfl, below_alloc (Below.refl _ _) _⟩
/-- A packet that may not be, whatever the end. -/
def badP (f h : Int) (l : List (List Int)) : Bool := decide (f < 0) || decide (h < 0) || decide (64 < l.length) || l.any longM
set_option maxRecDepth 100000 in
set_option maxHeartbeats 1000000 in
theorem hear_bad (g : Nat) (f h : Int) (A : Option Addr) (c : Nat) (l : List (List Int)) (w : World) (hl : Kd.C kM w A l.length l) (hb : badP f h l = true) :
    Calls Try.prog 20 #[.pointer (some ⟨g, 0, none⟩), .agg #[.int .i64 f, .slice A l.length c, .int .i64 h]] w fun e w' => e = .returned (.int .i64 2) ∧ Below w.heap.size w w' := by
  by_cases h1 : f < 0
  · have k1 : decide (f < 0) = true := decide_eq_true h1
    clear hb hl
    go_enter Try.func20, Try.ntmps20
    go_wp2
    go_ret
    exact ⟨rfl, below_alloc (Below.refl _ _) _⟩
  have k1 : decide (f < 0) = false := decide_eq_false h1
  by_cases h2 : h < 0
  · have k2 : decide (h < 0) = true := decide_eq_true h2
    clear hb hl
    go_enter Try.func20, Try.ntmps20
    go_wp2
    go_ret
    exact ⟨rfl, below_alloc (Below.refl _ _) _⟩
  have k2 : decide (h < 0) = false := decide_eq_false h2
  by_cases h3 : 64 < l.length
  · have k3 : decide ((64 : Int) < (l.length : Int)) = true := decide_eq_true (by omega)
    clear hb hl
    go_enter Try.func20, Try.ntmps20
    go_wp2
    go_ret
    exact ⟨rfl, below_alloc (Below.refl _ _) _⟩
  have k3 : decide ((64 : Int) < (l.length : Int)) = false := decide_eq_false (by omega)
  have k4 : l.any longM = true := by
    have h3' : decide (64 < l.length) = false := decide_eq_false h3
    simpa only [badP, k1, k2, h3', Bool.false_or] using hb
  have K4 := Aside0.mk k4
  have hL := Aside0.mk hl
  clear hb hl k4
  go_enter Try.func20, Try.ntmps20
  go_wp2_with fail
  refine (containsLong_any l A c _ (Kd.C_below hL.out (below_alloc (Below.refl _ _) _))).mono ?_
  rintro e w1 ⟨rfl, rfl⟩
  rw [K4.out]
  go_wp2
  go_ret
  exact ⟨rfl, below_alloc (Below.refl _ _) _⟩
set_option maxRecDepth 100000 in
set_option maxHeartbeats 1000000 in
theorem hear_much (g : Nat) (S : Nat → Prop) (t : Tk) (f h : Int) (A : Option Addr) (c : Nat) (l : List (List Int)) (w : World) (ht : IsTk w g S t) (hl : Kd.C kM w A l.length l) (hb : badP f h l = false) (hs : t.said < h) :
    Calls Try.prog 20 #[.pointer (some ⟨g, 0, none⟩), .agg #[.int .i64 f, .slice A l.length c, .int .i64 h]] w fun e w' => e = .returned (.int .i64 2) ∧ Below w.heap.size w w' := by
  obtain ⟨Sw, Sg, vw, vg, ht⟩ := ht
  simp only [badP, Bool.or_eq_false_iff] at hb
  obtain ⟨⟨⟨k1, k2⟩, k3'⟩, k4⟩ := hb
  have k3 : decide ((64 : Int) < (l.length : Int)) = false := decide_eq_false (by have := of_decide_eq_false k3'; omega)
  have k5 : decide (t.said < h) = true := decide_eq_true hs
  have hx2 : w.cell? ⟨g, 2, none⟩ = some (.int .i64 t.said) := blk_cell ht.blk 2
  have hx2' : (w.alloc (.cells #[.int .i64 f, .slice A l.length c, .int .i64 h] 36)).cell? ⟨g, 2, none⟩ = some (.int .i64 t.said) := blk_cell (blk_alloc ht.blk _) 2
  have K4 := Aside0.mk k4
  have hL := Aside0.mk hl
  clear hl k4 ht k3' hs
  go_enter Try.func20, Try.ntmps20
  go_wp2_with fail
  refine (containsLong_any l A c _ (Kd.C_below hL.out (below_alloc (Below.refl _ _) _))).mono ?_
  rintro e w1 ⟨rfl, rfl⟩
  rw [K4.out]
  go_wp2
  go_quiet (fail)
  go_wp2
  go_ret
  exact ⟨rfl, pw_below_drewN (below_alloc (Below.refl _ _) _) _⟩
end Go.Proofs.Yteeljnlhgaljaaa
