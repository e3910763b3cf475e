/- One end of a talk in memory: which blocks are its own; what stays as it was. -/
import Derived.Test.YteeljnlhgaljaaaE1
namespace Go.Proofs.Yteeljnlhgaljaaa
set_option linter.unusedVariables false
set_option linter.unusedSimpArgs false
open Go.RowKit Go.Proofs.YteeljnlhgaljaaaW.PrintWords Go.Proofs.Yteeljnlhgaljaaa.P

/-- All but the blocks of S is as it was; there may be more. -/
structure Fr (S : Nat → Prop) (w w' : World) : Prop where
  os : w'.os = w.os
  tape : w'.tape = w.tape
  output : w'.output = w.output
  size : w.heap.size ≤ w'.heap.size
  block : ∀ k, k < w.heap.size → ¬ S k → w'.heap[k]? = w.heap[k]?
theorem Fr.refl (S : Nat → Prop) (w : World) : Fr S w w := ⟨rfl, rfl, rfl, Nat.le_refl _, fun _ _ _ => rfl⟩
/-- What was touched next was S's, or new. -/
theorem Fr.trans {S S' : Nat → Prop} {w w1 w2 : World} (h : Fr S w w1) (h' : Fr S' w1 w2) (hs : ∀ k, S' k → S k ∨ w.heap.size ≤ k) : Fr S w w2 :=
  ⟨h'.os.trans h.os, h'.tape.trans h.tape, h'.output.trans h.output, Nat.le_trans h.size h'.size, fun k hk hn =>
    (h'.block k (Nat.lt_of_lt_of_le hk h.size) (fun hk' => (hs k hk').elim hn (fun h => by omega))).trans (h.block k hk hn)⟩
theorem Fr.of_below {S : Nat → Prop} {w w' : World} (h : Below w.heap.size w w') : Fr S w w' := ⟨h.os, h.tape, h.output, h.size, fun k hk _ => h.block k hk⟩
theorem Fr.of_grown {S : Nat → Prop} {w w' : World} {row : Option Nat} (h : w.grownBy w' row) (hr : ∀ k, row = some k → S k) : Fr S w w' :=
  ⟨h.os, h.tape, h.output, h.size, fun k hk hn => h.block k hk (fun e => hn (hr k e.symm))⟩
theorem Fr.setCell {S : Nat → Prop} (w : World) {a : Addr} (ha : S a.block) (v : Value) : Fr S w (w.setCell a v) :=
  ⟨rfl, rfl, rfl, by simp [World.setCell], fun k hk hn => Below.heap_setCell _ _ _ _ (fun e => hn (by rw [e]; exact ha))⟩
theorem Fr.alloc {S : Nat → Prop} (w : World) (o : Obj) : Fr S w (w.alloc o) := Fr.of_below (below_alloc (Below.refl _ _) _)
theorem Fr.drewN {S : Nat → Prop} (w : World) (n : Nat) : Fr S w (w.drewN n) := Fr.of_below (pw_below_drewN (Below.refl _ _) _)
theorem Fr.drew {S : Nat → Prop} (w : World) : Fr S w w.drew := Fr.of_below (below_drew (Below.refl _ _))
theorem Fr.mono {S S' : Nat → Prop} {w w' : World} (h : Fr S w w') (hs : ∀ k, S k → S' k ∨ w.heap.size ≤ k) : Fr S' w w' :=
  ⟨h.os, h.tape, h.output, h.size, fun k hk hn => h.block k hk (fun h' => (hs k h').elim hn (fun h => by omega))⟩
theorem Fr.below {S : Nat → Prop} {w0 w w' : World} {B : Nat} (hb : Below B w0 w) (hB : B ≤ w.heap.size) (h : Fr S w w') (hs : ∀ k, S k → B ≤ k) : Below B w0 w' :=
  hb.trans ⟨h.os, h.tape, h.output, h.size, fun k hk => h.block k (by omega) (fun h' => by have := hs k h'; omega)⟩

abbrev kM : Kd (List Int) := Kd.slice 5 (Kd.int .u8)
/-- What an end of a talk holds. -/
structure Tk where
  most : Int
  again : Int
  said : Int
  done : Int
  gone : Int
  heard : Int
  wait : List (List Int)
  got : List (List Int)
  last : Int
  went : Bool
  owes : Bool
abbrev tkCells (t : Tk) (vw vg : Value) : Array Value := #[.int .i64 t.most, .int .i64 t.again, .int .i64 t.said, .int .i64 t.done, .int .i64 t.gone, .int .i64 t.heard, vw, vg, .int .i64 t.last, .bool t.went, .bool t.owes]
structure IsTk' (w : World) (g : Nat) (S Sw Sg : Nat → Prop) (vw vg : Value) (t : Tk) : Prop where
  own : S g
  inw : ∀ k, Sw k → S k ∧ k ≠ g ∧ ¬ Sg k
  ing : ∀ k, Sg k → S k ∧ k ≠ g
  blk : w.heap[g]? = some (.cells (tkCells t vw vg) 82 (0, 0))
  wait : kM.R 34 w 0 Sw vw t.wait
  got : kM.R 34 w 0 Sg vg t.got
/-- Block g is an end of a talk, all of whose memory is of S. -/
def IsTk (w : World) (g : Nat) (S : Nat → Prop) (t : Tk) : Prop := ∃ Sw Sg vw vg, IsTk' w g S Sw Sg vw vg t
theorem IsTk'.frame {w w' : World} {g : Nat} {S S' Sw Sg : Nat → Prop} {vw vg : Value} {t : Tk} (h : IsTk' w g S Sw Sg vw vg t) (hf : Fr S' w w') (hd : ∀ k, S k → ¬ S' k) : IsTk' w' g S Sw Sg vw vg t :=
  ⟨h.own, h.inw, h.ing, (hf.block g (blk_lt h.blk) (hd g h.own)).trans h.blk, Kd.R_step h.wait (fun k hk hlt => hf.block k hlt (hd k (h.inw k hk).1)), Kd.R_step h.got (fun k hk hlt => hf.block k hlt (hd k (h.ing k hk).1))⟩
theorem IsTk.frame {w w' : World} {g : Nat} {S S' : Nat → Prop} {t : Tk} (h : IsTk w g S t) (hf : Fr S' w w') (hd : ∀ k, S k → ¬ S' k) : IsTk w' g S t := by
  obtain ⟨Sw, Sg, vw, vg, h⟩ := h
  exact ⟨Sw, Sg, vw, vg, h.frame hf hd⟩
theorem IsTk.below {w w' : World} {g : Nat} {S : Nat → Prop} {t : Tk} (h : IsTk w g S t) (hb : Below w.heap.size w w') : IsTk w' g S t := h.frame (S' := fun _ => False) (Fr.of_below hb) (fun _ _ h => h)
/-- No more of S than what is there. -/
theorem IsTk'.tight {w : World} {g : Nat} {S Sw Sg : Nat → Prop} {vw vg : Value} {t : Tk} (h : IsTk' w g S Sw Sg vw vg t) : IsTk' w g (fun k => S k ∧ k < w.heap.size) (fun k => Sw k ∧ k < w.heap.size) (fun k => Sg k ∧ k < w.heap.size) vw vg t :=
  ⟨⟨h.own, blk_lt h.blk⟩, fun k hk => ⟨⟨(h.inw k hk.1).1, hk.2⟩, (h.inw k hk.1).2.1, fun hg => (h.inw k hk.1).2.2 hg.1⟩, fun k hk => ⟨⟨(h.ing k hk.1).1, hk.2⟩, (h.ing k hk.1).2⟩, h.blk,
   Kd.R_mono (Kd.R_bound h.wait) (fun k hk => ⟨hk.1, hk.2.2.1⟩), Kd.R_mono (Kd.R_bound h.got) (fun k hk => ⟨hk.1, hk.2.2.1⟩)⟩
end Go.Proofs.Yteeljnlhgaljaaa
