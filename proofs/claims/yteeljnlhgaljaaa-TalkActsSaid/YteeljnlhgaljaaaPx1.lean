-- Made by a program of this claim's author (extprint.py over the kit's print).
import Derived.Test.YteeljnlhgaljaaaPx0
namespace Go.Proofs.Yteeljnlhgaljaaa.P
open Go.RowKit Go.Proofs.YteeljnlhgaljaaaW.PrintWords Go.Proofs.YteeljnlhgaljaaaW.PrintLast Go.Proofs.YteeljnlhgaljaaaW.PrintMore
attribute [local go_sem] max2_int min2_int max_two min_two max_three min_three max_four min_four   -- for this text's walks alone
set_option linter.unusedVariables false
set_option linter.unusedSimpArgs false

/-- A state of type 82 at block g of W; what its slices lead to came in by w0. -/
def IsS82 (w0 W : World) (g : Nat) (f0 : Int) (f1 : Int) (f2 : Int) (f3 : Int) (f4 : Int) (f5 : Int) (f6 : List (List Int)) (f7 : List (List Int)) (f8 : Int) (f9 : Bool) (f10 : Bool) : Prop := ∃ A6 c6, ∃ A7 c7, W.heap[g]? = some (.cells #[.int .i64 f0, .int .i64 f1, .int .i64 f2, .int .i64 f3, .int .i64 f4, .int .i64 f5, .slice A6 f6.length c6, .slice A7 f7.length c7, .int .i64 f8, .bool f9, .bool f10] 82 (0, 0)) ∧ w0.heap.size ≤ g ∧ Kd.C (Kd.slice 5 (Kd.int .u8)) w0 A6 f6.length f6 ∧ Kd.C (Kd.slice 5 (Kd.int .u8)) w0 A7 f7.length f7
theorem IsS82.grown {w0 W : World} {g : Nat} {f0 : Int} {f1 : Int} {f2 : Int} {f3 : Int} {f4 : Int} {f5 : Int} {f6 : List (List Int)} {f7 : List (List Int)} {f8 : Int} {f9 : Bool} {f10 : Bool} {W1 : World} {row : Option Nat} (h : IsS82 w0 W g f0 f1 f2 f3 f4 f5 f6 f7 f8 f9 f10) (hw : W.grownBy W1 row) (hne : some g ≠ row) : IsS82 w0 W1 g f0 f1 f2 f3 f4 f5 f6 f7 f8 f9 f10 := by
  obtain ⟨A6, c6, A7, c7, hb, hg, hr6, hr7⟩ := h
  exact ⟨A6, c6, A7, c7, blk_grown hb hw hne, hg, hr6, hr7⟩
theorem IsS82.own_neN {w0 W : World} {g : Nat} {f0 : Int} {f1 : Int} {f2 : Int} {f3 : Int} {f4 : Int} {f5 : Int} {f6 : List (List Int)} {f7 : List (List Int)} {f8 : Int} {f9 : Bool} {f10 : Bool} {α : Type} {d : Kd α} {e : Nat} {base : Nat} {ok : Nat → Prop} {v : Value} {xs : List α} (h : IsS82 w0 W g f0 f1 f2 f3 f4 f5 f6 f7 f8 f9 f10) (ho : Kd.N d e W base ok v xs) (ht : e ≠ 82) : some g ≠ v.ownBlock := by
  obtain ⟨A6, c6, A7, c7, hb, hg, hr6, hr7⟩ := h
  exact Kd.N_ne ho hb ht
theorem IsS82.fresh {w0 W : World} {g : Nat} {f0 : Int} {f1 : Int} {f2 : Int} {f3 : Int} {f4 : Int} {f5 : Int} {f6 : List (List Int)} {f7 : List (List Int)} {f8 : Int} {f9 : Bool} {f10 : Bool} (h : IsS82 w0 W g f0 f1 f2 f3 f4 f5 f6 f7 f8 f9 f10) : ∀ k, W.heap.size ≤ k → k ≠ g := by
  obtain ⟨A6, c6, A7, c7, hb, hg, hr6, hr7⟩ := h
  exact Kd.freshB hb
theorem IsS82.kept {w0 W : World} {g : Nat} {f0 : Int} {f1 : Int} {f2 : Int} {f3 : Int} {f4 : Int} {f5 : Int} {f6 : List (List Int)} {f7 : List (List Int)} {f8 : Int} {f9 : Bool} {f10 : Bool} {W1 : World} {S : Nat → Prop} (h : IsS82 w0 W g f0 f1 f2 f3 f4 f5 f6 f7 f8 f9 f10) (hk : Kept W W1 S) (hne : ¬ S g) : IsS82 w0 W1 g f0 f1 f2 f3 f4 f5 f6 f7 f8 f9 f10 := by
  obtain ⟨A6, c6, A7, c7, hb, hg, hr6, hr7⟩ := h
  exact ⟨A6, c6, A7, c7, blk_kept hb hk hne, hg, hr6, hr7⟩
theorem IsS82.below {w0 W : World} {g : Nat} {f0 : Int} {f1 : Int} {f2 : Int} {f3 : Int} {f4 : Int} {f5 : Int} {f6 : List (List Int)} {f7 : List (List Int)} {f8 : Int} {f9 : Bool} {f10 : Bool} {W1 : World} (h : IsS82 w0 W g f0 f1 f2 f3 f4 f5 f6 f7 f8 f9 f10) (hw : Below W.heap.size W W1) : IsS82 w0 W1 g f0 f1 f2 f3 f4 f5 f6 f7 f8 f9 f10 := h.grown (grown_of_below hw none) (by simp)
theorem IsS82.alloc {w0 W : World} {g : Nat} {f0 : Int} {f1 : Int} {f2 : Int} {f3 : Int} {f4 : Int} {f5 : Int} {f6 : List (List Int)} {f7 : List (List Int)} {f8 : Int} {f9 : Bool} {f10 : Bool} (h : IsS82 w0 W g f0 f1 f2 f3 f4 f5 f6 f7 f8 f9 f10) (o : Obj) : IsS82 w0 (W.alloc o) g f0 f1 f2 f3 f4 f5 f6 f7 f8 f9 f10 := h.below (below_alloc (Below.refl _ _) o)
theorem IsS82.drewN {w0 W : World} {g : Nat} {f0 : Int} {f1 : Int} {f2 : Int} {f3 : Int} {f4 : Int} {f5 : Int} {f6 : List (List Int)} {f7 : List (List Int)} {f8 : Int} {f9 : Bool} {f10 : Bool} (h : IsS82 w0 W g f0 f1 f2 f3 f4 f5 f6 f7 f8 f9 f10) (m : Nat) : IsS82 w0 (W.drewN m) g f0 f1 f2 f3 f4 f5 f6 f7 f8 f9 f10 := h
theorem IsS82.drew {w0 W : World} {g : Nat} {f0 : Int} {f1 : Int} {f2 : Int} {f3 : Int} {f4 : Int} {f5 : Int} {f6 : List (List Int)} {f7 : List (List Int)} {f8 : Int} {f9 : Bool} {f10 : Bool} (h : IsS82 w0 W g f0 f1 f2 f3 f4 f5 f6 f7 f8 f9 f10) : IsS82 w0 W.drew g f0 f1 f2 f3 f4 f5 f6 f7 f8 f9 f10 := h
theorem IsS82.at_ {w0 W : World} {g : Nat} {f0 : Int} {f1 : Int} {f2 : Int} {f3 : Int} {f4 : Int} {f5 : Int} {f6 : List (List Int)} {f7 : List (List Int)} {f8 : Int} {f9 : Bool} {f10 : Bool} {w' : World} {m : Nat} (hq : W.drewN m = w') (h : IsS82 w0 W g f0 f1 f2 f3 f4 f5 f6 f7 f8 f9 f10) : IsS82 w0 w' g f0 f1 f2 f3 f4 f5 f6 f7 f8 f9 f10 := by subst hq; exact IsS82.drewN h m
theorem IsS82.apart {w0 W : World} {g : Nat} {f0 : Int} {f1 : Int} {f2 : Int} {f3 : Int} {f4 : Int} {f5 : Int} {f6 : List (List Int)} {f7 : List (List Int)} {f8 : Int} {f9 : Bool} {f10 : Bool} {α : Type} {d : Kd α} {e : Nat} {base : Nat} {ok : Nat → Prop} {v : Value} {xs : List α} (h : IsS82 w0 W g f0 f1 f2 f3 f4 f5 f6 f7 f8 f9 f10) (ho : d.R e W base ok v xs) (ht : ∀ q, q ∈ e :: d.E → q ≠ 82) : d.R e W base (fun k => ok k ∧ k ≠ g) v xs := by
  obtain ⟨A6, c6, A7, c7, hb, hg, hr6, hr7⟩ := h
  exact Kd.R_types ho hb ht
theorem IsS82.own_ne {w0 W : World} {g : Nat} {f0 : Int} {f1 : Int} {f2 : Int} {f3 : Int} {f4 : Int} {f5 : Int} {f6 : List (List Int)} {f7 : List (List Int)} {f8 : Int} {f9 : Bool} {f10 : Bool} {α : Type} {d : Kd α} {e : Nat} {base : Nat} {ok : Nat → Prop} {v : Value} {xs : List α} (h : IsS82 w0 W g f0 f1 f2 f3 f4 f5 f6 f7 f8 f9 f10) (ho : d.R e W base ok v xs) (ht : e ≠ 82) : some g ≠ v.ownBlock := by
  obtain ⟨A6, c6, A7, c7, hb, hg, hr6, hr7⟩ := h
  exact Kd.R_ne ho hb ht
theorem IsS82.apartQ {w0 W : World} {g : Nat} {f0 : Int} {f1 : Int} {f2 : Int} {f3 : Int} {f4 : Int} {f5 : Int} {f6 : List (List Int)} {f7 : List (List Int)} {f8 : Int} {f9 : Bool} {f10 : Bool} {α : Type} {d : Kd α} {e : Nat} {base : Nat} {ok : Nat → Prop} {v : Value} {xs : List α} (h : IsS82 w0 W g f0 f1 f2 f3 f4 f5 f6 f7 f8 f9 f10) (ho : d.Q e W base ok v xs) (ht : ∀ q, q ∈ e :: d.E → q ≠ 82) : d.Q e W base (fun k => ok k ∧ k ≠ g) v xs := by
  obtain ⟨A6, c6, A7, c7, hb, hg, hr6, hr7⟩ := h
  exact Kd.Q_types ho hb ht
theorem IsS82.own_neQ {w0 W : World} {g : Nat} {f0 : Int} {f1 : Int} {f2 : Int} {f3 : Int} {f4 : Int} {f5 : Int} {f6 : List (List Int)} {f7 : List (List Int)} {f8 : Int} {f9 : Bool} {f10 : Bool} {α : Type} {d : Kd α} {e : Nat} {base : Nat} {ok : Nat → Prop} {v : Value} {xs : List α} (h : IsS82 w0 W g f0 f1 f2 f3 f4 f5 f6 f7 f8 f9 f10) (ho : d.Q e W base ok v xs) (ht : e ≠ 82) : some g ≠ v.ownBlock := by
  obtain ⟨A6, c6, A7, c7, hb, hg, hr6, hr7⟩ := h
  exact Kd.Q_ne ho hb ht
theorem IsS82.apartS {w0 W : World} {g : Nat} {f0 : Int} {f1 : Int} {f2 : Int} {f3 : Int} {f4 : Int} {f5 : Int} {f6 : List (List Int)} {f7 : List (List Int)} {f8 : Int} {f9 : Bool} {f10 : Bool} {α : Type} {d : Kd α} {e : Nat} {base : Nat} {ok : Nat → Prop} {v : Value} {xs : List α} (h : IsS82 w0 W g f0 f1 f2 f3 f4 f5 f6 f7 f8 f9 f10) (ho : d.S e W base ok v xs) (ht : ∀ q, q ∈ e :: d.E → q ≠ 82) : d.S e W base (fun k => ok k ∧ k ≠ g) v xs := by
  obtain ⟨A6, c6, A7, c7, hb, hg, hr6, hr7⟩ := h
  exact Kd.S_types ho hb ht
theorem IsS82.own_neS {w0 W : World} {g : Nat} {f0 : Int} {f1 : Int} {f2 : Int} {f3 : Int} {f4 : Int} {f5 : Int} {f6 : List (List Int)} {f7 : List (List Int)} {f8 : Int} {f9 : Bool} {f10 : Bool} {α : Type} {d : Kd α} {e : Nat} {base : Nat} {ok : Nat → Prop} {v : Value} {xs : List α} (h : IsS82 w0 W g f0 f1 f2 f3 f4 f5 f6 f7 f8 f9 f10) (ho : d.S e W base ok v xs) (ht : e ≠ 82) : some g ≠ v.ownBlock := by
  obtain ⟨A6, c6, A7, c7, hb, hg, hr6, hr7⟩ := h
  exact Kd.S_ne ho hb ht
theorem IsS82.lt {w0 W : World} {g : Nat} {f0 : Int} {f1 : Int} {f2 : Int} {f3 : Int} {f4 : Int} {f5 : Int} {f6 : List (List Int)} {f7 : List (List Int)} {f8 : Int} {f9 : Bool} {f10 : Bool} (h : IsS82 w0 W g f0 f1 f2 f3 f4 f5 f6 f7 f8 f9 f10) : g < W.heap.size := by
  obtain ⟨A6, c6, A7, c7, hb, hg, hr6, hr7⟩ := h
  exact blk_lt hb
theorem IsS82.ge {w0 W : World} {g : Nat} {f0 : Int} {f1 : Int} {f2 : Int} {f3 : Int} {f4 : Int} {f5 : Int} {f6 : List (List Int)} {f7 : List (List Int)} {f8 : Int} {f9 : Bool} {f10 : Bool} (h : IsS82 w0 W g f0 f1 f2 f3 f4 f5 f6 f7 f8 f9 f10) : w0.heap.size ≤ g := by
  obtain ⟨A6, c6, A7, c7, hb, hg, hr6, hr7⟩ := h
  exact hg
theorem IsS82.ne_blk {w0 W : World} {g : Nat} {f0 : Int} {f1 : Int} {f2 : Int} {f3 : Int} {f4 : Int} {f5 : Int} {f6 : List (List Int)} {f7 : List (List Int)} {f8 : Int} {f9 : Bool} {f10 : Bool} {a : Nat} {cs : Array Value} {t : TypeId} {fr : Nat × Nat} (h : IsS82 w0 W g f0 f1 f2 f3 f4 f5 f6 f7 f8 f9 f10) (hb2 : W.heap[a]? = some (.cells cs t fr)) (ht : t ≠ 82) : g ≠ a := by
  obtain ⟨A6, c6, A7, c7, hb, hg, hr6, hr7⟩ := h
  rintro rfl
  rw [hb] at hb2
  injection hb2 with hb2
  injection hb2 with _ ht2
  exact ht ht2.symm
theorem IsS82.far {w0 W : World} {g : Nat} {f0 : Int} {f1 : Int} {f2 : Int} {f3 : Int} {f4 : Int} {f5 : Int} {f6 : List (List Int)} {f7 : List (List Int)} {f8 : Int} {f9 : Bool} {f10 : Bool} {p : Addr} (h : IsS82 w0 W g f0 f1 f2 f3 f4 f5 f6 f7 f8 f9 f10) (hne : g ≠ p.block) (u : Value) : IsS82 w0 (W.setCell p u) g f0 f1 f2 f3 f4 f5 f6 f7 f8 f9 f10 := by
  obtain ⟨A6, c6, A7, c7, hb, hg, hr6, hr7⟩ := h
  exact ⟨A6, c6, A7, c7, blk_far hb hne u, hg, hr6, hr7⟩
theorem cellS82_0 {W : World} {g : Nat} {A6 : Option Addr} {c6 : Nat} {A7 : Option Addr} {c7 : Nat} {f0 : Int} {f1 : Int} {f2 : Int} {f3 : Int} {f4 : Int} {f5 : Int} {f6 : List (List Int)} {f7 : List (List Int)} {f8 : Int} {f9 : Bool} {f10 : Bool} (h : W.heap[g]? = some (.cells #[.int .i64 f0, .int .i64 f1, .int .i64 f2, .int .i64 f3, .int .i64 f4, .int .i64 f5, .slice A6 f6.length c6, .slice A7 f7.length c7, .int .i64 f8, .bool f9, .bool f10] 82 (0, 0))) : W.cell? ⟨g, 0, none⟩ = some (.int .i64 f0) := (blk_cell h 0).trans rfl
theorem IsS82.set_0 {w0 W : World} {g : Nat} {f0 : Int} {f1 : Int} {f2 : Int} {f3 : Int} {f4 : Int} {f5 : Int} {f6 : List (List Int)} {f7 : List (List Int)} {f8 : Int} {f9 : Bool} {f10 : Bool} (h : IsS82 w0 W g f0 f1 f2 f3 f4 f5 f6 f7 f8 f9 f10) (x : Int) : IsS82 w0 (W.setCell ⟨g, 0, none⟩ (.int .i64 x)) g x f1 f2 f3 f4 f5 f6 f7 f8 f9 f10 := by
  obtain ⟨A6, c6, A7, c7, hb, hg, hr6, hr7⟩ := h
  exact ⟨A6, c6, A7, c7, by simpa using blk_set hb 0 (.int .i64 x), hg, hr6, hr7⟩
theorem cellS82_1 {W : World} {g : Nat} {A6 : Option Addr} {c6 : Nat} {A7 : Option Addr} {c7 : Nat} {f0 : Int} {f1 : Int} {f2 : Int} {f3 : Int} {f4 : Int} {f5 : Int} {f6 : List (List Int)} {f7 : List (List Int)} {f8 : Int} {f9 : Bool} {f10 : Bool} (h : W.heap[g]? = some (.cells #[.int .i64 f0, .int .i64 f1, .int .i64 f2, .int .i64 f3, .int .i64 f4, .int .i64 f5, .slice A6 f6.length c6, .slice A7 f7.length c7, .int .i64 f8, .bool f9, .bool f10] 82 (0, 0))) : W.cell? ⟨g, 1, none⟩ = some (.int .i64 f1) := (blk_cell h 1).trans rfl
theorem IsS82.set_1 {w0 W : World} {g : Nat} {f0 : Int} {f1 : Int} {f2 : Int} {f3 : Int} {f4 : Int} {f5 : Int} {f6 : List (List Int)} {f7 : List (List Int)} {f8 : Int} {f9 : Bool} {f10 : Bool} (h : IsS82 w0 W g f0 f1 f2 f3 f4 f5 f6 f7 f8 f9 f10) (x : Int) : IsS82 w0 (W.setCell ⟨g, 1, none⟩ (.int .i64 x)) g f0 x f2 f3 f4 f5 f6 f7 f8 f9 f10 := by
  obtain ⟨A6, c6, A7, c7, hb, hg, hr6, hr7⟩ := h
  exact ⟨A6, c6, A7, c7, by simpa using blk_set hb 1 (.int .i64 x), hg, hr6, hr7⟩
theorem cellS82_2 {W : World} {g : Nat} {A6 : Option Addr} {c6 : Nat} {A7 : Option Addr} {c7 : Nat} {f0 : Int} {f1 : Int} {f2 : Int} {f3 : Int} {f4 : Int} {f5 : Int} {f6 : List (List Int)} {f7 : List (List Int)} {f8 : Int} {f9 : Bool} {f10 : Bool} (h : W.heap[g]? = some (.cells #[.int .i64 f0, .int .i64 f1, .int .i64 f2, .int .i64 f3, .int .i64 f4, .int .i64 f5, .slice A6 f6.length c6, .slice A7 f7.length c7, .int .i64 f8, .bool f9, .bool f10] 82 (0, 0))) : W.cell? ⟨g, 2, none⟩ = some (.int .i64 f2) := (blk_cell h 2).trans rfl
theorem IsS82.set_2 {w0 W : World} {g : Nat} {f0 : Int} {f1 : Int} {f2 : Int} {f3 : Int} {f4 : Int} {f5 : Int} {f6 : List (List Int)} {f7 : List (List Int)} {f8 : Int} {f9 : Bool} {f10 : Bool} (h : IsS82 w0 W g f0 f1 f2 f3 f4 f5 f6 f7 f8 f9 f10) (x : Int) : IsS82 w0 (W.setCell ⟨g, 2, none⟩ (.int .i64 x)) g f0 f1 x f3 f4 f5 f6 f7 f8 f9 f10 := by
  obtain ⟨A6, c6, A7, c7, hb, hg, hr6, hr7⟩ := h
  exact ⟨A6, c6, A7, c7, by simpa using blk_set hb 2 (.int .i64 x), hg, hr6, hr7⟩
theorem cellS82_3 {W : World} {g : Nat} {A6 : Option Addr} {c6 : Nat} {A7 : Option Addr} {c7 : Nat} {f0 : Int} {f1 : Int} {f2 : Int} {f3 : Int} {f4 : Int} {f5 : Int} {f6 : List (List Int)} {f7 : List (List Int)} {f8 : Int} {f9 : Bool} {f10 : Bool} (h : W.heap[g]? = some (.cells #[.int .i64 f0, .int .i64 f1, .int .i64 f2, .int .i64 f3, .int .i64 f4, .int .i64 f5, .slice A6 f6.length c6, .slice A7 f7.length c7, .int .i64 f8, .bool f9, .bool f10] 82 (0, 0))) : W.cell? ⟨g, 3, none⟩ = some (.int .i64 f3) := (blk_cell h 3).trans rfl
theorem IsS82.set_3 {w0 W : World} {g : Nat} {f0 : Int} {f1 : Int} {f2 : Int} {f3 : Int} {f4 : Int} {f5 : Int} {f6 : List (List Int)} {f7 : List (List Int)} {f8 : Int} {f9 : Bool} {f10 : Bool} (h : IsS82 w0 W g f0 f1 f2 f3 f4 f5 f6 f7 f8 f9 f10) (x : Int) : IsS82 w0 (W.setCell ⟨g, 3, none⟩ (.int .i64 x)) g f0 f1 f2 x f4 f5 f6 f7 f8 f9 f10 := by
  obtain ⟨A6, c6, A7, c7, hb, hg, hr6, hr7⟩ := h
  exact ⟨A6, c6, A7, c7, by simpa using blk_set hb 3 (.int .i64 x), hg, hr6, hr7⟩
theorem cellS82_4 {W : World} {g : Nat} {A6 : Option Addr} {c6 : Nat} {A7 : Option Addr} {c7 : Nat} {f0 : Int} {f1 : Int} {f2 : Int} {f3 : Int} {f4 : Int} {f5 : Int} {f6 : List (List Int)} {f7 : List (List Int)} {f8 : Int} {f9 : Bool} {f10 : Bool} (h : W.heap[g]? = some (.cells #[.int .i64 f0, .int .i64 f1, .int .i64 f2, .int .i64 f3, .int .i64 f4, .int .i64 f5, .slice A6 f6.length c6, .slice A7 f7.length c7, .int .i64 f8, .bool f9, .bool f10] 82 (0, 0))) : W.cell? ⟨g, 4, none⟩ = some (.int .i64 f4) := (blk_cell h 4).trans rfl
theorem IsS82.set_4 {w0 W : World} {g : Nat} {f0 : Int} {f1 : Int} {f2 : Int} {f3 : Int} {f4 : Int} {f5 : Int} {f6 : List (List Int)} {f7 : List (List Int)} {f8 : Int} {f9 : Bool} {f10 : Bool} (h : IsS82 w0 W g f0 f1 f2 f3 f4 f5 f6 f7 f8 f9 f10) (x : Int) : IsS82 w0 (W.setCell ⟨g, 4, none⟩ (.int .i64 x)) g f0 f1 f2 f3 x f5 f6 f7 f8 f9 f10 := by
  obtain ⟨A6, c6, A7, c7, hb, hg, hr6, hr7⟩ := h
  exact ⟨A6, c6, A7, c7, by simpa using blk_set hb 4 (.int .i64 x), hg, hr6, hr7⟩
theorem cellS82_5 {W : World} {g : Nat} {A6 : Option Addr} {c6 : Nat} {A7 : Option Addr} {c7 : Nat} {f0 : Int} {f1 : Int} {f2 : Int} {f3 : Int} {f4 : Int} {f5 : Int} {f6 : List (List Int)} {f7 : List (List Int)} {f8 : Int} {f9 : Bool} {f10 : Bool} (h : W.heap[g]? = some (.cells #[.int .i64 f0, .int .i64 f1, .int .i64 f2, .int .i64 f3, .int .i64 f4, .int .i64 f5, .slice A6 f6.length c6, .slice A7 f7.length c7, .int .i64 f8, .bool f9, .bool f10] 82 (0, 0))) : W.cell? ⟨g, 5, none⟩ = some (.int .i64 f5) := (blk_cell h 5).trans rfl
theorem IsS82.set_5 {w0 W : World} {g : Nat} {f0 : Int} {f1 : Int} {f2 : Int} {f3 : Int} {f4 : Int} {f5 : Int} {f6 : List (List Int)} {f7 : List (List Int)} {f8 : Int} {f9 : Bool} {f10 : Bool} (h : IsS82 w0 W g f0 f1 f2 f3 f4 f5 f6 f7 f8 f9 f10) (x : Int) : IsS82 w0 (W.setCell ⟨g, 5, none⟩ (.int .i64 x)) g f0 f1 f2 f3 f4 x f6 f7 f8 f9 f10 := by
  obtain ⟨A6, c6, A7, c7, hb, hg, hr6, hr7⟩ := h
  exact ⟨A6, c6, A7, c7, by simpa using blk_set hb 5 (.int .i64 x), hg, hr6, hr7⟩
theorem cellS82_6 {W : World} {g : Nat} {A6 : Option Addr} {c6 : Nat} {A7 : Option Addr} {c7 : Nat} {f0 : Int} {f1 : Int} {f2 : Int} {f3 : Int} {f4 : Int} {f5 : Int} {f6 : List (List Int)} {f7 : List (List Int)} {f8 : Int} {f9 : Bool} {f10 : Bool} (h : W.heap[g]? = some (.cells #[.int .i64 f0, .int .i64 f1, .int .i64 f2, .int .i64 f3, .int .i64 f4, .int .i64 f5, .slice A6 f6.length c6, .slice A7 f7.length c7, .int .i64 f8, .bool f9, .bool f10] 82 (0, 0))) : W.cell? ⟨g, 6, none⟩ = some (.slice A6 f6.length c6) := (blk_cell h 6).trans rfl
theorem cellS82_7 {W : World} {g : Nat} {A6 : Option Addr} {c6 : Nat} {A7 : Option Addr} {c7 : Nat} {f0 : Int} {f1 : Int} {f2 : Int} {f3 : Int} {f4 : Int} {f5 : Int} {f6 : List (List Int)} {f7 : List (List Int)} {f8 : Int} {f9 : Bool} {f10 : Bool} (h : W.heap[g]? = some (.cells #[.int .i64 f0, .int .i64 f1, .int .i64 f2, .int .i64 f3, .int .i64 f4, .int .i64 f5, .slice A6 f6.length c6, .slice A7 f7.length c7, .int .i64 f8, .bool f9, .bool f10] 82 (0, 0))) : W.cell? ⟨g, 7, none⟩ = some (.slice A7 f7.length c7) := (blk_cell h 7).trans rfl
theorem cellS82_8 {W : World} {g : Nat} {A6 : Option Addr} {c6 : Nat} {A7 : Option Addr} {c7 : Nat} {f0 : Int} {f1 : Int} {f2 : Int} {f3 : Int} {f4 : Int} {f5 : Int} {f6 : List (List Int)} {f7 : List (List Int)} {f8 : Int} {f9 : Bool} {f10 : Bool} (h : W.heap[g]? = some (.cells #[.int .i64 f0, .int .i64 f1, .int .i64 f2, .int .i64 f3, .int .i64 f4, .int .i64 f5, .slice A6 f6.length c6, .slice A7 f7.length c7, .int .i64 f8, .bool f9, .bool f10] 82 (0, 0))) : W.cell? ⟨g, 8, none⟩ = some (.int .i64 f8) := (blk_cell h 8).trans rfl
theorem IsS82.set_8 {w0 W : World} {g : Nat} {f0 : Int} {f1 : Int} {f2 : Int} {f3 : Int} {f4 : Int} {f5 : Int} {f6 : List (List Int)} {f7 : List (List Int)} {f8 : Int} {f9 : Bool} {f10 : Bool} (h : IsS82 w0 W g f0 f1 f2 f3 f4 f5 f6 f7 f8 f9 f10) (x : Int) : IsS82 w0 (W.setCell ⟨g, 8, none⟩ (.int .i64 x)) g f0 f1 f2 f3 f4 f5 f6 f7 x f9 f10 := by
  obtain ⟨A6, c6, A7, c7, hb, hg, hr6, hr7⟩ := h
  exact ⟨A6, c6, A7, c7, by simpa using blk_set hb 8 (.int .i64 x), hg, hr6, hr7⟩
theorem cellS82_9 {W : World} {g : Nat} {A6 : Option Addr} {c6 : Nat} {A7 : Option Addr} {c7 : Nat} {f0 : Int} {f1 : Int} {f2 : Int} {f3 : Int} {f4 : Int} {f5 : Int} {f6 : List (List Int)} {f7 : List (List Int)} {f8 : Int} {f9 : Bool} {f10 : Bool} (h : W.heap[g]? = some (.cells #[.int .i64 f0, .int .i64 f1, .int .i64 f2, .int .i64 f3, .int .i64 f4, .int .i64 f5, .slice A6 f6.length c6, .slice A7 f7.length c7, .int .i64 f8, .bool f9, .bool f10] 82 (0, 0))) : W.cell? ⟨g, 9, none⟩ = some (.bool f9) := (blk_cell h 9).trans rfl
theorem IsS82.set_9 {w0 W : World} {g : Nat} {f0 : Int} {f1 : Int} {f2 : Int} {f3 : Int} {f4 : Int} {f5 : Int} {f6 : List (List Int)} {f7 : List (List Int)} {f8 : Int} {f9 : Bool} {f10 : Bool} (h : IsS82 w0 W g f0 f1 f2 f3 f4 f5 f6 f7 f8 f9 f10) (x : Bool) : IsS82 w0 (W.setCell ⟨g, 9, none⟩ (.bool x)) g f0 f1 f2 f3 f4 f5 f6 f7 f8 x f10 := by
  obtain ⟨A6, c6, A7, c7, hb, hg, hr6, hr7⟩ := h
  exact ⟨A6, c6, A7, c7, by simpa using blk_set hb 9 (.bool x), hg, hr6, hr7⟩
theorem cellS82_10 {W : World} {g : Nat} {A6 : Option Addr} {c6 : Nat} {A7 : Option Addr} {c7 : Nat} {f0 : Int} {f1 : Int} {f2 : Int} {f3 : Int} {f4 : Int} {f5 : Int} {f6 : List (List Int)} {f7 : List (List Int)} {f8 : Int} {f9 : Bool} {f10 : Bool} (h : W.heap[g]? = some (.cells #[.int .i64 f0, .int .i64 f1, .int .i64 f2, .int .i64 f3, .int .i64 f4, .int .i64 f5, .slice A6 f6.length c6, .slice A7 f7.length c7, .int .i64 f8, .bool f9, .bool f10] 82 (0, 0))) : W.cell? ⟨g, 10, none⟩ = some (.bool f10) := (blk_cell h 10).trans rfl
theorem IsS82.set_10 {w0 W : World} {g : Nat} {f0 : Int} {f1 : Int} {f2 : Int} {f3 : Int} {f4 : Int} {f5 : Int} {f6 : List (List Int)} {f7 : List (List Int)} {f8 : Int} {f9 : Bool} {f10 : Bool} (h : IsS82 w0 W g f0 f1 f2 f3 f4 f5 f6 f7 f8 f9 f10) (x : Bool) : IsS82 w0 (W.setCell ⟨g, 10, none⟩ (.bool x)) g f0 f1 f2 f3 f4 f5 f6 f7 f8 f9 x := by
  obtain ⟨A6, c6, A7, c7, hb, hg, hr6, hr7⟩ := h
  exact ⟨A6, c6, A7, c7, by simpa using blk_set hb 10 (.bool x), hg, hr6, hr7⟩
theorem IsS82.new (w0 W : World) (A6 : Option Addr) (c6 : Nat) (A7 : Option Addr) (c7 : Nat) (f0 : Int) (f1 : Int) (f2 : Int) (f3 : Int) (f4 : Int) (f5 : Int) (f6 : List (List Int)) (f7 : List (List Int)) (f8 : Int) (f9 : Bool) (f10 : Bool) (hB : Below w0.heap.size w0 W) (hr6 : Kd.C (Kd.slice 5 (Kd.int .u8)) w0 A6 f6.length f6) (hr7 : Kd.C (Kd.slice 5 (Kd.int .u8)) w0 A7 f7.length f7) : IsS82 w0 (W.alloc (.cells #[.int .i64 f0, .int .i64 f1, .int .i64 f2, .int .i64 f3, .int .i64 f4, .int .i64 f5, .slice A6 f6.length c6, .slice A7 f7.length c7, .int .i64 f8, .bool f9, .bool f10] 82)) W.heap.size f0 f1 f2 f3 f4 f5 f6 f7 f8 f9 f10 := ⟨A6, c6, A7, c7, by simpa using heap_alloc_new W _, hB.size, hr6, hr7⟩

/-! ### talk_Talker_due: function 34 -/
def talk_Talker_due.j0 : Nat → Int → Bool → Int → Int → Int → Int → Int → Int → List (List Int) → List (List Int) → Int → Bool → Bool → Option (Bool × Int × Int × Int × Int × Int × Int × Int × Bool × Bool)
  | 0, _, _, _, _, _, _, _, _, _, _, _, _, _ => none
  | k + 1, x1, x5, x1000, x1001, x1002, x1003, x1004, x1005, x1006, x1007, x1008, x1009, x1010 => if x5 = true then (some (true, x1000, x1001, x1002, x1003, x1004, x1005, x1008, x1009, x1010)) else (if (x1006.length : Int) = 0 then (some (false, x1000, x1001, x1002, x1003, x1004, x1005, x1008, x1009, x1010)) else (if x1009 = true then (some (decide ((wrap64 (x1 - x1008)) ≥ x1001), x1000, x1001, x1002, x1003, x1004, x1005, x1008, x1009, x1010)) else (some (false, x1000, x1001, x1002, x1003, x1004, x1005, x1008, x1009, x1010))))
def talk_Talker_due.f (k : Nat) (s0_0 : Int) (s0_1 : Int) (s0_2 : Int) (s0_3 : Int) (s0_4 : Int) (s0_5 : Int) (s0_6 : List (List Int)) (s0_7 : List (List Int)) (s0_8 : Int) (s0_9 : Bool) (s0_10 : Bool) (a1 : Int) : Option (Bool × Int × Int × Int × Int × Int × Int × Int × Bool × Bool) := if s0_2 > s0_4 then (talk_Talker_due.j0 k a1 true s0_0 s0_1 s0_2 s0_3 s0_4 s0_5 s0_6 s0_7 s0_8 s0_9 s0_10) else (talk_Talker_due.j0 k a1 s0_10 s0_0 s0_1 s0_2 s0_3 s0_4 s0_5 s0_6 s0_7 s0_8 s0_9 s0_10)
theorem talk_Talker_due.mono_l : ∀ k, (∀ y0 y1 y2 y3 y4 y5 y6 y7 y8 y9 y10 y11 y12, LeO (talk_Talker_due.j0 k y0 y1 y2 y3 y4 y5 y6 y7 y8 y9 y10 y11 y12) (talk_Talker_due.j0 (k + 1) y0 y1 y2 y3 y4 y5 y6 y7 y8 y9 y10 y11 y12))
  | 0 => fun _ _ _ _ _ _ _ _ _ _ _ _ _ r h => by simp [talk_Talker_due.j0] at h
  | k + 1 => by
    have ih0 := talk_Talker_due.mono_l k
    · intro y0 y1 y2 y3 y4 y5 y6 y7 y8 y9 y10 y11 y12
      unfold talk_Talker_due.j0
      repeat' first
      | (with_reducible exact ih0 _ _ _ _ _ _ _ _ _ _ _ _ _)
      | (with_reducible exact LeO.refl _)
      | (with_reducible exact LeO.none _)
      | (with_reducible refine LeO.ite ?_ ?_)
      | (with_reducible refine LeO.bind ?_ (fun _ => ?_))
      | exact ih0 _ _ _ _ _ _ _ _ _ _ _ _ _
      | exact LeO.none _
      | refine LeO.ite ?_ ?_
      | refine LeO.bind ?_ (fun _ => ?_)
theorem talk_Talker_due.mono : ∀ a0 a1 a2 a3 a4 a5 a6 a7 a8 a9 a10 a11 k, LeO (talk_Talker_due.f k a0 a1 a2 a3 a4 a5 a6 a7 a8 a9 a10 a11) (talk_Talker_due.f (k + 1) a0 a1 a2 a3 a4 a5 a6 a7 a8 a9 a10 a11) := by
  intro a0 a1 a2 a3 a4 a5 a6 a7 a8 a9 a10 a11 k
  have ih0 := talk_Talker_due.mono_l k
  unfold talk_Talker_due.f
  repeat' first
      | (with_reducible exact ih0 _ _ _ _ _ _ _ _ _ _ _ _ _)
      | (with_reducible exact LeO.refl _)
      | (with_reducible exact LeO.none _)
      | (with_reducible refine LeO.ite ?_ ?_)
      | (with_reducible refine LeO.bind ?_ (fun _ => ?_))
      | exact ih0 _ _ _ _ _ _ _ _ _ _ _ _ _
      | exact LeO.none _
      | refine LeO.ite ?_ ?_
      | refine LeO.bind ?_ (fun _ => ?_)
set_option maxHeartbeats 8000000 in
set_option maxRecDepth 100000 in
theorem talk_Talker_due.calls (k : Nat) (g : Nat) (s0_0 : Int) (s0_1 : Int) (s0_2 : Int) (s0_3 : Int) (s0_4 : Int) (s0_5 : Int) (s0_6 : List (List Int)) (s0_7 : List (List Int)) (s0_8 : Int) (s0_9 : Bool) (s0_10 : Bool) (a1 : Int) (r1 : Bool) (r2 : Int) (r3 : Int) (r4 : Int) (r5 : Int) (r6 : Int) (r7 : Int) (r8 : Int) (r9 : Bool) (r10 : Bool) (w0 w : World) (hI : IsS82 w0 w g s0_0 s0_1 s0_2 s0_3 s0_4 s0_5 s0_6 s0_7 s0_8 s0_9 s0_10) (hB : Below w0.heap.size w0 w) (h : talk_Talker_due.f k s0_0 s0_1 s0_2 s0_3 s0_4 s0_5 s0_6 s0_7 s0_8 s0_9 s0_10 a1 = some (r1, r2, r3, r4, r5, r6, r7, r8, r9, r10)) :
    Calls Try.prog 34 #[.pointer (some ⟨g, 0, none⟩), .int .i64 a1] w fun e w' => e = .returned (.bool r1) ∧ IsS82 w0 w' g r2 r3 r4 r5 r6 r7 s0_6 s0_7 r8 r9 r10 ∧ Below w0.heap.size w0 w' ∧ KeepBut w w' g none := by
  have HI0 := Aside0.mk hI
  have HK := Aside0.mk (KeepBut.refl w g none)
  have HL := Aside0.mk hB.size
  clear hI
  have HW0 := Aside0.mk hB.size
  have HB := Aside0.mk hB
  clear hB
  have H : (if s0_2 > s0_4 then (talk_Talker_due.j0 k a1 true s0_0 s0_1 s0_2 s0_3 s0_4 s0_5 s0_6 s0_7 s0_8 s0_9 s0_10) else (talk_Talker_due.j0 k a1 s0_10 s0_0 s0_1 s0_2 s0_3 s0_4 s0_5 s0_6 s0_7 s0_8 s0_9 s0_10)) = some (r1, r2, r3, r4, r5, r6, r7, r8, r9, r10) := h
  clear h
  have HC3 := Aside0.mk H
  clear H
  go_enter Try.func34, Try.ntmps34
  go_upto_region 1 with (fail)
  repeat (go_quiet (fail); go_upto_region 1 with (fail))
  go_cut [5] (fun v5 wc => ∃ (kq : Nat) (x5_2 : Bool), v5 = .bool x5_2 ∧ Aside0 (talk_Talker_due.j0 kq a1 x5_2 s0_0 s0_1 s0_2 s0_3 s0_4 s0_5 s0_6 s0_7 s0_8 s0_9 s0_10 = some (r1, r2, r3, r4, r5, r6, r7, r8, r9, r10)) ∧ Aside0 (kq ≤ k) ∧ Aside0 (IsS82 w0 wc g s0_0 s0_1 s0_2 s0_3 s0_4 s0_5 s0_6 s0_7 s0_8 s0_9 s0_10) ∧ Aside0 (KeepBut w wc g none) ∧ Aside0 (Below w0.heap.size w0 wc))
  case first =>
    have H := HC3.out
    clear HC3
    by_cases c4 : s0_2 > s0_4
    · rw [if_pos c4] at H
      have c4b0 : decide (s0_4 < s0_2) = true := decide_eq_true c4
      clear c4
      (first | rw [c4b0] | (simp only [i64_w, i32_w]; rw [c4b0]) | skip)
      have H' := Aside0.mk H
      clear H
      obtain ⟨ASz5_6, cSz5_6, ASz5_7, cSz5_7, HGz5, hgz5, HSz5_6, HSz5_7⟩ := HI0.out
      have hcz5_0 := cellS82_0 HGz5
      have hcz5_1 := cellS82_1 HGz5
      have hcz5_2 := cellS82_2 HGz5
      have hcz5_3 := cellS82_3 HGz5
      have hcz5_4 := cellS82_4 HGz5
      have hcz5_5 := cellS82_5 HGz5
      have hcz5_6 := cellS82_6 HGz5
      have hcz5_7 := cellS82_7 HGz5
      have hcz5_8 := cellS82_8 HGz5
      have hcz5_9 := cellS82_9 HGz5
      have hcz5_10 := cellS82_10 HGz5
      have hfz5_0 := blk_frozen HGz5 0
      have hfz5_1 := blk_frozen HGz5 1
      have hfz5_2 := blk_frozen HGz5 2
      have hfz5_3 := blk_frozen HGz5 3
      have hfz5_4 := blk_frozen HGz5 4
      have hfz5_5 := blk_frozen HGz5 5
      have hfz5_8 := blk_frozen HGz5 8
      have hfz5_9 := blk_frozen HGz5 9
      have hfz5_10 := blk_frozen HGz5 10
      clear HGz5 hgz5
      go_wp2
      repeat (go_quiet (fail); try go_wp2)
      go_meet
      case rel => exact ⟨_, (true), (by first | rfl | (simp; done) | (simp [*]; done)), H', ⟨by first | omega | exact Nat.le_refl _⟩, ⟨by repeat (first | (with_reducible first | exact HI0.out | apply IsS82.alloc | apply IsS82.drewN | apply IsS82.drew | apply IsS82.set_0 | apply IsS82.set_1 | apply IsS82.set_2 | apply IsS82.set_3 | apply IsS82.set_4 | apply IsS82.set_5 | apply IsS82.set_8 | apply IsS82.set_9 | apply IsS82.set_10) | exact HI0.out)⟩, ⟨by repeat (first | (with_reducible first | exact HK.out | apply KeepBut.set_ | apply keep_drewN | apply keep_drew | apply keep_alloc) | exact HK.out)⟩, ⟨by repeat (first | (with_reducible first | exact HB.out | apply below_alloc | apply pw_below_drewN | apply below_drew1 | refine below_set ?_ (IsS82.ge HI0.out)) | exact HB.out)⟩⟩
    · rw [if_neg c4] at H
      have c4b0 : decide (s0_4 < s0_2) = false := decide_eq_false c4
      clear c4
      (first | rw [c4b0] | (simp only [i64_w, i32_w]; rw [c4b0]) | skip)
      have H' := Aside0.mk H
      clear H
      obtain ⟨ASz6_6, cSz6_6, ASz6_7, cSz6_7, HGz6, hgz6, HSz6_6, HSz6_7⟩ := HI0.out
      have hcz6_0 := cellS82_0 HGz6
      have hcz6_1 := cellS82_1 HGz6
      have hcz6_2 := cellS82_2 HGz6
      have hcz6_3 := cellS82_3 HGz6
      have hcz6_4 := cellS82_4 HGz6
      have hcz6_5 := cellS82_5 HGz6
      have hcz6_6 := cellS82_6 HGz6
      have hcz6_7 := cellS82_7 HGz6
      have hcz6_8 := cellS82_8 HGz6
      have hcz6_9 := cellS82_9 HGz6
      have hcz6_10 := cellS82_10 HGz6
      have hfz6_0 := blk_frozen HGz6 0
      have hfz6_1 := blk_frozen HGz6 1
      have hfz6_2 := blk_frozen HGz6 2
      have hfz6_3 := blk_frozen HGz6 3
      have hfz6_4 := blk_frozen HGz6 4
      have hfz6_5 := blk_frozen HGz6 5
      have hfz6_8 := blk_frozen HGz6 8
      have hfz6_9 := blk_frozen HGz6 9
      have hfz6_10 := blk_frozen HGz6 10
      clear HGz6 hgz6
      go_wp2
      repeat (go_quiet (fail); try go_wp2)
      go_meet
      case rel => exact ⟨_, (s0_10), (by first | rfl | (simp; done) | (simp [*]; done)), H', ⟨by first | omega | exact Nat.le_refl _⟩, ⟨by repeat (first | (with_reducible first | exact HI0.out | apply IsS82.alloc | apply IsS82.drewN | apply IsS82.drew | apply IsS82.set_0 | apply IsS82.set_1 | apply IsS82.set_2 | apply IsS82.set_3 | apply IsS82.set_4 | apply IsS82.set_5 | apply IsS82.set_8 | apply IsS82.set_9 | apply IsS82.set_10) | exact HI0.out)⟩, ⟨by repeat (first | (with_reducible first | exact HK.out | apply KeepBut.set_ | apply keep_drewN | apply keep_drew | apply keep_alloc) | exact HK.out)⟩, ⟨by repeat (first | (with_reducible first | exact HB.out | apply below_alloc | apply pw_below_drewN | apply below_drew1 | refine below_set ?_ (IsS82.ge HI0.out)) | exact HB.out)⟩⟩
  case rest =>
    clear HC3
    try clear p2
    try clear c3
    try clear c4
    try clear c4b0
    try clear hcz5_0
    try clear hcz5_1
    try clear hcz5_10
    try clear hcz5_2
    try clear hcz5_3
    try clear hcz5_4
    try clear hcz5_5
    try clear hcz5_6
    try clear hcz5_7
    try clear hcz5_8
    try clear hcz5_9
    try clear hcz6_0
    try clear hcz6_1
    try clear hcz6_10
    try clear hcz6_2
    try clear hcz6_3
    try clear hcz6_4
    try clear hcz6_5
    try clear hcz6_6
    try clear hcz6_7
    try clear hcz6_8
    try clear hcz6_9
    try clear hfz5_0
    try clear hfz5_1
    try clear hfz5_10
    try clear hfz5_2
    try clear hfz5_3
    try clear hfz5_4
    try clear hfz5_5
    try clear hfz5_8
    try clear hfz5_9
    try clear hfz6_0
    try clear hfz6_1
    try clear hfz6_10
    try clear hfz6_2
    try clear hfz6_3
    try clear hfz6_4
    try clear hfz6_5
    try clear hfz6_8
    try clear hfz6_9
    obtain ⟨kq, x5_2, rfl, HA, HJ2, HI0, HK, HB⟩ := hcut
    cases kq with
    | zero => exact absurd HA.out (by simp [talk_Talker_due.j0])
    | succ kj2 =>
      have H := HA.out
      clear HA
      simp only [talk_Talker_due.j0] at H
      by_cases c7 : x5_2 = true
      · subst c7
        have H1 : (some (true, s0_0, s0_1, s0_2, s0_3, s0_4, s0_5, s0_8, s0_9, s0_10)) = some (r1, r2, r3, r4, r5, r6, r7, r8, r9, r10) := by rw [if_pos rfl] at H; exact H
        clear H
        have H := H1
        clear H1
        simp only [Option.some.injEq, Prod.mk.injEq] at H
        obtain ⟨rfl, rfl, rfl, rfl, rfl, rfl, rfl, rfl, rfl, rfl⟩ := H
        go_wp2
        repeat (go_quiet (fail); try go_wp2)
        go_ret
        exact ⟨by first | rfl | (simp [errW_none, errW_some] <;> rfl) | (simp [*, errW_none, errW_some] <;> rfl), by repeat (first | (with_reducible first | exact HI0.out | apply IsS82.alloc | apply IsS82.drewN | apply IsS82.drew | apply IsS82.set_0 | apply IsS82.set_1 | apply IsS82.set_2 | apply IsS82.set_3 | apply IsS82.set_4 | apply IsS82.set_5 | apply IsS82.set_8 | apply IsS82.set_9 | apply IsS82.set_10) | exact HI0.out), by repeat (first | (with_reducible first | exact HB.out | apply below_alloc | apply pw_below_drewN | apply below_drew1 | refine below_set ?_ (IsS82.ge HI0.out)) | exact HB.out), by repeat (first | (with_reducible first | exact HK.out | apply KeepBut.set_ | apply keep_drewN | apply keep_drew | apply keep_alloc) | exact HK.out)⟩
      · replace c7 := Bool.eq_false_iff.mpr c7
        subst c7
        have H1 : (if (s0_6.length : Int) = 0 then (some (false, s0_0, s0_1, s0_2, s0_3, s0_4, s0_5, s0_8, s0_9, s0_10)) else (if s0_9 = true then (some (decide ((wrap64 (a1 - s0_8)) ≥ s0_1), s0_0, s0_1, s0_2, s0_3, s0_4, s0_5, s0_8, s0_9, s0_10)) else (some (false, s0_0, s0_1, s0_2, s0_3, s0_4, s0_5, s0_8, s0_9, s0_10)))) = some (r1, r2, r3, r4, r5, r6, r7, r8, r9, r10) := by rw [if_neg (show ¬ (false = true) by decide)] at H; exact H
        clear H
        have H := H1
        clear H1
        by_cases c8 : (s0_6.length : Int) = 0
        · rw [if_pos c8] at H
          have c8b0 : ((s0_6.length : Int) == 0) = true := beq_iff_eq.mpr c8
          have c8b1 : ((s0_6.length : Int) != 0) = false := bne_eq_false_iff_eq.mpr c8
          clear c8
          simp only [Option.some.injEq, Prod.mk.injEq] at H
          obtain ⟨rfl, rfl, rfl, rfl, rfl, rfl, rfl, rfl, rfl, rfl⟩ := H
          obtain ⟨ASz9_6, cSz9_6, ASz9_7, cSz9_7, HGz9, hgz9, HSz9_6, HSz9_7⟩ := HI0.out
          have hcz9_0 := cellS82_0 HGz9
          have hcz9_1 := cellS82_1 HGz9
          have hcz9_2 := cellS82_2 HGz9
          have hcz9_3 := cellS82_3 HGz9
          have hcz9_4 := cellS82_4 HGz9
          have hcz9_5 := cellS82_5 HGz9
          have hcz9_6 := cellS82_6 HGz9
          have hcz9_7 := cellS82_7 HGz9
          have hcz9_8 := cellS82_8 HGz9
          have hcz9_9 := cellS82_9 HGz9
          have hcz9_10 := cellS82_10 HGz9
          have hfz9_0 := blk_frozen HGz9 0
          have hfz9_1 := blk_frozen HGz9 1
          have hfz9_2 := blk_frozen HGz9 2
          have hfz9_3 := blk_frozen HGz9 3
          have hfz9_4 := blk_frozen HGz9 4
          have hfz9_5 := blk_frozen HGz9 5
          have hfz9_8 := blk_frozen HGz9 8
          have hfz9_9 := blk_frozen HGz9 9
          have hfz9_10 := blk_frozen HGz9 10
          clear HGz9 hgz9
          go_wp2
          repeat (go_quiet (fail); try go_wp2)
          go_ret
          exact ⟨by first | rfl | (simp [errW_none, errW_some] <;> rfl) | (simp [*, errW_none, errW_some] <;> rfl), by repeat (first | (with_reducible first | exact HI0.out | apply IsS82.alloc | apply IsS82.drewN | apply IsS82.drew | apply IsS82.set_0 | apply IsS82.set_1 | apply IsS82.set_2 | apply IsS82.set_3 | apply IsS82.set_4 | apply IsS82.set_5 | apply IsS82.set_8 | apply IsS82.set_9 | apply IsS82.set_10) | exact HI0.out), by repeat (first | (with_reducible first | exact HB.out | apply below_alloc | apply pw_below_drewN | apply below_drew1 | refine below_set ?_ (IsS82.ge HI0.out)) | exact HB.out), by repeat (first | (with_reducible first | exact HK.out | apply KeepBut.set_ | apply keep_drewN | apply keep_drew | apply keep_alloc) | exact HK.out)⟩
        · rw [if_neg c8] at H
          have c8b0 : ((s0_6.length : Int) == 0) = false := beq_eq_false_iff_ne.mpr c8
          have c8b1 : ((s0_6.length : Int) != 0) = true := bne_iff_ne.mpr c8
          have c8b2 : ¬ (s0_6 = []) := fun h_ => c8 (by rw [h_]; rfl)
          by_cases c10 : s0_9 = true
          · subst c10
            have H1 : (some (decide ((wrap64 (a1 - s0_8)) ≥ s0_1), s0_0, s0_1, s0_2, s0_3, s0_4, s0_5, s0_8, true, s0_10)) = some (r1, r2, r3, r4, r5, r6, r7, r8, r9, r10) := by rw [if_pos rfl] at H; exact H
            clear H
            have H := H1
            clear H1
            simp only [Option.some.injEq, Prod.mk.injEq] at H
            obtain ⟨rfl, rfl, rfl, rfl, rfl, rfl, rfl, rfl, rfl, rfl⟩ := H
            obtain ⟨ASz11_6, cSz11_6, ASz11_7, cSz11_7, HGz11, hgz11, HSz11_6, HSz11_7⟩ := HI0.out
            have hcz11_0 := cellS82_0 HGz11
            have hcz11_1 := cellS82_1 HGz11
            have hcz11_2 := cellS82_2 HGz11
            have hcz11_3 := cellS82_3 HGz11
            have hcz11_4 := cellS82_4 HGz11
            have hcz11_5 := cellS82_5 HGz11
            have hcz11_6 := cellS82_6 HGz11
            have hcz11_7 := cellS82_7 HGz11
            have hcz11_8 := cellS82_8 HGz11
            have hcz11_9 := cellS82_9 HGz11
            have hcz11_10 := cellS82_10 HGz11
            have hfz11_0 := blk_frozen HGz11 0
            have hfz11_1 := blk_frozen HGz11 1
            have hfz11_2 := blk_frozen HGz11 2
            have hfz11_3 := blk_frozen HGz11 3
            have hfz11_4 := blk_frozen HGz11 4
            have hfz11_5 := blk_frozen HGz11 5
            have hfz11_8 := blk_frozen HGz11 8
            have hfz11_9 := blk_frozen HGz11 9
            have hfz11_10 := blk_frozen HGz11 10
            clear HGz11 hgz11
            go_wp2
            repeat (go_quiet (fail); try go_wp2)
            go_ret
            exact ⟨by first | rfl | (simp [errW_none, errW_some] <;> rfl) | (simp [*, errW_none, errW_some] <;> rfl), by repeat (first | (with_reducible first | exact HI0.out | apply IsS82.alloc | apply IsS82.drewN | apply IsS82.drew | apply IsS82.set_0 | apply IsS82.set_1 | apply IsS82.set_2 | apply IsS82.set_3 | apply IsS82.set_4 | apply IsS82.set_5 | apply IsS82.set_8 | apply IsS82.set_9 | apply IsS82.set_10) | exact HI0.out), by repeat (first | (with_reducible first | exact HB.out | apply below_alloc | apply pw_below_drewN | apply below_drew1 | refine below_set ?_ (IsS82.ge HI0.out)) | exact HB.out), by repeat (first | (with_reducible first | exact HK.out | apply KeepBut.set_ | apply keep_drewN | apply keep_drew | apply keep_alloc) | exact HK.out)⟩
          · replace c10 := Bool.eq_false_iff.mpr c10
            subst c10
            have H1 : (some (false, s0_0, s0_1, s0_2, s0_3, s0_4, s0_5, s0_8, false, s0_10)) = some (r1, r2, r3, r4, r5, r6, r7, r8, r9, r10) := by rw [if_neg (show ¬ (false = true) by decide)] at H; exact H
            clear H
            have H := H1
            clear H1
            simp only [Option.some.injEq, Prod.mk.injEq] at H
            obtain ⟨rfl, rfl, rfl, rfl, rfl, rfl, rfl, rfl, rfl, rfl⟩ := H
            obtain ⟨ASz12_6, cSz12_6, ASz12_7, cSz12_7, HGz12, hgz12, HSz12_6, HSz12_7⟩ := HI0.out
            have hcz12_0 := cellS82_0 HGz12
            have hcz12_1 := cellS82_1 HGz12
            have hcz12_2 := cellS82_2 HGz12
            have hcz12_3 := cellS82_3 HGz12
            have hcz12_4 := cellS82_4 HGz12
            have hcz12_5 := cellS82_5 HGz12
            have hcz12_6 := cellS82_6 HGz12
            have hcz12_7 := cellS82_7 HGz12
            have hcz12_8 := cellS82_8 HGz12
            have hcz12_9 := cellS82_9 HGz12
            have hcz12_10 := cellS82_10 HGz12
            have hfz12_0 := blk_frozen HGz12 0
            have hfz12_1 := blk_frozen HGz12 1
            have hfz12_2 := blk_frozen HGz12 2
            have hfz12_3 := blk_frozen HGz12 3
            have hfz12_4 := blk_frozen HGz12 4
            have hfz12_5 := blk_frozen HGz12 5
            have hfz12_8 := blk_frozen HGz12 8
            have hfz12_9 := blk_frozen HGz12 9
            have hfz12_10 := blk_frozen HGz12 10
            clear HGz12 hgz12
            go_wp2
            repeat (go_quiet (fail); try go_wp2)
            go_ret
            exact ⟨by first | rfl | (simp [errW_none, errW_some] <;> rfl) | (simp [*, errW_none, errW_some] <;> rfl), by repeat (first | (with_reducible first | exact HI0.out | apply IsS82.alloc | apply IsS82.drewN | apply IsS82.drew | apply IsS82.set_0 | apply IsS82.set_1 | apply IsS82.set_2 | apply IsS82.set_3 | apply IsS82.set_4 | apply IsS82.set_5 | apply IsS82.set_8 | apply IsS82.set_9 | apply IsS82.set_10) | exact HI0.out), by repeat (first | (with_reducible first | exact HB.out | apply below_alloc | apply pw_below_drewN | apply below_drew1 | refine below_set ?_ (IsS82.ge HI0.out)) | exact HB.out), by repeat (first | (with_reducible first | exact HK.out | apply KeepBut.set_ | apply keep_drewN | apply keep_drew | apply keep_alloc) | exact HK.out)⟩

/-! ### baizelaw44_small: function 13 -/
mutual
def baizelaw44_small.l0 : Nat → List (S38) → Int → Int → Option (Bool)
  | 0, _, _, _ => none
  | k + 1, x0, x3, x4 => if x4 < (x0.length : Int) then (if 0 ≤ x4 then (baizelaw44_small.l1 k x0 (wrap64 (x3 + (((rd_T38 x0 x4).f1).length : Int))) x4 0) else (none)) else (some (decide (x3 ≤ 60000)))
def baizelaw44_small.l1 : Nat → List (S38) → Int → Int → Int → Option (Bool)
  | 0, _, _, _, _ => none
  | k + 1, x0, x3, x4, x5 => if 0 ≤ x4 then (if x4 < (x0.length : Int) then (if x5 < (((rd_T38 x0 x4).f3.f1).length : Int) then (if 0 ≤ x5 then (baizelaw44_small.l1 k x0 (wrap64 (x3 + ((rd_L1 ((rd_T38 x0 x4).f3.f1) x5).length : Int))) x4 (wrap64 (x5 + 1))) else (none)) else (baizelaw44_small.l0 k x0 x3 (wrap64 (x4 + 1)))) else (none)) else (none)
end
def baizelaw44_small.f (k : Nat) (l0 : List (S38)) : Option (Bool) := baizelaw44_small.l0 k l0 0 0
theorem baizelaw44_small.mono_l : ∀ k, (∀ y0 y1 y2, LeO (baizelaw44_small.l0 k y0 y1 y2) (baizelaw44_small.l0 (k + 1) y0 y1 y2)) ∧ (∀ y0 y1 y2 y3, LeO (baizelaw44_small.l1 k y0 y1 y2 y3) (baizelaw44_small.l1 (k + 1) y0 y1 y2 y3))
  | 0 => ⟨fun _ _ _ r h => by simp [baizelaw44_small.l0] at h, fun _ _ _ _ r h => by simp [baizelaw44_small.l1] at h⟩
  | k + 1 => by
    obtain ⟨ih0, ih1⟩ := baizelaw44_small.mono_l k
    refine ⟨?_, ?_⟩
    · intro y0 y1 y2
      unfold baizelaw44_small.l0
      repeat' first
      | (with_reducible exact ih0 _ _ _)
      | (with_reducible exact ih1 _ _ _ _)
      | (with_reducible exact LeO.refl _)
      | (with_reducible exact LeO.none _)
      | (with_reducible refine LeO.ite ?_ ?_)
      | (with_reducible refine LeO.bind ?_ (fun _ => ?_))
      | exact ih0 _ _ _
      | exact ih1 _ _ _ _
      | exact LeO.none _
      | refine LeO.ite ?_ ?_
      | refine LeO.bind ?_ (fun _ => ?_)
    · intro y0 y1 y2 y3
      unfold baizelaw44_small.l1
      repeat' first
      | (with_reducible exact ih0 _ _ _)
      | (with_reducible exact ih1 _ _ _ _)
      | (with_reducible exact LeO.refl _)
      | (with_reducible exact LeO.none _)
      | (with_reducible refine LeO.ite ?_ ?_)
      | (with_reducible refine LeO.bind ?_ (fun _ => ?_))
      | exact ih0 _ _ _
      | exact ih1 _ _ _ _
      | exact LeO.none _
      | refine LeO.ite ?_ ?_
      | refine LeO.bind ?_ (fun _ => ?_)
theorem baizelaw44_small.mono : ∀ a0 k, LeO (baizelaw44_small.f k a0) (baizelaw44_small.f (k + 1) a0) := by
  intro a0 k
  obtain ⟨ih0, ih1⟩ := baizelaw44_small.mono_l k
  unfold baizelaw44_small.f
  repeat' first
      | (with_reducible exact ih0 _ _ _)
      | (with_reducible exact ih1 _ _ _ _)
      | (with_reducible exact LeO.refl _)
      | (with_reducible exact LeO.none _)
      | (with_reducible refine LeO.ite ?_ ?_)
      | (with_reducible refine LeO.bind ?_ (fun _ => ?_))
      | exact ih0 _ _ _
      | exact ih1 _ _ _ _
      | exact LeO.none _
      | refine LeO.ite ?_ ?_
      | refine LeO.bind ?_ (fun _ => ?_)
set_option maxHeartbeats 8000000 in
set_option maxRecDepth 100000 in
theorem baizelaw44_small.calls (k : Nat) (A0 : Option Addr) (c0 : Nat) (l0 : List (S38)) (r : Bool) (w : World) (hr0 : Kd.C k38 w A0 l0.length l0) (hc0 : l0.length ≤ c0) (h : baizelaw44_small.f k l0 = some r) :
    Calls Try.prog 13 #[.slice A0 l0.length c0] w fun e w' => e = .returned (.bool r) ∧ Drawn0 w w' := by
  have HR0 := Aside0.mk hr0
  have HC0 := Aside0.mk hc0
  clear hr0 hc0
  have H : (baizelaw44_small.l0 k l0 0 0) = some r := h
  clear h
  have H' := Aside0.mk H
  clear H
  go_enter Try.func13, Try.ntmps13
  go_wp2
  go_loopg [3, 4] k (fun kq v3 v4 w' => ∃ (x3_1 : Int) (x4_1 : Int), v3 = .int .i64 x3_1 ∧ v4 = .int .i64 x4_1 ∧ Aside0 (baizelaw44_small.l0 kq l0 x3_1 x4_1 = some r) ∧ Aside0 (kq ≤ k) ∧ Drawn0 w w')
  case atStart => exact ⟨(0), (0), (by first | rfl | (simp; done) | (simp [*]; done)), (by first | rfl | (simp; done) | (simp [*]; done)), H', ⟨Nat.le_refl _⟩, by repeat (first | exact Drawn0.refl _ | apply Drawn0.step)⟩
  case round =>
    clear H'
    try clear c1
    obtain ⟨x3_1, x4_1, rfl, rfl, HA, HK1, ⟨m1, rfl⟩⟩ := hrel
    cases gk with
    | zero => exact absurd HA.out (by simp [baizelaw44_small.l0])
    | succ k1 =>
      have H := HA.out
      clear HA
      simp only [baizelaw44_small.l0] at H
      by_cases c2 : x4_1 < (l0.length : Int)
      · rw [if_pos c2] at H
        have c2b0 : decide (x4_1 < (l0.length : Int)) = true := decide_eq_true c2
        clear c2
        by_cases c3 : 0 ≤ x4_1
        · rw [if_pos c3] at H
          have c3b0 : decide (0 ≤ x4_1) = true := decide_eq_true c3
          clear c3
          have H' := Aside0.mk H
          clear H
          have p110 : 0 ≤ (x4_1 : Int) := of_decide_eq_true (by first | (with_reducible assumption) | assumption)
          have q110 : x4_1 < (l0.length : Int) := of_decide_eq_true (by first | (with_reducible assumption) | assumption)
          obtain ⟨ad110, A110_1, c110_1, A110_4, c110_4, e110, hx110_0, hx110_1, hx110_2, hx110_3, hx110_4, hx110_5, hl110_1, hi110_1, hl110_4, hi110_4⟩ := at_T38 HR0.out x4_1 p110 q110
          cases e110
          have HR110_1 := Aside0.mk hi110_1
          have HC110_1 := Aside0.mk hl110_1
          clear hi110_1 hl110_1
          have HR110_4 := Aside0.mk hi110_4
          have HC110_4 := Aside0.mk hl110_4
          clear hi110_4 hl110_4
          replace p110 := eq_true p110
          replace q110 := eq_true q110
          go_wp2
          go_loopg [3, 5] k1 (fun kq v3 v5 w' => ∃ (x3_2 : Int) (x5_2 : Int), v3 = .int .i64 x3_2 ∧ v5 = .int .i64 x5_2 ∧ Aside0 (baizelaw44_small.l1 kq l0 x3_2 x4_1 x5_2 = some r) ∧ Aside0 (kq ≤ k1) ∧ Drawn0 w w')
          case atStart => exact ⟨(wrap64 (x3_1 + (((rd_T38 l0 x4_1).f1).length : Int))), (0), (by first | rfl | (simp; done) | (simp [*]; done)), (by first | rfl | (simp; done) | (simp [*]; done)), H', ⟨Nat.le_refl _⟩, by repeat (first | exact Drawn0.refl _ | apply Drawn0.step)⟩
          case round =>
            clear H'
            try clear c1
            try clear p1
            try clear q1
            try clear hx1
            try clear c2
            try clear c2b0
            try clear p2
            try clear c3
            try clear c3b0
            try clear hx110_0
            try clear hx110_1
            try clear hx110_2
            try clear hx110_3
            try clear hx110_4
            try clear hx110_5
            try clear p110
            try clear q110
            obtain ⟨x3_2, x5_2, rfl, rfl, HA, HK2, ⟨m2, rfl⟩⟩ := hrel
            cases gk with
            | zero => exact absurd HA.out (by simp [baizelaw44_small.l1])
            | succ k2 =>
              have H := HA.out
              clear HA
              simp only [baizelaw44_small.l1] at H
              by_cases c4 : 0 ≤ x4_1
              · rw [if_pos c4] at H
                have c4b0 : decide (0 ≤ x4_1) = true := decide_eq_true c4
                clear c4
                by_cases c5 : x4_1 < (l0.length : Int)
                · rw [if_pos c5] at H
                  have c5b0 : decide (x4_1 < (l0.length : Int)) = true := decide_eq_true c5
                  clear c5
                  by_cases c6 : x5_2 < (((rd_T38 l0 x4_1).f3.f1).length : Int)
                  · rw [if_pos c6] at H
                    have c6b0 : decide (x5_2 < (((rd_T38 l0 x4_1).f3.f1).length : Int)) = true := decide_eq_true c6
                    clear c6
                    by_cases c7 : 0 ≤ x5_2
                    · rw [if_pos c7] at H
                      have c7b0 : decide (0 ≤ x5_2) = true := decide_eq_true c7
                      clear c7
                      have H' := Aside0.mk H
                      clear H
                      have p111 : 0 ≤ (x4_1 : Int) := of_decide_eq_true (by first | (with_reducible assumption) | assumption)
                      have q111 : x4_1 < (l0.length : Int) := of_decide_eq_true (by first | (with_reducible assumption) | assumption)
                      obtain ⟨ad111, A111_1, c111_1, A111_4, c111_4, e111, hx111_0, hx111_1, hx111_2, hx111_3, hx111_4, hx111_5, hl111_1, hi111_1, hl111_4, hi111_4⟩ := at_T38 HR0.out x4_1 p111 q111
                      obtain rfl : ad110 = ad111 := (by injection e111)
                      have HR111_1 := Aside0.mk hi111_1
                      have HC111_1 := Aside0.mk hl111_1
                      clear hi111_1 hl111_1
                      have HR111_4 := Aside0.mk hi111_4
                      have HC111_4 := Aside0.mk hl111_4
                      clear hi111_4 hl111_4
                      replace p111 := eq_true p111
                      replace q111 := eq_true q111
                      have p112 : 0 ≤ (x4_1 : Int) := of_decide_eq_true (by first | (with_reducible assumption) | assumption)
                      have q112 : x4_1 < (l0.length : Int) := of_decide_eq_true (by first | (with_reducible assumption) | assumption)
                      obtain ⟨ad112, A112_1, c112_1, A112_4, c112_4, e112, hx112_0, hx112_1, hx112_2, hx112_3, hx112_4, hx112_5, hl112_1, hi112_1, hl112_4, hi112_4⟩ := at_T38 HR0.out x4_1 p112 q112
                      obtain rfl : ad110 = ad112 := (by injection e112)
                      have HR112_1 := Aside0.mk hi112_1
                      have HC112_1 := Aside0.mk hl112_1
                      clear hi112_1 hl112_1
                      have HR112_4 := Aside0.mk hi112_4
                      have HC112_4 := Aside0.mk hl112_4
                      clear hi112_4 hl112_4
                      replace p112 := eq_true p112
                      replace q112 := eq_true q112
                      have ea_ := Option.some.inj (hx111_1.symm.trans hx112_1)
                      injection ea_ with ea_ en_ ec_
                      subst ea_
                      subst ec_
                      clear en_
                      have ea_ := Option.some.inj (hx111_4.symm.trans hx112_4)
                      injection ea_ with ea_ en_ ec_
                      subst ea_
                      subst ec_
                      clear en_
                      have p113 : 0 ≤ (x5_2 : Int) := of_decide_eq_true (by first | (with_reducible assumption) | assumption)
                      have q113 : x5_2 < (((rd_T38 l0 x4_1).f3.f1).length : Int) := of_decide_eq_true (by first | (with_reducible assumption) | assumption)
                      obtain ⟨ad113, A113_0, c113_0, e113, hx113_0, hl113_0, hi113_0⟩ := at_L1 HR112_4.out x5_2 p113 q113
                      cases e113
                      have HR113_0 := Aside0.mk hi113_0
                      have HC113_0 := Aside0.mk hl113_0
                      clear hi113_0 hl113_0
                      replace p113 := eq_true p113
                      replace q113 := eq_true q113
                      go_wp2
                      go_roundg k2
                      case measure => have := HK1.out; have := HK2.out; omega
                      case rel => exact ⟨(wrap64 (x3_2 + ((rd_L1 ((rd_T38 l0 x4_1).f3.f1) x5_2).length : Int))), (wrap64 (x5_2 + 1)), (by first | rfl | (simp; done) | (simp [*]; done)), (by first | rfl | (simp; done) | (simp [*]; done)), H', ⟨by have := HK1.out; have := HK2.out; omega⟩, by repeat (first | exact Drawn0.refl _ | apply Drawn0.step)⟩
                    · rw [if_neg c7] at H
                      exact absurd H (by simp)
                  · rw [if_neg c6] at H
                    have c6b0 : decide (x5_2 < (((rd_T38 l0 x4_1).f3.f1).length : Int)) = false := decide_eq_false c6
                    clear c6
                    have H' := Aside0.mk H
                    clear H
                    have p111 : 0 ≤ (x4_1 : Int) := of_decide_eq_true (by first | (with_reducible assumption) | assumption)
                    have q111 : x4_1 < (l0.length : Int) := of_decide_eq_true (by first | (with_reducible assumption) | assumption)
                    obtain ⟨ad111, A111_1, c111_1, A111_4, c111_4, e111, hx111_0, hx111_1, hx111_2, hx111_3, hx111_4, hx111_5, hl111_1, hi111_1, hl111_4, hi111_4⟩ := at_T38 HR0.out x4_1 p111 q111
                    obtain rfl : ad110 = ad111 := (by injection e111)
                    have HR111_1 := Aside0.mk hi111_1
                    have HC111_1 := Aside0.mk hl111_1
                    clear hi111_1 hl111_1
                    have HR111_4 := Aside0.mk hi111_4
                    have HC111_4 := Aside0.mk hl111_4
                    clear hi111_4 hl111_4
                    replace p111 := eq_true p111
                    replace q111 := eq_true q111
                    go_wp2
                    go_roundg k2
                    case measure => have := HK1.out; have := HK2.out; omega
                    case rel => exact ⟨(x3_2), (wrap64 (x4_1 + 1)), (by first | rfl | (simp; done) | (simp [*]; done)), (by first | rfl | (simp; done) | (simp [*]; done)), H', ⟨by have := HK1.out; have := HK2.out; omega⟩, by repeat (first | exact Drawn0.refl _ | apply Drawn0.step)⟩
                · rw [if_neg c5] at H
                  exact absurd H (by simp)
              · rw [if_neg c4] at H
                exact absurd H (by simp)
        · rw [if_neg c3] at H
          exact absurd H (by simp)
      · rw [if_neg c2] at H
        have c2b0 : decide (x4_1 < (l0.length : Int)) = false := decide_eq_false c2
        clear c2
        obtain rfl := Option.some.inj H
        go_wp2
        go_ret
        exact ⟨by first | rfl | (simp; done) | (simp [*]; done), by repeat (first | exact Drawn0.refl _ | apply Drawn0.step)⟩

/-! ### baizeref44_Say: function 28 -/
def baizeref44_Say.f (a0_0 : Int) (a0_1 : Int) (l0_2 : List (List Int)) (a0_3 : Int) (a0_4 : Int) (l0_5 : List (List Int)) (a0_6 : Int) (a0_7 : Int) (a0_8 : Bool) (a0_9 : Bool) (l1 : List Int) : Option (Int × Int × (List (List Int)) × Int × Int × (List (List Int)) × Int × Int × Bool × Bool × Int) := if (l1.length : Int) > 4096 then (some (a0_0, a0_1, l0_2, a0_3, a0_4, l0_5, a0_6, a0_7, a0_8, a0_9, 5)) else (if (wrap64 ((l0_2.length : Int) - a0_3)) ≥ a0_0 then (some (a0_0, a0_1, l0_2, a0_3, a0_4, l0_5, a0_6, a0_7, a0_8, a0_9, 8)) else ((some (([] : List (List Int)) : List (List Int))).bind fun y116 => (if y116.length + l0_2.length < 5864062014805 then ((some (y116 ++ l0_2 : List (List Int))).bind fun y119 => ((some (([] : List Int) : List Int)).bind fun y122 => (if y122.length + l1.length < 140737488355328 then (if y119.length < 5864062014805 then (some (a0_0, a0_1, (y119 ++ [(y122 ++ l1)]), a0_3, a0_4, l0_5, a0_6, a0_7, a0_8, a0_9, 0)) else (none)) else (none)))) else (none))))
set_option maxHeartbeats 8000000 in
set_option maxRecDepth 100000 in
theorem baizeref44_Say.calls (a0_0 : Int) (a0_1 : Int) (P0_2_ : Nat → Prop) (A0_2 : Option Addr) (c0_2 : Nat) (l0_2 : List (List Int)) (a0_3 : Int) (a0_4 : Int) (P0_5_ : Nat → Prop) (A0_5 : Option Addr) (c0_5 : Nat) (l0_5 : List (List Int)) (a0_6 : Int) (a0_7 : Int) (a0_8 : Bool) (a0_9 : Bool) (A1 : Option Addr) (c1 : Nat) (l1 : List Int) (r1 : Int) (r2 : Int) (r3 : List (List Int)) (r4 : Int) (r5 : Int) (r6 : List (List Int)) (r7 : Int) (r8 : Int) (r9 : Bool) (r10 : Bool) (r11 : Int) (w : World) (hs0_2 : Kd.V (Kd.slice 5 (Kd.int .u8)) 34 w w.heap.size (fun k_ => P0_2_ k_) (.slice A0_2 l0_2.length c0_2) l0_2) (hs0_5 : Kd.V (Kd.slice 5 (Kd.int .u8)) 34 w w.heap.size (fun k_ => P0_5_ k_) (.slice A0_5 l0_5.length c0_5) l0_5) (hr1 : Kd.C (Kd.int .u8) w A1 l1.length l1) (hc1 : l1.length ≤ c1) (h : baizeref44_Say.f a0_0 a0_1 l0_2 a0_3 a0_4 l0_5 a0_6 a0_7 a0_8 a0_9 l1 = some (r1, r2, r3, r4, r5, r6, r7, r8, r9, r10, r11)) :
    Calls Try.prog 28 #[.agg #[.int .i64 a0_0, .int .i64 a0_1, .slice A0_2 l0_2.length c0_2, .int .i64 a0_3, .int .i64 a0_4, .slice A0_5 l0_5.length c0_5, .int .i64 a0_6, .int .i64 a0_7, .bool a0_8, .bool a0_9], .slice A1 l1.length c1] w fun e w' => ∃ v2_ v5_ : Value, e = .returned (.tuple #[.agg #[.int .i64 r1, .int .i64 r2, v2_, .int .i64 r4, .int .i64 r5, v5_, .int .i64 r7, .int .i64 r8, .bool r9, .bool r10], .int .i64 r11]) ∧ Kd.V (Kd.slice 5 (Kd.int .u8)) 34 w' w.heap.size (fun k_ => ((P0_2_ k_ ∨ P0_5_ k_) ∨ w.heap.size ≤ k_)) v2_ r3 ∧ Kd.V (Kd.slice 5 (Kd.int .u8)) 34 w' w.heap.size (fun k_ => ((P0_2_ k_ ∨ P0_5_ k_) ∨ w.heap.size ≤ k_)) v5_ r6 ∧ Below w.heap.size w w' := by
  have hu27 := Try.underlying27
  have HO0_2 := Aside0.mk (show Kd.V (Kd.slice 5 (Kd.int .u8)) 34 w w.heap.size (fun k_ => ((P0_2_ k_ ∨ P0_5_ k_) ∨ w.heap.size ≤ k_)) (.slice A0_2 l0_2.length c0_2) l0_2 from Kd.V_mono hs0_2 (fun k_ hk => .inl (.inl hk)))
  have HO0_5 := Aside0.mk (show Kd.V (Kd.slice 5 (Kd.int .u8)) 34 w w.heap.size (fun k_ => ((P0_2_ k_ ∨ P0_5_ k_) ∨ w.heap.size ≤ k_)) (.slice A0_5 l0_5.length c0_5) l0_5 from Kd.V_mono hs0_5 (fun k_ hk => .inl (.inr hk)))
  have HR1 := Aside0.mk hr1
  have HC1 := Aside0.mk hc1
  clear hr1 hc1
  have HB := Aside0.mk (Below.refl w.heap.size w)
  have H : (if (l1.length : Int) > 4096 then (some (a0_0, a0_1, l0_2, a0_3, a0_4, l0_5, a0_6, a0_7, a0_8, a0_9, 5)) else (if (wrap64 ((l0_2.length : Int) - a0_3)) ≥ a0_0 then (some (a0_0, a0_1, l0_2, a0_3, a0_4, l0_5, a0_6, a0_7, a0_8, a0_9, 8)) else ((some (([] : List (List Int)) : List (List Int))).bind fun y116 => (if y116.length + l0_2.length < 5864062014805 then ((some (y116 ++ l0_2 : List (List Int))).bind fun y119 => ((some (([] : List Int) : List Int)).bind fun y122 => (if y122.length + l1.length < 140737488355328 then (if y119.length < 5864062014805 then (some (a0_0, a0_1, (y119 ++ [(y122 ++ l1)]), a0_3, a0_4, l0_5, a0_6, a0_7, a0_8, a0_9, 0)) else (none)) else (none)))) else (none))))) = some (r1, r2, r3, r4, r5, r6, r7, r8, r9, r10, r11) := h
  clear h
  by_cases c3 : (l1.length : Int) > 4096
  · rw [if_pos c3] at H
    have c3b0 : decide (4096 < (l1.length : Int)) = true := decide_eq_true c3
    have c3b1 : decide (4096 < l1.length) = true := decide_eq_true (by omega)
    clear c3
    simp only [Option.some.injEq, Prod.mk.injEq] at H
    obtain ⟨rfl, rfl, rfl, rfl, rfl, rfl, rfl, rfl, rfl, rfl, rfl⟩ := H
    go_enter Try.func28, Try.ntmps28
    go_wp2_with (first | ((with_reducible refine gate_dst (N := 2) rfl ?_); refine box_event ?hg (N := 2) ?hd (cs := #[.int .i64 a0_0, .int .i64 a0_1, .slice A0_2 l0_2.length c0_2, .int .i64 a0_3, .int .i64 a0_4, .slice A0_5 l0_5.length c0_5, .int .i64 a0_6, .int .i64 a0_7, .bool a0_8, .bool a0_9]) (t := 27) ?hr ?_; (case hd => rfl); (case hg => rfl); (case hr => first | (go_simp; done) | (go_simp; rfl)); intro gb114 hg w4 hbox hb; have n0_ := Aside0.mk (Kd.V_below (Kd.V_elderB (by (with_reducible repeat (first | apply Kd.V_alloc | apply Kd.V_drewN | apply Kd.V_drew)); exact HO0_2.out) gb114 (Nat.le_of_eq hg.symm)) hb); have n1_ := Aside0.mk (Kd.V_below (Kd.V_elderB (by (with_reducible repeat (first | apply Kd.V_alloc | apply Kd.V_drewN | apply Kd.V_drew)); exact HO0_5.out) gb114 (Nat.le_of_eq hg.symm)) hb); have n2_ := Aside0.mk (below_step (by repeat (first | (with_reducible first | exact HB.out | apply below_alloc | apply pw_below_drewN | apply below_drew1) | exact HB.out)) hb); have n3_ := Aside0.mk (hbox); have n4_ := Aside0.mk ((by rw [hg]; exact (below_size (by repeat (first | (with_reducible first | exact HB.out | apply below_alloc | apply pw_below_drewN | apply below_drew1) | exact HB.out))) : w.heap.size ≤ gb114)); have n5_ := Aside0.mk ((by rw [hg]; exact (below_size (by repeat (first | (with_reducible first | exact HB.out | apply below_alloc | apply pw_below_drewN | apply below_drew1) | exact HB.out))) : w.heap.size ≤ gb114)); clear HO0_2; clear HO0_5; clear HB; have HO0_2 := n0_; have HO0_5 := n1_; have HB := n2_; have BK114 := n3_; have GW114 := n4_; have GE114 := n5_; clear n0_ n1_ n2_ n3_ n4_ n5_; clear hb hbox hg) | ((with_reducible refine gate_dst (N := 4) rfl ?_); refine box_event ?hg (N := 4) ?hd (cs := #[.int .i64 0, .int .i64 0, .slice none 0 0, .int .i64 0, .int .i64 0, .slice none 0 0, .int .i64 0, .int .i64 0, .bool false, .bool false]) (t := 27) ?hr ?_; (case hd => rfl); (case hg => rfl); (case hr => first | (go_simp; done) | (go_simp; rfl)); intro gb115 hg w5 hbox hb; have n0_ := Aside0.mk (Kd.V_below (Kd.V_elderB (by (with_reducible repeat (first | apply Kd.V_alloc | apply Kd.V_drewN | apply Kd.V_drew)); exact HO0_2.out) gb115 (Nat.le_of_eq hg.symm)) hb); have n1_ := Aside0.mk (Kd.V_below (Kd.V_elderB (by (with_reducible repeat (first | apply Kd.V_alloc | apply Kd.V_drewN | apply Kd.V_drew)); exact HO0_5.out) gb115 (Nat.le_of_eq hg.symm)) hb); have n2_ := Aside0.mk (blk_below (g := gb114) (o := .cells #[.int .i64 a0_0, .int .i64 a0_1, .slice A0_2 l0_2.length c0_2, .int .i64 a0_3, .int .i64 a0_4, .slice A0_5 l0_5.length c0_5, .int .i64 a0_6, .int .i64 a0_7, .bool a0_8, .bool a0_9] 27 (0, 0)) (by (with_reducible repeat (first | refine blk_drewN ?_ _ | refine blk_drew ?_ | refine blk_alloc ?_ _)); exact BK114.out) hb); have n3_ := Aside0.mk (below_step (by repeat (first | (with_reducible first | exact HB.out | apply below_alloc | apply pw_below_drewN | apply below_drew1 | refine below_set ?_ GE114.out) | exact HB.out)) hb); have n4_ := Aside0.mk (hbox); have n5_ := Aside0.mk ((by rw [hg]; exact (below_size (by repeat (first | (with_reducible first | exact HB.out | apply below_alloc | apply pw_below_drewN | apply below_drew1 | refine below_set ?_ GE114.out) | exact HB.out))) : w.heap.size ≤ gb115)); have n6_ := Aside0.mk ((by rw [hg]; exact (below_size (by repeat (first | (with_reducible first | exact HB.out | apply below_alloc | apply pw_below_drewN | apply below_drew1 | refine below_set ?_ GE114.out) | exact HB.out))) : w.heap.size ≤ gb115)); have n7_ := Aside0.mk ((by rw [hg]; exact Nat.ne_of_lt (blk_lt (g := gb114) (o := .cells #[.int .i64 a0_0, .int .i64 a0_1, .slice A0_2 l0_2.length c0_2, .int .i64 a0_3, .int .i64 a0_4, .slice A0_5 l0_5.length c0_5, .int .i64 a0_6, .int .i64 a0_7, .bool a0_8, .bool a0_9] 27 (0, 0)) (by (with_reducible repeat (first | refine blk_drewN ?_ _ | refine blk_drew ?_ | refine blk_alloc ?_ _)); exact BK114.out)) : gb114 ≠ gb115)); have n8_ := Aside0.mk ((by rw [hg]; exact Nat.ne_of_gt (blk_lt (g := gb114) (o := .cells #[.int .i64 a0_0, .int .i64 a0_1, .slice A0_2 l0_2.length c0_2, .int .i64 a0_3, .int .i64 a0_4, .slice A0_5 l0_5.length c0_5, .int .i64 a0_6, .int .i64 a0_7, .bool a0_8, .bool a0_9] 27 (0, 0)) (by (with_reducible repeat (first | refine blk_drewN ?_ _ | refine blk_drew ?_ | refine blk_alloc ?_ _)); exact BK114.out)) : gb115 ≠ gb114)); clear HO0_2; clear HO0_5; clear BK114; clear HB; have HO0_2 := n0_; have HO0_5 := n1_; have BK114 := n2_; have HB := n3_; have BK115 := n4_; have GW115 := n5_; have GE115 := n6_; have NB114_115 := n7_; have NB115_114 := n8_; clear n0_ n1_ n2_ n3_ n4_ n5_ n6_ n7_ n8_; clear hb hbox hg; have hnb6 := NB114_115.out; have hnc6 := NB115_114.out; have hcz7_0 : w5.cell? ⟨gb114, 0, none⟩ = some (.int .i64 a0_0) := (blk_cell BK114.out 0).trans rfl; have hcz7_1 : w5.cell? ⟨gb114, 1, none⟩ = some (.int .i64 a0_1) := (blk_cell BK114.out 1).trans rfl; have hcz7_2 : w5.cell? ⟨gb114, 2, none⟩ = some (.slice A0_2 l0_2.length c0_2) := (blk_cell BK114.out 2).trans rfl; have hcz7_3 : w5.cell? ⟨gb114, 3, none⟩ = some (.int .i64 a0_3) := (blk_cell BK114.out 3).trans rfl; have hcz7_4 : w5.cell? ⟨gb114, 4, none⟩ = some (.int .i64 a0_4) := (blk_cell BK114.out 4).trans rfl; have hcz7_5 : w5.cell? ⟨gb114, 5, none⟩ = some (.slice A0_5 l0_5.length c0_5) := (blk_cell BK114.out 5).trans rfl; have hcz7_6 : w5.cell? ⟨gb114, 6, none⟩ = some (.int .i64 a0_6) := (blk_cell BK114.out 6).trans rfl; have hcz7_7 : w5.cell? ⟨gb114, 7, none⟩ = some (.int .i64 a0_7) := (blk_cell BK114.out 7).trans rfl; have hcz7_8 : w5.cell? ⟨gb114, 8, none⟩ = some (.bool a0_8) := (blk_cell BK114.out 8).trans rfl; have hcz7_9 : w5.cell? ⟨gb114, 9, none⟩ = some (.bool a0_9) := (blk_cell BK114.out 9).trans rfl; have hfz7_0 := blk_frozen BK114.out 0; have hfz7_1 := blk_frozen BK114.out 1; have hfz7_2 := blk_frozen BK114.out 2; have hfz7_3 := blk_frozen BK114.out 3; have hfz7_4 := blk_frozen BK114.out 4; have hfz7_5 := blk_frozen BK114.out 5; have hfz7_6 := blk_frozen BK114.out 6; have hfz7_7 := blk_frozen BK114.out 7; have hfz7_8 := blk_frozen BK114.out 8; have hfz7_9 := blk_frozen BK114.out 9; have hcz8_0 : w5.cell? ⟨gb115, 0, none⟩ = some (.int .i64 0) := (blk_cell BK115.out 0).trans rfl; have hcz8_1 : w5.cell? ⟨gb115, 1, none⟩ = some (.int .i64 0) := (blk_cell BK115.out 1).trans rfl; have hcz8_2 : w5.cell? ⟨gb115, 2, none⟩ = some (.slice none 0 0) := (blk_cell BK115.out 2).trans rfl; have hcz8_3 : w5.cell? ⟨gb115, 3, none⟩ = some (.int .i64 0) := (blk_cell BK115.out 3).trans rfl; have hcz8_4 : w5.cell? ⟨gb115, 4, none⟩ = some (.int .i64 0) := (blk_cell BK115.out 4).trans rfl; have hcz8_5 : w5.cell? ⟨gb115, 5, none⟩ = some (.slice none 0 0) := (blk_cell BK115.out 5).trans rfl; have hcz8_6 : w5.cell? ⟨gb115, 6, none⟩ = some (.int .i64 0) := (blk_cell BK115.out 6).trans rfl; have hcz8_7 : w5.cell? ⟨gb115, 7, none⟩ = some (.int .i64 0) := (blk_cell BK115.out 7).trans rfl; have hcz8_8 : w5.cell? ⟨gb115, 8, none⟩ = some (.bool false) := (blk_cell BK115.out 8).trans rfl; have hcz8_9 : w5.cell? ⟨gb115, 9, none⟩ = some (.bool false) := (blk_cell BK115.out 9).trans rfl; have hfz8_0 := blk_frozen BK115.out 0; have hfz8_1 := blk_frozen BK115.out 1; have hfz8_2 := blk_frozen BK115.out 2; have hfz8_3 := blk_frozen BK115.out 3; have hfz8_4 := blk_frozen BK115.out 4; have hfz8_5 := blk_frozen BK115.out 5; have hfz8_6 := blk_frozen BK115.out 6; have hfz8_7 := blk_frozen BK115.out 7; have hfz8_8 := blk_frozen BK115.out 8; have hfz8_9 := blk_frozen BK115.out 9))
    refine bodyPost_ret (results_ct rfl _ _ gb115 27 #[.int .i64 a0_0, .int .i64 a0_1, .slice A0_2 l0_2.length c0_2, .int .i64 a0_3, .int .i64 a0_4, .slice A0_5 l0_5.length c0_5, .int .i64 a0_6, .int .i64 a0_7, .bool a0_8, .bool a0_9] (0, 0) _ rfl (by (with_reducible repeat (first | refine blk_drewN ?_ _ | refine blk_drew ?_ | refine blk_alloc ?_ _)); refine blk_put (cs := #[.int .i64 a0_0, .int .i64 a0_1, .slice A0_2 l0_2.length c0_2, .int .i64 a0_3, .int .i64 a0_4, .slice A0_5 l0_5.length c0_5, .int .i64 a0_6, .int .i64 a0_7, .bool a0_8, .bool false]) ?_ 9 _ rfl; (with_reducible repeat (first | refine blk_drewN ?_ _ | refine blk_drew ?_ | refine blk_alloc ?_ _)); refine blk_put (cs := #[.int .i64 a0_0, .int .i64 a0_1, .slice A0_2 l0_2.length c0_2, .int .i64 a0_3, .int .i64 a0_4, .slice A0_5 l0_5.length c0_5, .int .i64 a0_6, .int .i64 a0_7, .bool false, .bool false]) ?_ 8 _ rfl; (with_reducible repeat (first | refine blk_drewN ?_ _ | refine blk_drew ?_ | refine blk_alloc ?_ _)); refine blk_put (cs := #[.int .i64 a0_0, .int .i64 a0_1, .slice A0_2 l0_2.length c0_2, .int .i64 a0_3, .int .i64 a0_4, .slice A0_5 l0_5.length c0_5, .int .i64 a0_6, .int .i64 0, .bool false, .bool false]) ?_ 7 _ rfl; (with_reducible repeat (first | refine blk_drewN ?_ _ | refine blk_drew ?_ | refine blk_alloc ?_ _)); refine blk_put (cs := #[.int .i64 a0_0, .int .i64 a0_1, .slice A0_2 l0_2.length c0_2, .int .i64 a0_3, .int .i64 a0_4, .slice A0_5 l0_5.length c0_5, .int .i64 0, .int .i64 0, .bool false, .bool false]) ?_ 6 _ rfl; (with_reducible repeat (first | refine blk_drewN ?_ _ | refine blk_drew ?_ | refine blk_alloc ?_ _)); refine blk_put (cs := #[.int .i64 a0_0, .int .i64 a0_1, .slice A0_2 l0_2.length c0_2, .int .i64 a0_3, .int .i64 a0_4, .slice none 0 0, .int .i64 0, .int .i64 0, .bool false, .bool false]) ?_ 5 _ rfl; (with_reducible repeat (first | refine blk_drewN ?_ _ | refine blk_drew ?_ | refine blk_alloc ?_ _)); refine blk_put (cs := #[.int .i64 a0_0, .int .i64 a0_1, .slice A0_2 l0_2.length c0_2, .int .i64 a0_3, .int .i64 0, .slice none 0 0, .int .i64 0, .int .i64 0, .bool false, .bool false]) ?_ 4 _ rfl; (with_reducible repeat (first | refine blk_drewN ?_ _ | refine blk_drew ?_ | refine blk_alloc ?_ _)); refine blk_put (cs := #[.int .i64 a0_0, .int .i64 a0_1, .slice A0_2 l0_2.length c0_2, .int .i64 0, .int .i64 0, .slice none 0 0, .int .i64 0, .int .i64 0, .bool false, .bool false]) ?_ 3 _ rfl; (with_reducible repeat (first | refine blk_drewN ?_ _ | refine blk_drew ?_ | refine blk_alloc ?_ _)); refine blk_put (cs := #[.int .i64 a0_0, .int .i64 a0_1, .slice none 0 0, .int .i64 0, .int .i64 0, .slice none 0 0, .int .i64 0, .int .i64 0, .bool false, .bool false]) ?_ 2 _ rfl; (with_reducible repeat (first | refine blk_drewN ?_ _ | refine blk_drew ?_ | refine blk_alloc ?_ _)); refine blk_put (cs := #[.int .i64 a0_0, .int .i64 0, .slice none 0 0, .int .i64 0, .int .i64 0, .slice none 0 0, .int .i64 0, .int .i64 0, .bool false, .bool false]) ?_ 1 _ rfl; (with_reducible repeat (first | refine blk_drewN ?_ _ | refine blk_drew ?_ | refine blk_alloc ?_ _)); refine blk_put (cs := #[.int .i64 0, .int .i64 0, .slice none 0 0, .int .i64 0, .int .i64 0, .slice none 0 0, .int .i64 0, .int .i64 0, .bool false, .bool false]) ?_ 0 _ rfl; (with_reducible repeat (first | refine blk_drewN ?_ _ | refine blk_drew ?_ | refine blk_alloc ?_ _)); exact BK115.out) Try.underlying27 rfl (by kernel_rfl)) rfl ?_
    exact ⟨_, _, by first | rfl | (simp [errW_none, errW_some] <;> rfl) | (simp [*, errW_none, errW_some] <;> rfl), by (with_reducible repeat (first | apply Kd.V_alloc | apply Kd.V_drewN | apply Kd.V_drew)); exact Kd.V_mono (Kd.V_far (p := ⟨gb115, 9, none⟩) (Kd.V_far (p := ⟨gb115, 8, none⟩) (Kd.V_far (p := ⟨gb115, 7, none⟩) (Kd.V_far (p := ⟨gb115, 6, none⟩) (Kd.V_far (p := ⟨gb115, 5, none⟩) (Kd.V_far (p := ⟨gb115, 4, none⟩) (Kd.V_far (p := ⟨gb115, 3, none⟩) (Kd.V_far (p := ⟨gb115, 2, none⟩) (Kd.V_far (p := ⟨gb115, 1, none⟩) (Kd.V_far (p := ⟨gb115, 0, none⟩) (Kd.V_mono HO0_2.out (fun k_ hk => (⟨hk, hk.2⟩ : _ ∧ k_ ≠ gb115))) (fun _ hk => hk.2) (.int .i64 a0_0)) (fun _ hk => hk.2) (.int .i64 a0_1)) (fun _ hk => hk.2) (.slice A0_2 l0_2.length c0_2)) (fun _ hk => hk.2) (.int .i64 a0_3)) (fun _ hk => hk.2) (.int .i64 a0_4)) (fun _ hk => hk.2) (.slice A0_5 l0_5.length c0_5)) (fun _ hk => hk.2) (.int .i64 a0_6)) (fun _ hk => hk.2) (.int .i64 a0_7)) (fun _ hk => hk.2) (.bool a0_8)) (fun _ hk => hk.2) (.bool a0_9)) (fun _ hk => hk.1.1.1), by (with_reducible repeat (first | apply Kd.V_alloc | apply Kd.V_drewN | apply Kd.V_drew)); exact Kd.V_mono (Kd.V_far (p := ⟨gb115, 9, none⟩) (Kd.V_far (p := ⟨gb115, 8, none⟩) (Kd.V_far (p := ⟨gb115, 7, none⟩) (Kd.V_far (p := ⟨gb115, 6, none⟩) (Kd.V_far (p := ⟨gb115, 5, none⟩) (Kd.V_far (p := ⟨gb115, 4, none⟩) (Kd.V_far (p := ⟨gb115, 3, none⟩) (Kd.V_far (p := ⟨gb115, 2, none⟩) (Kd.V_far (p := ⟨gb115, 1, none⟩) (Kd.V_far (p := ⟨gb115, 0, none⟩) (Kd.V_mono HO0_5.out (fun k_ hk => (⟨hk, hk.2⟩ : _ ∧ k_ ≠ gb115))) (fun _ hk => hk.2) (.int .i64 a0_0)) (fun _ hk => hk.2) (.int .i64 a0_1)) (fun _ hk => hk.2) (.slice A0_2 l0_2.length c0_2)) (fun _ hk => hk.2) (.int .i64 a0_3)) (fun _ hk => hk.2) (.int .i64 a0_4)) (fun _ hk => hk.2) (.slice A0_5 l0_5.length c0_5)) (fun _ hk => hk.2) (.int .i64 a0_6)) (fun _ hk => hk.2) (.int .i64 a0_7)) (fun _ hk => hk.2) (.bool a0_8)) (fun _ hk => hk.2) (.bool a0_9)) (fun _ hk => hk.1.1.1), by repeat (first | (with_reducible first | exact HB.out | apply below_alloc | apply pw_below_drewN | apply below_drew1 | refine below_set ?_ GE114.out | refine below_set ?_ GE115.out) | exact HB.out)⟩
  · rw [if_neg c3] at H
    have c3b0 : decide (4096 < (l1.length : Int)) = false := decide_eq_false c3
    have c3b1 : decide (4096 < l1.length) = false := decide_eq_false (by omega)
    clear c3
    by_cases c9 : (wrap64 ((l0_2.length : Int) - a0_3)) ≥ a0_0
    · rw [if_pos c9] at H
      have c9b0 : decide (a0_0 ≤ (wrap64 ((l0_2.length : Int) - a0_3))) = true := decide_eq_true c9
      clear c9
      simp only [Option.some.injEq, Prod.mk.injEq] at H
      obtain ⟨rfl, rfl, rfl, rfl, rfl, rfl, rfl, rfl, rfl, rfl, rfl⟩ := H
      go_enter Try.func28, Try.ntmps28
      go_wp2_with (first | ((with_reducible refine gate_dst (N := 2) rfl ?_); refine box_event ?hg (N := 2) ?hd (cs := #[.int .i64 a0_0, .int .i64 a0_1, .slice A0_2 l0_2.length c0_2, .int .i64 a0_3, .int .i64 a0_4, .slice A0_5 l0_5.length c0_5, .int .i64 a0_6, .int .i64 a0_7, .bool a0_8, .bool a0_9]) (t := 27) ?hr ?_; (case hd => rfl); (case hg => rfl); (case hr => first | (go_simp; done) | (go_simp; rfl)); intro gb114 hg w10 hbox hb; have n0_ := Aside0.mk (Kd.V_below (Kd.V_elderB (by (with_reducible repeat (first | apply Kd.V_alloc | apply Kd.V_drewN | apply Kd.V_drew)); exact HO0_2.out) gb114 (Nat.le_of_eq hg.symm)) hb); have n1_ := Aside0.mk (Kd.V_below (Kd.V_elderB (by (with_reducible repeat (first | apply Kd.V_alloc | apply Kd.V_drewN | apply Kd.V_drew)); exact HO0_5.out) gb114 (Nat.le_of_eq hg.symm)) hb); have n2_ := Aside0.mk (below_step (by repeat (first | (with_reducible first | exact HB.out | apply below_alloc | apply pw_below_drewN | apply below_drew1) | exact HB.out)) hb); have n3_ := Aside0.mk (hbox); have n4_ := Aside0.mk ((by rw [hg]; exact (below_size (by repeat (first | (with_reducible first | exact HB.out | apply below_alloc | apply pw_below_drewN | apply below_drew1) | exact HB.out))) : w.heap.size ≤ gb114)); have n5_ := Aside0.mk ((by rw [hg]; exact (below_size (by repeat (first | (with_reducible first | exact HB.out | apply below_alloc | apply pw_below_drewN | apply below_drew1) | exact HB.out))) : w.heap.size ≤ gb114)); clear HO0_2; clear HO0_5; clear HB; have HO0_2 := n0_; have HO0_5 := n1_; have HB := n2_; have BK114 := n3_; have GW114 := n4_; have GE114 := n5_; clear n0_ n1_ n2_ n3_ n4_ n5_; clear hb hbox hg) | ((with_reducible refine gate_dst (N := 4) rfl ?_); refine box_event ?hg (N := 4) ?hd (cs := #[.int .i64 0, .int .i64 0, .slice none 0 0, .int .i64 0, .int .i64 0, .slice none 0 0, .int .i64 0, .int .i64 0, .bool false, .bool false]) (t := 27) ?hr ?_; (case hd => rfl); (case hg => rfl); (case hr => first | (go_simp; done) | (go_simp; rfl)); intro gb115 hg w11 hbox hb; have n0_ := Aside0.mk (Kd.V_below (Kd.V_elderB (by (with_reducible repeat (first | apply Kd.V_alloc | apply Kd.V_drewN | apply Kd.V_drew)); exact HO0_2.out) gb115 (Nat.le_of_eq hg.symm)) hb); have n1_ := Aside0.mk (Kd.V_below (Kd.V_elderB (by (with_reducible repeat (first | apply Kd.V_alloc | apply Kd.V_drewN | apply Kd.V_drew)); exact HO0_5.out) gb115 (Nat.le_of_eq hg.symm)) hb); have n2_ := Aside0.mk (blk_below (g := gb114) (o := .cells #[.int .i64 a0_0, .int .i64 a0_1, .slice A0_2 l0_2.length c0_2, .int .i64 a0_3, .int .i64 a0_4, .slice A0_5 l0_5.length c0_5, .int .i64 a0_6, .int .i64 a0_7, .bool a0_8, .bool a0_9] 27 (0, 0)) (by (with_reducible repeat (first | refine blk_drewN ?_ _ | refine blk_drew ?_ | refine blk_alloc ?_ _)); exact BK114.out) hb); have n3_ := Aside0.mk (below_step (by repeat (first | (with_reducible first | exact HB.out | apply below_alloc | apply pw_below_drewN | apply below_drew1 | refine below_set ?_ GE114.out) | exact HB.out)) hb); have n4_ := Aside0.mk (hbox); have n5_ := Aside0.mk ((by rw [hg]; exact (below_size (by repeat (first | (with_reducible first | exact HB.out | apply below_alloc | apply pw_below_drewN | apply below_drew1 | refine below_set ?_ GE114.out) | exact HB.out))) : w.heap.size ≤ gb115)); have n6_ := Aside0.mk ((by rw [hg]; exact (below_size (by repeat (first | (with_reducible first | exact HB.out | apply below_alloc | apply pw_below_drewN | apply below_drew1 | refine below_set ?_ GE114.out) | exact HB.out))) : w.heap.size ≤ gb115)); have n7_ := Aside0.mk ((by rw [hg]; exact Nat.ne_of_lt (blk_lt (g := gb114) (o := .cells #[.int .i64 a0_0, .int .i64 a0_1, .slice A0_2 l0_2.length c0_2, .int .i64 a0_3, .int .i64 a0_4, .slice A0_5 l0_5.length c0_5, .int .i64 a0_6, .int .i64 a0_7, .bool a0_8, .bool a0_9] 27 (0, 0)) (by (with_reducible repeat (first | refine blk_drewN ?_ _ | refine blk_drew ?_ | refine blk_alloc ?_ _)); exact BK114.out)) : gb114 ≠ gb115)); have n8_ := Aside0.mk ((by rw [hg]; exact Nat.ne_of_gt (blk_lt (g := gb114) (o := .cells #[.int .i64 a0_0, .int .i64 a0_1, .slice A0_2 l0_2.length c0_2, .int .i64 a0_3, .int .i64 a0_4, .slice A0_5 l0_5.length c0_5, .int .i64 a0_6, .int .i64 a0_7, .bool a0_8, .bool a0_9] 27 (0, 0)) (by (with_reducible repeat (first | refine blk_drewN ?_ _ | refine blk_drew ?_ | refine blk_alloc ?_ _)); exact BK114.out)) : gb115 ≠ gb114)); clear HO0_2; clear HO0_5; clear BK114; clear HB; have HO0_2 := n0_; have HO0_5 := n1_; have BK114 := n2_; have HB := n3_; have BK115 := n4_; have GW115 := n5_; have GE115 := n6_; have NB114_115 := n7_; have NB115_114 := n8_; clear n0_ n1_ n2_ n3_ n4_ n5_ n6_ n7_ n8_; clear hb hbox hg; have hnb12 := NB114_115.out; have hnc12 := NB115_114.out; have hcz13_0 : w11.cell? ⟨gb114, 0, none⟩ = some (.int .i64 a0_0) := (blk_cell BK114.out 0).trans rfl; have hcz13_1 : w11.cell? ⟨gb114, 1, none⟩ = some (.int .i64 a0_1) := (blk_cell BK114.out 1).trans rfl; have hcz13_2 : w11.cell? ⟨gb114, 2, none⟩ = some (.slice A0_2 l0_2.length c0_2) := (blk_cell BK114.out 2).trans rfl; have hcz13_3 : w11.cell? ⟨gb114, 3, none⟩ = some (.int .i64 a0_3) := (blk_cell BK114.out 3).trans rfl; have hcz13_4 : w11.cell? ⟨gb114, 4, none⟩ = some (.int .i64 a0_4) := (blk_cell BK114.out 4).trans rfl; have hcz13_5 : w11.cell? ⟨gb114, 5, none⟩ = some (.slice A0_5 l0_5.length c0_5) := (blk_cell BK114.out 5).trans rfl; have hcz13_6 : w11.cell? ⟨gb114, 6, none⟩ = some (.int .i64 a0_6) := (blk_cell BK114.out 6).trans rfl; have hcz13_7 : w11.cell? ⟨gb114, 7, none⟩ = some (.int .i64 a0_7) := (blk_cell BK114.out 7).trans rfl; have hcz13_8 : w11.cell? ⟨gb114, 8, none⟩ = some (.bool a0_8) := (blk_cell BK114.out 8).trans rfl; have hcz13_9 : w11.cell? ⟨gb114, 9, none⟩ = some (.bool a0_9) := (blk_cell BK114.out 9).trans rfl; have hfz13_0 := blk_frozen BK114.out 0; have hfz13_1 := blk_frozen BK114.out 1; have hfz13_2 := blk_frozen BK114.out 2; have hfz13_3 := blk_frozen BK114.out 3; have hfz13_4 := blk_frozen BK114.out 4; have hfz13_5 := blk_frozen BK114.out 5; have hfz13_6 := blk_frozen BK114.out 6; have hfz13_7 := blk_frozen BK114.out 7; have hfz13_8 := blk_frozen BK114.out 8; have hfz13_9 := blk_frozen BK114.out 9; have hcz14_0 : w11.cell? ⟨gb115, 0, none⟩ = some (.int .i64 0) := (blk_cell BK115.out 0).trans rfl; have hcz14_1 : w11.cell? ⟨gb115, 1, none⟩ = some (.int .i64 0) := (blk_cell BK115.out 1).trans rfl; have hcz14_2 : w11.cell? ⟨gb115, 2, none⟩ = some (.slice none 0 0) := (blk_cell BK115.out 2).trans rfl; have hcz14_3 : w11.cell? ⟨gb115, 3, none⟩ = some (.int .i64 0) := (blk_cell BK115.out 3).trans rfl; have hcz14_4 : w11.cell? ⟨gb115, 4, none⟩ = some (.int .i64 0) := (blk_cell BK115.out 4).trans rfl; have hcz14_5 : w11.cell? ⟨gb115, 5, none⟩ = some (.slice none 0 0) := (blk_cell BK115.out 5).trans rfl; have hcz14_6 : w11.cell? ⟨gb115, 6, none⟩ = some (.int .i64 0) := (blk_cell BK115.out 6).trans rfl; have hcz14_7 : w11.cell? ⟨gb115, 7, none⟩ = some (.int .i64 0) := (blk_cell BK115.out 7).trans rfl; have hcz14_8 : w11.cell? ⟨gb115, 8, none⟩ = some (.bool false) := (blk_cell BK115.out 8).trans rfl; have hcz14_9 : w11.cell? ⟨gb115, 9, none⟩ = some (.bool false) := (blk_cell BK115.out 9).trans rfl; have hfz14_0 := blk_frozen BK115.out 0; have hfz14_1 := blk_frozen BK115.out 1; have hfz14_2 := blk_frozen BK115.out 2; have hfz14_3 := blk_frozen BK115.out 3; have hfz14_4 := blk_frozen BK115.out 4; have hfz14_5 := blk_frozen BK115.out 5; have hfz14_6 := blk_frozen BK115.out 6; have hfz14_7 := blk_frozen BK115.out 7; have hfz14_8 := blk_frozen BK115.out 8; have hfz14_9 := blk_frozen BK115.out 9))
      refine bodyPost_ret (results_ct rfl _ _ gb115 27 #[.int .i64 a0_0, .int .i64 a0_1, .slice A0_2 l0_2.length c0_2, .int .i64 a0_3, .int .i64 a0_4, .slice A0_5 l0_5.length c0_5, .int .i64 a0_6, .int .i64 a0_7, .bool a0_8, .bool a0_9] (0, 0) _ rfl (by (with_reducible repeat (first | refine blk_drewN ?_ _ | refine blk_drew ?_ | refine blk_alloc ?_ _)); refine blk_put (cs := #[.int .i64 a0_0, .int .i64 a0_1, .slice A0_2 l0_2.length c0_2, .int .i64 a0_3, .int .i64 a0_4, .slice A0_5 l0_5.length c0_5, .int .i64 a0_6, .int .i64 a0_7, .bool a0_8, .bool false]) ?_ 9 _ rfl; (with_reducible repeat (first | refine blk_drewN ?_ _ | refine blk_drew ?_ | refine blk_alloc ?_ _)); refine blk_put (cs := #[.int .i64 a0_0, .int .i64 a0_1, .slice A0_2 l0_2.length c0_2, .int .i64 a0_3, .int .i64 a0_4, .slice A0_5 l0_5.length c0_5, .int .i64 a0_6, .int .i64 a0_7, .bool false, .bool false]) ?_ 8 _ rfl; (with_reducible repeat (first | refine blk_drewN ?_ _ | refine blk_drew ?_ | refine blk_alloc ?_ _)); refine blk_put (cs := #[.int .i64 a0_0, .int .i64 a0_1, .slice A0_2 l0_2.length c0_2, .int .i64 a0_3, .int .i64 a0_4, .slice A0_5 l0_5.length c0_5, .int .i64 a0_6, .int .i64 0, .bool false, .bool false]) ?_ 7 _ rfl; (with_reducible repeat (first | refine blk_drewN ?_ _ | refine blk_drew ?_ | refine blk_alloc ?_ _)); refine blk_put (cs := #[.int .i64 a0_0, .int .i64 a0_1, .slice A0_2 l0_2.length c0_2, .int .i64 a0_3, .int .i64 a0_4, .slice A0_5 l0_5.length c0_5, .int .i64 0, .int .i64 0, .bool false, .bool false]) ?_ 6 _ rfl; (with_reducible repeat (first | refine blk_drewN ?_ _ | refine blk_drew ?_ | refine blk_alloc ?_ _)); refine blk_put (cs := #[.int .i64 a0_0, .int .i64 a0_1, .slice A0_2 l0_2.length c0_2, .int .i64 a0_3, .int .i64 a0_4, .slice none 0 0, .int .i64 0, .int .i64 0, .bool false, .bool false]) ?_ 5 _ rfl; (with_reducible repeat (first | refine blk_drewN ?_ _ | refine blk_drew ?_ | refine blk_alloc ?_ _)); refine blk_put (cs := #[.int .i64 a0_0, .int .i64 a0_1, .slice A0_2 l0_2.length c0_2, .int .i64 a0_3, .int .i64 0, .slice none 0 0, .int .i64 0, .int .i64 0, .bool false, .bool false]) ?_ 4 _ rfl; (with_reducible repeat (first | refine blk_drewN ?_ _ | refine blk_drew ?_ | refine blk_alloc ?_ _)); refine blk_put (cs := #[.int .i64 a0_0, .int .i64 a0_1, .slice A0_2 l0_2.length c0_2, .int .i64 0, .int .i64 0, .slice none 0 0, .int .i64 0, .int .i64 0, .bool false, .bool false]) ?_ 3 _ rfl; (with_reducible repeat (first | refine blk_drewN ?_ _ | refine blk_drew ?_ | refine blk_alloc ?_ _)); refine blk_put (cs := #[.int .i64 a0_0, .int .i64 a0_1, .slice none 0 0, .int .i64 0, .int .i64 0, .slice none 0 0, .int .i64 0, .int .i64 0, .bool false, .bool false]) ?_ 2 _ rfl; (with_reducible repeat (first | refine blk_drewN ?_ _ | refine blk_drew ?_ | refine blk_alloc ?_ _)); refine blk_put (cs := #[.int .i64 a0_0, .int .i64 0, .slice none 0 0, .int .i64 0, .int .i64 0, .slice none 0 0, .int .i64 0, .int .i64 0, .bool false, .bool false]) ?_ 1 _ rfl; (with_reducible repeat (first | refine blk_drewN ?_ _ | refine blk_drew ?_ | refine blk_alloc ?_ _)); refine blk_put (cs := #[.int .i64 0, .int .i64 0, .slice none 0 0, .int .i64 0, .int .i64 0, .slice none 0 0, .int .i64 0, .int .i64 0, .bool false, .bool false]) ?_ 0 _ rfl; (with_reducible repeat (first | refine blk_drewN ?_ _ | refine blk_drew ?_ | refine blk_alloc ?_ _)); exact BK115.out) Try.underlying27 rfl (by kernel_rfl)) rfl ?_
      exact ⟨_, _, by first | rfl | (simp [errW_none, errW_some] <;> rfl) | (simp [*, errW_none, errW_some] <;> rfl), by (with_reducible repeat (first | apply Kd.V_alloc | apply Kd.V_drewN | apply Kd.V_drew)); exact Kd.V_mono (Kd.V_far (p := ⟨gb115, 9, none⟩) (Kd.V_far (p := ⟨gb115, 8, none⟩) (Kd.V_far (p := ⟨gb115, 7, none⟩) (Kd.V_far (p := ⟨gb115, 6, none⟩) (Kd.V_far (p := ⟨gb115, 5, none⟩) (Kd.V_far (p := ⟨gb115, 4, none⟩) (Kd.V_far (p := ⟨gb115, 3, none⟩) (Kd.V_far (p := ⟨gb115, 2, none⟩) (Kd.V_far (p := ⟨gb115, 1, none⟩) (Kd.V_far (p := ⟨gb115, 0, none⟩) (Kd.V_mono HO0_2.out (fun k_ hk => (⟨hk, hk.2⟩ : _ ∧ k_ ≠ gb115))) (fun _ hk => hk.2) (.int .i64 a0_0)) (fun _ hk => hk.2) (.int .i64 a0_1)) (fun _ hk => hk.2) (.slice A0_2 l0_2.length c0_2)) (fun _ hk => hk.2) (.int .i64 a0_3)) (fun _ hk => hk.2) (.int .i64 a0_4)) (fun _ hk => hk.2) (.slice A0_5 l0_5.length c0_5)) (fun _ hk => hk.2) (.int .i64 a0_6)) (fun _ hk => hk.2) (.int .i64 a0_7)) (fun _ hk => hk.2) (.bool a0_8)) (fun _ hk => hk.2) (.bool a0_9)) (fun _ hk => hk.1.1.1), by (with_reducible repeat (first | apply Kd.V_alloc | apply Kd.V_drewN | apply Kd.V_drew)); exact Kd.V_mono (Kd.V_far (p := ⟨gb115, 9, none⟩) (Kd.V_far (p := ⟨gb115, 8, none⟩) (Kd.V_far (p := ⟨gb115, 7, none⟩) (Kd.V_far (p := ⟨gb115, 6, none⟩) (Kd.V_far (p := ⟨gb115, 5, none⟩) (Kd.V_far (p := ⟨gb115, 4, none⟩) (Kd.V_far (p := ⟨gb115, 3, none⟩) (Kd.V_far (p := ⟨gb115, 2, none⟩) (Kd.V_far (p := ⟨gb115, 1, none⟩) (Kd.V_far (p := ⟨gb115, 0, none⟩) (Kd.V_mono HO0_5.out (fun k_ hk => (⟨hk, hk.2⟩ : _ ∧ k_ ≠ gb115))) (fun _ hk => hk.2) (.int .i64 a0_0)) (fun _ hk => hk.2) (.int .i64 a0_1)) (fun _ hk => hk.2) (.slice A0_2 l0_2.length c0_2)) (fun _ hk => hk.2) (.int .i64 a0_3)) (fun _ hk => hk.2) (.int .i64 a0_4)) (fun _ hk => hk.2) (.slice A0_5 l0_5.length c0_5)) (fun _ hk => hk.2) (.int .i64 a0_6)) (fun _ hk => hk.2) (.int .i64 a0_7)) (fun _ hk => hk.2) (.bool a0_8)) (fun _ hk => hk.2) (.bool a0_9)) (fun _ hk => hk.1.1.1), by repeat (first | (with_reducible first | exact HB.out | apply below_alloc | apply pw_below_drewN | apply below_drew1 | refine below_set ?_ GE114.out | refine below_set ?_ GE115.out) | exact HB.out)⟩
    · rw [if_neg c9] at H
      have c9b0 : decide (a0_0 ≤ (wrap64 ((l0_2.length : Int) - a0_3))) = false := decide_eq_false c9
      clear c9
      obtain ⟨y116, hy116⟩ : ∃ y_ : List (List Int), y_ = (([] : List (List Int))) := ⟨_, rfl⟩
      replace H : (if y116.length + l0_2.length < 5864062014805 then ((some (y116 ++ l0_2 : List (List Int))).bind fun y119 => ((some (([] : List Int) : List Int)).bind fun y122 => (if y122.length + l1.length < 140737488355328 then (if y119.length < 5864062014805 then (some (a0_0, a0_1, (y119 ++ [(y122 ++ l1)]), a0_3, a0_4, l0_5, a0_6, a0_7, a0_8, a0_9, 0)) else (none)) else (none)))) else (none)) = some (r1, r2, r3, r4, r5, r6, r7, r8, r9, r10, r11) := by first | (rw [hy116]; with_reducible exact H) | (have H2_ := (Option.bind_some _ _).symm.trans H; rw [hy116]; with_reducible exact H2_) | (have H2_ := (Option.bind_some _ _).symm.trans H; with_reducible exact H2_) | with_reducible exact H | (rw [hy116]; exact H) | exact H
      have Ny116 := Aside0.mk hy116
      clear hy116
      by_cases c15 : y116.length + l0_2.length < 5864062014805
      · rw [if_pos c15] at H
        have LMc15 := Aside0.mk c15
        clear c15
        obtain ⟨y119, hy119⟩ : ∃ y_ : List (List Int), y_ = (y116 ++ l0_2) := ⟨_, rfl⟩
        replace H : ((some (([] : List Int) : List Int)).bind fun y122 => (if y122.length + l1.length < 140737488355328 then (if y119.length < 5864062014805 then (some (a0_0, a0_1, (y119 ++ [(y122 ++ l1)]), a0_3, a0_4, l0_5, a0_6, a0_7, a0_8, a0_9, 0)) else (none)) else (none))) = some (r1, r2, r3, r4, r5, r6, r7, r8, r9, r10, r11) := by first | (rw [hy119]; with_reducible exact H) | (have H2_ := (Option.bind_some _ _).symm.trans H; rw [hy119]; with_reducible exact H2_) | (have H2_ := (Option.bind_some _ _).symm.trans H; with_reducible exact H2_) | with_reducible exact H | (rw [hy119]; exact H) | exact H
        have Ny119 := Aside0.mk hy119
        clear hy119
        obtain ⟨y122, hy122⟩ : ∃ y_ : List Int, y_ = (([] : List Int)) := ⟨_, rfl⟩
        replace H : (if y122.length + l1.length < 140737488355328 then (if y119.length < 5864062014805 then (some (a0_0, a0_1, (y119 ++ [(y122 ++ l1)]), a0_3, a0_4, l0_5, a0_6, a0_7, a0_8, a0_9, 0)) else (none)) else (none)) = some (r1, r2, r3, r4, r5, r6, r7, r8, r9, r10, r11) := by first | (rw [hy122]; with_reducible exact H) | (have H2_ := (Option.bind_some _ _).symm.trans H; rw [hy122]; with_reducible exact H2_) | (have H2_ := (Option.bind_some _ _).symm.trans H; with_reducible exact H2_) | with_reducible exact H | (rw [hy122]; exact H) | exact H
        have Ny122 := Aside0.mk hy122
        clear hy122
        by_cases c16 : y122.length + l1.length < 140737488355328
        · rw [if_pos c16] at H
          have LMc16 := Aside0.mk c16
          clear c16
          obtain ⟨y125, hy125⟩ : ∃ y_ : List Int, y_ = (y122 ++ l1) := ⟨_, rfl⟩
          replace H : (if y119.length < 5864062014805 then (some (a0_0, a0_1, (y119 ++ [y125]), a0_3, a0_4, l0_5, a0_6, a0_7, a0_8, a0_9, 0)) else (none)) = some (r1, r2, r3, r4, r5, r6, r7, r8, r9, r10, r11) := by first | (rw [hy125]; with_reducible exact H) | (have H2_ := (Option.bind_some _ _).symm.trans H; rw [hy125]; with_reducible exact H2_) | (have H2_ := (Option.bind_some _ _).symm.trans H; with_reducible exact H2_) | with_reducible exact H | (rw [hy125]; exact H) | exact H
          have Ny125 := Aside0.mk hy125
          clear hy125
          by_cases c17 : y119.length < 5864062014805
          · rw [if_pos c17] at H
            have LMc17 := Aside0.mk c17
            clear c17
            obtain ⟨y128, hy128⟩ : ∃ y_ : List (List Int), y_ = (y119 ++ [y125]) := ⟨_, rfl⟩
            replace H : (some (a0_0, a0_1, y128, a0_3, a0_4, l0_5, a0_6, a0_7, a0_8, a0_9, 0)) = some (r1, r2, r3, r4, r5, r6, r7, r8, r9, r10, r11) := by first | (rw [hy128]; with_reducible exact H) | (have H2_ := (Option.bind_some _ _).symm.trans H; rw [hy128]; with_reducible exact H2_) | (have H2_ := (Option.bind_some _ _).symm.trans H; with_reducible exact H2_) | with_reducible exact H | (rw [hy128]; exact H) | exact H
            have Ny128 := Aside0.mk hy128
            clear hy128
            simp only [Option.some.injEq, Prod.mk.injEq] at H
            obtain ⟨rfl, rfl, rfl, rfl, rfl, rfl, rfl, rfl, rfl, rfl, rfl⟩ := H
            go_enter Try.func28, Try.ntmps28
            go_wp2_with (first | ((with_reducible refine gate_dst (N := 2) rfl ?_); refine box_event ?hg (N := 2) ?hd (cs := #[.int .i64 a0_0, .int .i64 a0_1, .slice A0_2 l0_2.length c0_2, .int .i64 a0_3, .int .i64 a0_4, .slice A0_5 l0_5.length c0_5, .int .i64 a0_6, .int .i64 a0_7, .bool a0_8, .bool a0_9]) (t := 27) ?hr ?_; (case hd => rfl); (case hg => rfl); (case hr => first | (go_simp; done) | (go_simp; rfl)); intro gb114 hg w18 hbox hb; have n0_ := Aside0.mk (Kd.V_below (Kd.V_elderB (by (with_reducible repeat (first | apply Kd.V_alloc | apply Kd.V_drewN | apply Kd.V_drew)); exact HO0_2.out) gb114 (Nat.le_of_eq hg.symm)) hb); have n1_ := Aside0.mk (Kd.V_below (Kd.V_elderB (by (with_reducible repeat (first | apply Kd.V_alloc | apply Kd.V_drewN | apply Kd.V_drew)); exact HO0_5.out) gb114 (Nat.le_of_eq hg.symm)) hb); have n2_ := Aside0.mk (below_step (by repeat (first | (with_reducible first | exact HB.out | apply below_alloc | apply pw_below_drewN | apply below_drew1) | exact HB.out)) hb); have n3_ := Aside0.mk (hbox); have n4_ := Aside0.mk ((by rw [hg]; exact (below_size (by repeat (first | (with_reducible first | exact HB.out | apply below_alloc | apply pw_below_drewN | apply below_drew1) | exact HB.out))) : w.heap.size ≤ gb114)); have n5_ := Aside0.mk ((by rw [hg]; exact (below_size (by repeat (first | (with_reducible first | exact HB.out | apply below_alloc | apply pw_below_drewN | apply below_drew1) | exact HB.out))) : w.heap.size ≤ gb114)); clear HO0_2; clear HO0_5; clear HB; have HO0_2 := n0_; have HO0_5 := n1_; have HB := n2_; have BK114 := n3_; have GW114 := n4_; have GE114 := n5_; clear n0_ n1_ n2_ n3_ n4_ n5_; clear hb hbox hg) | ((with_reducible refine gate_dst (N := 4) rfl ?_); refine box_event ?hg (N := 4) ?hd (cs := #[.int .i64 0, .int .i64 0, .slice none 0 0, .int .i64 0, .int .i64 0, .slice none 0 0, .int .i64 0, .int .i64 0, .bool false, .bool false]) (t := 27) ?hr ?_; (case hd => rfl); (case hg => rfl); (case hr => first | (go_simp; done) | (go_simp; rfl)); intro gb115 hg w19 hbox hb; have n0_ := Aside0.mk (Kd.V_below (Kd.V_elderB (by (with_reducible repeat (first | apply Kd.V_alloc | apply Kd.V_drewN | apply Kd.V_drew)); exact HO0_2.out) gb115 (Nat.le_of_eq hg.symm)) hb); have n1_ := Aside0.mk (Kd.V_below (Kd.V_elderB (by (with_reducible repeat (first | apply Kd.V_alloc | apply Kd.V_drewN | apply Kd.V_drew)); exact HO0_5.out) gb115 (Nat.le_of_eq hg.symm)) hb); have n2_ := Aside0.mk (blk_below (g := gb114) (o := .cells #[.int .i64 a0_0, .int .i64 a0_1, .slice A0_2 l0_2.length c0_2, .int .i64 a0_3, .int .i64 a0_4, .slice A0_5 l0_5.length c0_5, .int .i64 a0_6, .int .i64 a0_7, .bool a0_8, .bool a0_9] 27 (0, 0)) (by (with_reducible repeat (first | refine blk_drewN ?_ _ | refine blk_drew ?_ | refine blk_alloc ?_ _)); exact BK114.out) hb); have n3_ := Aside0.mk (below_step (by repeat (first | (with_reducible first | exact HB.out | apply below_alloc | apply pw_below_drewN | apply below_drew1 | refine below_set ?_ GE114.out) | exact HB.out)) hb); have n4_ := Aside0.mk (hbox); have n5_ := Aside0.mk ((by rw [hg]; exact (below_size (by repeat (first | (with_reducible first | exact HB.out | apply below_alloc | apply pw_below_drewN | apply below_drew1 | refine below_set ?_ GE114.out) | exact HB.out))) : w.heap.size ≤ gb115)); have n6_ := Aside0.mk ((by rw [hg]; exact (below_size (by repeat (first | (with_reducible first | exact HB.out | apply below_alloc | apply pw_below_drewN | apply below_drew1 | refine below_set ?_ GE114.out) | exact HB.out))) : w.heap.size ≤ gb115)); have n7_ := Aside0.mk ((by rw [hg]; exact Nat.ne_of_lt (blk_lt (g := gb114) (o := .cells #[.int .i64 a0_0, .int .i64 a0_1, .slice A0_2 l0_2.length c0_2, .int .i64 a0_3, .int .i64 a0_4, .slice A0_5 l0_5.length c0_5, .int .i64 a0_6, .int .i64 a0_7, .bool a0_8, .bool a0_9] 27 (0, 0)) (by (with_reducible repeat (first | refine blk_drewN ?_ _ | refine blk_drew ?_ | refine blk_alloc ?_ _)); exact BK114.out)) : gb114 ≠ gb115)); have n8_ := Aside0.mk ((by rw [hg]; exact Nat.ne_of_gt (blk_lt (g := gb114) (o := .cells #[.int .i64 a0_0, .int .i64 a0_1, .slice A0_2 l0_2.length c0_2, .int .i64 a0_3, .int .i64 a0_4, .slice A0_5 l0_5.length c0_5, .int .i64 a0_6, .int .i64 a0_7, .bool a0_8, .bool a0_9] 27 (0, 0)) (by (with_reducible repeat (first | refine blk_drewN ?_ _ | refine blk_drew ?_ | refine blk_alloc ?_ _)); exact BK114.out)) : gb115 ≠ gb114)); clear HO0_2; clear HO0_5; clear BK114; clear HB; have HO0_2 := n0_; have HO0_5 := n1_; have BK114 := n2_; have HB := n3_; have BK115 := n4_; have GW115 := n5_; have GE115 := n6_; have NB114_115 := n7_; have NB115_114 := n8_; clear n0_ n1_ n2_ n3_ n4_ n5_ n6_ n7_ n8_; clear hb hbox hg; have hnb20 := NB114_115.out; have hnc20 := NB115_114.out; have hcz21_0 : w19.cell? ⟨gb114, 0, none⟩ = some (.int .i64 a0_0) := (blk_cell BK114.out 0).trans rfl; have hcz21_1 : w19.cell? ⟨gb114, 1, none⟩ = some (.int .i64 a0_1) := (blk_cell BK114.out 1).trans rfl; have hcz21_2 : w19.cell? ⟨gb114, 2, none⟩ = some (.slice A0_2 l0_2.length c0_2) := (blk_cell BK114.out 2).trans rfl; have hcz21_3 : w19.cell? ⟨gb114, 3, none⟩ = some (.int .i64 a0_3) := (blk_cell BK114.out 3).trans rfl; have hcz21_4 : w19.cell? ⟨gb114, 4, none⟩ = some (.int .i64 a0_4) := (blk_cell BK114.out 4).trans rfl; have hcz21_5 : w19.cell? ⟨gb114, 5, none⟩ = some (.slice A0_5 l0_5.length c0_5) := (blk_cell BK114.out 5).trans rfl; have hcz21_6 : w19.cell? ⟨gb114, 6, none⟩ = some (.int .i64 a0_6) := (blk_cell BK114.out 6).trans rfl; have hcz21_7 : w19.cell? ⟨gb114, 7, none⟩ = some (.int .i64 a0_7) := (blk_cell BK114.out 7).trans rfl; have hcz21_8 : w19.cell? ⟨gb114, 8, none⟩ = some (.bool a0_8) := (blk_cell BK114.out 8).trans rfl; have hcz21_9 : w19.cell? ⟨gb114, 9, none⟩ = some (.bool a0_9) := (blk_cell BK114.out 9).trans rfl; have hfz21_0 := blk_frozen BK114.out 0; have hfz21_1 := blk_frozen BK114.out 1; have hfz21_2 := blk_frozen BK114.out 2; have hfz21_3 := blk_frozen BK114.out 3; have hfz21_4 := blk_frozen BK114.out 4; have hfz21_5 := blk_frozen BK114.out 5; have hfz21_6 := blk_frozen BK114.out 6; have hfz21_7 := blk_frozen BK114.out 7; have hfz21_8 := blk_frozen BK114.out 8; have hfz21_9 := blk_frozen BK114.out 9) | ((with_reducible refine gate_dst (N := 20) rfl ?_); refine Kd.N_lit (Kd.slice 5 (Kd.int .u8)) _ 34 ?hg (N' := 20) ?hd (xs := ([] : List (List Int))) (inner := []) (ok := (fun k_ => ((P0_2_ k_ ∨ P0_5_ k_) ∨ w.heap.size ≤ k_) ∧ k_ ≠ gb114 ∧ k_ ≠ gb115)) (okp := (fun k_ => ((P0_2_ k_ ∨ P0_5_ k_) ∨ w.heap.size ≤ k_) ∧ k_ ≠ gb114 ∧ k_ ≠ gb115)) ?hr ?hp (fun _ hk => hk) ((show ∀ k_, w19.heap.size ≤ k_ → (fun k_ => ((P0_2_ k_ ∨ P0_5_ k_) ∨ w.heap.size ≤ k_) ∧ k_ ≠ gb114 ∧ k_ ≠ gb115) k_ from fun k_ hk => ⟨(.inr (Nat.le_trans (below_size (by repeat (first | (with_reducible first | exact HB.out | apply below_alloc | apply pw_below_drewN | apply below_drew1 | refine below_set ?_ GE114.out | refine below_set ?_ GE115.out) | exact HB.out))) hk)), Kd.freshB (g := gb114) (o := .cells #[.int .i64 a0_0, .int .i64 a0_1, .slice A0_2 l0_2.length c0_2, .int .i64 a0_3, .int .i64 a0_4, .slice A0_5 l0_5.length c0_5, .int .i64 a0_6, .int .i64 a0_7, .bool a0_8, .bool a0_9] 27 (0, 0)) (by (with_reducible repeat (first | refine blk_drewN ?_ _ | refine blk_drew ?_ | refine blk_alloc ?_ _)); exact BK114.out) k_ hk, Kd.freshB (g := gb115) (o := .cells #[.int .i64 0, .int .i64 0, .slice none 0 0, .int .i64 0, .int .i64 0, .slice none 0 0, .int .i64 0, .int .i64 0, .bool false, .bool false] 27 (0, 0)) (by (with_reducible repeat (first | refine blk_drewN ?_ _ | refine blk_drew ?_ | refine blk_alloc ?_ _)); exact BK115.out) k_ hk⟩) _ (Nat.le_refl _)) (Below.refl _ _) (Nat.le_refl _) (by simp) ?_; (case hd => rfl); (case hg => rfl); (case hr => first | (go_simp; done) | (go_simp; rfl)); (case hp => exact (Reps.none _ _)); intro v117 w22 ho23 hb hg_ hnew_; clear hg_ hnew_; (first | rw [← Ny116.out] at ho23 | (simp only [Int.reduceToNat] at ho23; rw [← Ny116.out] at ho23)); have n0_ := Aside0.mk (Kd.V_elder' (by (with_reducible repeat (first | apply Kd.V_alloc | apply Kd.V_drewN | apply Kd.V_drew)); exact HO0_2.out) (Kd.N_base ho23) hb); have n1_ := Aside0.mk (Kd.V_elder' (by (with_reducible repeat (first | apply Kd.V_alloc | apply Kd.V_drewN | apply Kd.V_drew)); exact HO0_5.out) (Kd.N_base ho23) hb); have n2_ := Aside0.mk (Kd.N_lower ho23 (below_size (by repeat (first | (with_reducible first | exact HB.out | apply below_alloc | apply pw_below_drewN | apply below_drew1 | refine below_set ?_ GE114.out | refine below_set ?_ GE115.out) | exact HB.out)))); have n3_ := Aside0.mk (blk_below (g := gb114) (o := .cells #[.int .i64 a0_0, .int .i64 a0_1, .slice A0_2 l0_2.length c0_2, .int .i64 a0_3, .int .i64 a0_4, .slice A0_5 l0_5.length c0_5, .int .i64 a0_6, .int .i64 a0_7, .bool a0_8, .bool a0_9] 27 (0, 0)) (by (with_reducible repeat (first | refine blk_drewN ?_ _ | refine blk_drew ?_ | refine blk_alloc ?_ _)); exact BK114.out) hb); have n4_ := Aside0.mk (blk_below (g := gb115) (o := .cells #[.int .i64 0, .int .i64 0, .slice none 0 0, .int .i64 0, .int .i64 0, .slice none 0 0, .int .i64 0, .int .i64 0, .bool false, .bool false] 27 (0, 0)) (by (with_reducible repeat (first | refine blk_drewN ?_ _ | refine blk_drew ?_ | refine blk_alloc ?_ _)); exact BK115.out) hb); have n5_ := Aside0.mk (below_step (by repeat (first | (with_reducible first | exact HB.out | apply below_alloc | apply pw_below_drewN | apply below_drew1 | refine below_set ?_ GE114.out | refine below_set ?_ GE115.out) | exact HB.out)) hb); clear HO0_2; clear HO0_5; clear BK114; clear BK115; clear HB; have HO0_2 := n0_; have HO0_5 := n1_; have HO118 := n2_; have BK114 := n3_; have BK115 := n4_; have HB := n5_; clear n0_ n1_ n2_ n3_ n4_ n5_; clear hb ho23; have hcz24_0 : w22.cell? ⟨gb114, 0, none⟩ = some (.int .i64 a0_0) := (blk_cell BK114.out 0).trans rfl; have hcz24_1 : w22.cell? ⟨gb114, 1, none⟩ = some (.int .i64 a0_1) := (blk_cell BK114.out 1).trans rfl; have hcz24_2 : w22.cell? ⟨gb114, 2, none⟩ = some (.slice A0_2 l0_2.length c0_2) := (blk_cell BK114.out 2).trans rfl; have hcz24_3 : w22.cell? ⟨gb114, 3, none⟩ = some (.int .i64 a0_3) := (blk_cell BK114.out 3).trans rfl; have hcz24_4 : w22.cell? ⟨gb114, 4, none⟩ = some (.int .i64 a0_4) := (blk_cell BK114.out 4).trans rfl; have hcz24_5 : w22.cell? ⟨gb114, 5, none⟩ = some (.slice A0_5 l0_5.length c0_5) := (blk_cell BK114.out 5).trans rfl; have hcz24_6 : w22.cell? ⟨gb114, 6, none⟩ = some (.int .i64 a0_6) := (blk_cell BK114.out 6).trans rfl; have hcz24_7 : w22.cell? ⟨gb114, 7, none⟩ = some (.int .i64 a0_7) := (blk_cell BK114.out 7).trans rfl; have hcz24_8 : w22.cell? ⟨gb114, 8, none⟩ = some (.bool a0_8) := (blk_cell BK114.out 8).trans rfl; have hcz24_9 : w22.cell? ⟨gb114, 9, none⟩ = some (.bool a0_9) := (blk_cell BK114.out 9).trans rfl; have hfz24_0 := blk_frozen BK114.out 0; have hfz24_1 := blk_frozen BK114.out 1; have hfz24_2 := blk_frozen BK114.out 2; have hfz24_3 := blk_frozen BK114.out 3; have hfz24_4 := blk_frozen BK114.out 4; have hfz24_5 := blk_frozen BK114.out 5; have hfz24_6 := blk_frozen BK114.out 6; have hfz24_7 := blk_frozen BK114.out 7; have hfz24_8 := blk_frozen BK114.out 8; have hfz24_9 := blk_frozen BK114.out 9) | ((with_reducible refine gate_builtin (b := .append) (xs := #[.tmp 20, .tmp 22]) rfl ?_); at_builtin; refine Kd.N_append_rows (Kd.slice 5 (Kd.int .u8)) (w0 := w) w.heap.size rfl (.tmp 20) (.tmp 22) 25 34 (.slice none 0 0) 24 rfl Try.underlying25 info34 rfl (by decide) (by omega) v117 y116 l0_2 _ _ _ (fun k_ => ((P0_2_ k_ ∨ P0_5_ k_) ∨ w.heap.size ≤ k_) ∧ k_ ≠ gb114 ∧ k_ ≠ gb115) (fun k_ => ((fun k_ => ((P0_2_ k_ ∨ P0_5_ k_) ∨ w.heap.size ≤ k_) ∧ k_ ≠ gb114 ∧ k_ ≠ gb115)) k_ ∧ some k_ ≠ (v117 : Value).ownBlock) rfl rfl ?aO ?aR (fun _ hk => hk) ?aF ?aB ?aS ?aL ?_; (case aR => exact (by skip; exact Kd.V_F (Kd.V_mono (ok' := (fun k_ => ((fun k_ => ((P0_2_ k_ ∨ P0_5_ k_) ∨ w.heap.size ≤ k_) ∧ k_ ≠ gb114 ∧ k_ ≠ gb115)) k_ ∧ some k_ ≠ (v117 : Value).ownBlock)) (HO0_2.out) (fun k_ hk => ⟨⟨hk.1.1.1, ⟨hk.1.1.2, hk.1.2⟩⟩, hk.2⟩)))); (case aB => exact (by repeat (first | (with_reducible first | exact HB.out | apply below_alloc | apply pw_below_drewN | apply below_drew1 | refine below_set ?_ GE114.out | refine below_set ?_ GE115.out) | exact HB.out))); (case aF => exact (fun k_ hk => ⟨(.inr (Nat.le_trans (below_size (by repeat (first | (with_reducible first | exact HB.out | apply below_alloc | apply pw_below_drewN | apply below_drew1 | refine below_set ?_ GE114.out | refine below_set ?_ GE115.out) | exact HB.out))) hk)), Kd.freshB (g := gb114) (o := .cells #[.int .i64 a0_0, .int .i64 a0_1, .slice A0_2 l0_2.length c0_2, .int .i64 a0_3, .int .i64 a0_4, .slice A0_5 l0_5.length c0_5, .int .i64 a0_6, .int .i64 a0_7, .bool a0_8, .bool a0_9] 27 (0, 0)) (by (with_reducible repeat (first | refine blk_drewN ?_ _ | refine blk_drew ?_ | refine blk_alloc ?_ _)); exact BK114.out) k_ hk, Kd.freshB (g := gb115) (o := .cells #[.int .i64 0, .int .i64 0, .slice none 0 0, .int .i64 0, .int .i64 0, .slice none 0 0, .int .i64 0, .int .i64 0, .bool false, .bool false] 27 (0, 0)) (by (with_reducible repeat (first | refine blk_drewN ?_ _ | refine blk_drew ?_ | refine blk_alloc ?_ _)); exact BK115.out) k_ hk⟩)); (case aO => exact (by (with_reducible repeat (first | apply Kd.N_alloc | apply Kd.N_drewN | apply Kd.N_drew)); exact HO118.out)); (case aS => exact (below_size (by repeat (first | (with_reducible first | exact HB.out | apply below_alloc | apply pw_below_drewN | apply below_drew1 | refine below_set ?_ GE114.out | refine below_set ?_ GE115.out) | exact HB.out)))); (case aL => have := LMc15.out; omega); intro v120 w25 ho hb hg hat; rw [← Ny119.out] at ho; have n0_ := Aside0.mk (Kd.V_afterv (ok := (fun k_ => ((P0_2_ k_ ∨ P0_5_ k_) ∨ w.heap.size ≤ k_) ∧ k_ ≠ gb114 ∧ k_ ≠ gb115)) (by (with_reducible repeat (first | apply Kd.V_alloc | apply Kd.V_drewN | apply Kd.V_drew)); exact Kd.V_mono HO0_2.out (fun _ hk => ⟨⟨hk.1.1.1, ⟨hk.1.1.2, hk.1.2⟩⟩, hk.2⟩)) hg hat); have n1_ := Aside0.mk (Kd.V_afterv (ok := (fun k_ => ((P0_2_ k_ ∨ P0_5_ k_) ∨ w.heap.size ≤ k_) ∧ k_ ≠ gb114 ∧ k_ ≠ gb115)) (by (with_reducible repeat (first | apply Kd.V_alloc | apply Kd.V_drewN | apply Kd.V_drew)); exact Kd.V_mono HO0_5.out (fun _ hk => ⟨⟨hk.1.1.1, ⟨hk.1.1.2, hk.1.2⟩⟩, hk.2⟩)) hg hat); have n2_ := Aside0.mk (blk_grown (g := gb114) (o := .cells #[.int .i64 a0_0, .int .i64 a0_1, .slice A0_2 l0_2.length c0_2, .int .i64 a0_3, .int .i64 a0_4, .slice A0_5 l0_5.length c0_5, .int .i64 a0_6, .int .i64 a0_7, .bool a0_8, .bool a0_9] 27 (0, 0)) (by (with_reducible repeat (first | refine blk_drewN ?_ _ | refine blk_drew ?_ | refine blk_alloc ?_ _)); exact BK114.out) hg (Kd.N_ne HO118.out BK114.out (by decide))); have n3_ := Aside0.mk (blk_grown (g := gb115) (o := .cells #[.int .i64 0, .int .i64 0, .slice none 0 0, .int .i64 0, .int .i64 0, .slice none 0 0, .int .i64 0, .int .i64 0, .bool false, .bool false] 27 (0, 0)) (by (with_reducible repeat (first | refine blk_drewN ?_ _ | refine blk_drew ?_ | refine blk_alloc ?_ _)); exact BK115.out) hg (Kd.N_ne HO118.out BK115.out (by decide))); have n4_ := Aside0.mk (hb); have n5_ := Aside0.mk (ho); clear HO0_2; clear HO0_5; clear BK114; clear BK115; clear HB; clear HO118; have HO0_2 := n0_; have HO0_5 := n1_; have BK114 := n2_; have BK115 := n3_; have HB := n4_; have HO121 := n5_; clear n0_ n1_ n2_ n3_ n4_ n5_; clear ho hb hg hat) | ((with_reducible refine gate_dst (N := 24) rfl ?_); refine Kd.R_lit (Kd.int .u8) _ 5 ?hg (N := 24) ?hd (xs := ([] : List Int)) (inner := []) (ok := fun _ => True) (okp := fun _ => True) ?hr ?hp (fun _ hk => hk) trivial (Below.refl _ _) (Nat.le_refl _) (by simp) ?_; (case hd => rfl); (case hg => rfl); (case hr => first | (go_simp; done) | (go_simp; rfl)); (case hp => exact (Reps.none _ _)); intro v123 w26 ho27 hb hg_ hnew_; clear hg_ hnew_; (first | rw [← Ny122.out] at ho27 | (simp only [Int.reduceToNat] at ho27; rw [← Ny122.out] at ho27)); have n0_ := Aside0.mk (Kd.V_elder' (by (with_reducible repeat (first | apply Kd.V_alloc | apply Kd.V_drewN | apply Kd.V_drew)); exact HO0_2.out) (Kd.R_base ho27) hb); have n1_ := Aside0.mk (Kd.V_elder' (by (with_reducible repeat (first | apply Kd.V_alloc | apply Kd.V_drewN | apply Kd.V_drew)); exact HO0_5.out) (Kd.R_base ho27) hb); have n2_ := Aside0.mk (Kd.N_elder' (by (with_reducible repeat (first | apply Kd.N_alloc | apply Kd.N_drewN | apply Kd.N_drew)); exact HO121.out) (Kd.R_base ho27) hb); have n3_ := Aside0.mk (Kd.R_lower (Kd.R_newM (M := fun k_ => (w.heap.size ≤ k_)) ho27 (below_size (by repeat (first | (with_reducible first | exact HB.out | apply below_alloc | apply pw_below_drewN | apply below_drew1 | refine below_set ?_ GE114.out | refine below_set ?_ GE115.out) | exact HB.out))) (fun k_ h_ => h_)) (below_size (by repeat (first | (with_reducible first | exact HB.out | apply below_alloc | apply pw_below_drewN | apply below_drew1 | refine below_set ?_ GE114.out | refine below_set ?_ GE115.out) | exact HB.out)))); have n4_ := Aside0.mk (blk_below (g := gb114) (o := .cells #[.int .i64 a0_0, .int .i64 a0_1, .slice A0_2 l0_2.length c0_2, .int .i64 a0_3, .int .i64 a0_4, .slice A0_5 l0_5.length c0_5, .int .i64 a0_6, .int .i64 a0_7, .bool a0_8, .bool a0_9] 27 (0, 0)) (by (with_reducible repeat (first | refine blk_drewN ?_ _ | refine blk_drew ?_ | refine blk_alloc ?_ _)); exact BK114.out) hb); have n5_ := Aside0.mk (blk_below (g := gb115) (o := .cells #[.int .i64 0, .int .i64 0, .slice none 0 0, .int .i64 0, .int .i64 0, .slice none 0 0, .int .i64 0, .int .i64 0, .bool false, .bool false] 27 (0, 0)) (by (with_reducible repeat (first | refine blk_drewN ?_ _ | refine blk_drew ?_ | refine blk_alloc ?_ _)); exact BK115.out) hb); have n6_ := Aside0.mk (below_step (by repeat (first | (with_reducible first | exact HB.out | apply below_alloc | apply pw_below_drewN | apply below_drew1 | refine below_set ?_ GE114.out | refine below_set ?_ GE115.out) | exact HB.out)) hb); clear HO0_2; clear HO0_5; clear HO121; clear BK114; clear BK115; clear HB; have HO0_2 := n0_; have HO0_5 := n1_; have HO121 := n2_; have HO124 := n3_; have BK114 := n4_; have BK115 := n5_; have HB := n6_; clear n0_ n1_ n2_ n3_ n4_ n5_ n6_; clear hb ho27) | ((with_reducible refine gate_builtin (b := .append) (xs := #[.tmp 24, .tmp 25]) rfl ?_); at_builtin; refine Kd.R_append_rows (Kd.int .u8) (w0 := w) w.heap.size rfl (.tmp 24) (.tmp 25) 34 5 (.int .u8 0) 1 rfl Try.underlying34 info5 rfl (by decide) (by omega) v123 y122 l1 _ _ _ (fun k_ => (w.heap.size ≤ k_)) (fun _ => False) rfl rfl ?aO ?aR (fun _ _ h => h) (fun _ h => h.elim) ?aF ?aB ?aS ?aL ?_; (case aR => repeat (first | exact (Kd.C_below HR1.out HB.out) | (with_reducible refine Kd.C_alloc ?_ _) | (with_reducible refine Kd.C_drewN ?_ _) | (with_reducible refine Kd.C_drew ?_))); (case aB => exact (by repeat (first | (with_reducible first | exact HB.out | apply below_alloc | apply pw_below_drewN | apply below_drew1 | refine below_set ?_ GE114.out | refine below_set ?_ GE115.out) | exact HB.out))); (case aF => exact (fun k_ hk => (Nat.le_trans (below_size (by repeat (first | (with_reducible first | exact HB.out | apply below_alloc | apply pw_below_drewN | apply below_drew1 | refine below_set ?_ GE114.out | refine below_set ?_ GE115.out) | exact HB.out))) hk))); (case aO => exact (by (with_reducible repeat (first | apply Kd.R_alloc | apply Kd.R_drewN | apply Kd.R_drew)); exact Kd.R_mono HO124.out (fun _ hk => hk.1))); (case aS => exact (below_size (by repeat (first | (with_reducible first | exact HB.out | apply below_alloc | apply pw_below_drewN | apply below_drew1 | refine below_set ?_ GE114.out | refine below_set ?_ GE115.out) | exact HB.out)))); (case aL => have := LMc16.out; omega); intro v126 w28 ho hb hg hat; rw [← Ny125.out] at ho; have n0_ := Aside0.mk (Kd.V_afterv (ok := (fun k_ => ((P0_2_ k_ ∨ P0_5_ k_) ∨ w.heap.size ≤ k_) ∧ some k_ ≠ (v120 : Value).ownBlock ∧ k_ ≠ gb114 ∧ k_ ≠ gb115)) (by (with_reducible repeat (first | apply Kd.V_alloc | apply Kd.V_drewN | apply Kd.V_drew)); exact Kd.V_mono HO0_2.out (fun _ hk => ⟨⟨hk.1.1.1, ⟨hk.1.2, ⟨hk.1.1.2.1, hk.1.1.2.2⟩⟩⟩, hk.2⟩)) hg hat); have n1_ := Aside0.mk (Kd.V_afterv (ok := (fun k_ => ((P0_2_ k_ ∨ P0_5_ k_) ∨ w.heap.size ≤ k_) ∧ some k_ ≠ (v120 : Value).ownBlock ∧ k_ ≠ gb114 ∧ k_ ≠ gb115)) (by (with_reducible repeat (first | apply Kd.V_alloc | apply Kd.V_drewN | apply Kd.V_drew)); exact Kd.V_mono HO0_5.out (fun _ hk => ⟨⟨hk.1.1.1, ⟨hk.1.2, ⟨hk.1.1.2.1, hk.1.1.2.2⟩⟩⟩, hk.2⟩)) hg hat); have n2_ := Aside0.mk (blk_grown (g := gb114) (o := .cells #[.int .i64 a0_0, .int .i64 a0_1, .slice A0_2 l0_2.length c0_2, .int .i64 a0_3, .int .i64 a0_4, .slice A0_5 l0_5.length c0_5, .int .i64 a0_6, .int .i64 a0_7, .bool a0_8, .bool a0_9] 27 (0, 0)) (by (with_reducible repeat (first | refine blk_drewN ?_ _ | refine blk_drew ?_ | refine blk_alloc ?_ _)); exact BK114.out) hg (Kd.R_ne HO124.out BK114.out (by decide))); have n3_ := Aside0.mk (blk_grown (g := gb115) (o := .cells #[.int .i64 0, .int .i64 0, .slice none 0 0, .int .i64 0, .int .i64 0, .slice none 0 0, .int .i64 0, .int .i64 0, .bool false, .bool false] 27 (0, 0)) (by (with_reducible repeat (first | refine blk_drewN ?_ _ | refine blk_drew ?_ | refine blk_alloc ?_ _)); exact BK115.out) hg (Kd.R_ne HO124.out BK115.out (by decide))); have n4_ := Aside0.mk (Kd.N_afterv (ok := (fun k_ => ((P0_2_ k_ ∨ P0_5_ k_) ∨ w.heap.size ≤ k_) ∧ k_ ≠ gb114 ∧ k_ ≠ gb115)) (by (with_reducible repeat (first | apply Kd.N_alloc | apply Kd.N_drewN | apply Kd.N_drew)); exact HO121.out) hg hat); have n5_ := Aside0.mk (hb); have n6_ := Aside0.mk (ho); clear HO0_2; clear HO0_5; clear BK114; clear BK115; clear HO121; clear HB; clear HO124; have HO0_2 := n0_; have HO0_5 := n1_; have BK114 := n2_; have BK115 := n3_; have HO121 := n4_; have HB := n5_; have HO127 := n6_; clear n0_ n1_ n2_ n3_ n4_ n5_ n6_; clear ho hb hg hat; obtain ⟨Ao30, co30, eo30⟩ := Kd.R_slice HO127.out; subst eo30) | ((with_reducible refine gate_builtin (b := .append) (xs := #[.tmp 23, .tmp 27]) rfl ?_); at_builtin; refine Kd.N_append (Kd.slice 5 (Kd.int .u8)) (w0 := w) w.heap.size rfl (.tmp 23) (.tmp 27) 25 34 (.slice none 0 0) 24 rfl Try.underlying25 info34 rfl (by decide) (by omega) v120 y119 y125 [.slice Ao30 y125.length co30] (fun k_ => ((P0_2_ k_ ∨ P0_5_ k_) ∨ w.heap.size ≤ k_) ∧ k_ ≠ gb114 ∧ k_ ≠ gb115) (fun k_ => ((fun k_ => ((P0_2_ k_ ∨ P0_5_ k_) ∨ w.heap.size ≤ k_) ∧ k_ ≠ gb114 ∧ k_ ≠ gb115)) k_ ∧ some k_ ≠ (v120 : Value).ownBlock) rfl rfl ?aP (fun _ hk => hk) ?aF ?aO ?aB ?aS ?aL ?_; (case aP => exact (Kd.FK_slice_mk (Kd.R_reads' (Kd.R_mono (ok' := (fun k_ => ((fun k_ => ((P0_2_ k_ ∨ P0_5_ k_) ∨ w.heap.size ≤ k_) ∧ k_ ≠ gb114 ∧ k_ ≠ gb115)) k_ ∧ some k_ ≠ (v120 : Value).ownBlock)) (Kd.R_types (Kd.R_types (Kd.R_apart' (HO127.out) (Kd.N_typed HO121.out) (by decide)) BK114.out (by decide)) BK115.out (by decide)) (fun k_ hk => ⟨⟨(.inr (hk.1.1.1)), ⟨hk.1.2, hk.2⟩⟩, hk.1.1.2⟩))).2.1 (Kd.R_F (Kd.R_mono (ok' := (fun k_ => ((fun k_ => ((P0_2_ k_ ∨ P0_5_ k_) ∨ w.heap.size ≤ k_) ∧ k_ ≠ gb114 ∧ k_ ≠ gb115)) k_ ∧ some k_ ≠ (v120 : Value).ownBlock)) (Kd.R_types (Kd.R_types (Kd.R_apart' (HO127.out) (Kd.N_typed HO121.out) (by decide)) BK114.out (by decide)) BK115.out (by decide)) (fun k_ hk => ⟨⟨(.inr (hk.1.1.1)), ⟨hk.1.2, hk.2⟩⟩, hk.1.1.2⟩))))); (case aB => exact (by repeat (first | (with_reducible first | exact HB.out | apply below_alloc | apply pw_below_drewN | apply below_drew1 | refine below_set ?_ GE114.out | refine below_set ?_ GE115.out) | exact HB.out))); (case aF => exact (fun k_ hk => ⟨(.inr (Nat.le_trans (below_size (by repeat (first | (with_reducible first | exact HB.out | apply below_alloc | apply pw_below_drewN | apply below_drew1 | refine below_set ?_ GE114.out | refine below_set ?_ GE115.out) | exact HB.out))) hk)), Kd.freshB (g := gb114) (o := .cells #[.int .i64 a0_0, .int .i64 a0_1, .slice A0_2 l0_2.length c0_2, .int .i64 a0_3, .int .i64 a0_4, .slice A0_5 l0_5.length c0_5, .int .i64 a0_6, .int .i64 a0_7, .bool a0_8, .bool a0_9] 27 (0, 0)) (by (with_reducible repeat (first | refine blk_drewN ?_ _ | refine blk_drew ?_ | refine blk_alloc ?_ _)); exact BK114.out) k_ hk, Kd.freshB (g := gb115) (o := .cells #[.int .i64 0, .int .i64 0, .slice none 0 0, .int .i64 0, .int .i64 0, .slice none 0 0, .int .i64 0, .int .i64 0, .bool false, .bool false] 27 (0, 0)) (by (with_reducible repeat (first | refine blk_drewN ?_ _ | refine blk_drew ?_ | refine blk_alloc ?_ _)); exact BK115.out) k_ hk⟩)); (case aO => exact (by (with_reducible repeat (first | apply Kd.N_alloc | apply Kd.N_drewN | apply Kd.N_drew)); exact Kd.N_mono HO121.out (fun _ hk => ⟨hk.1.1, ⟨hk.1.2.1, hk.1.2.2⟩⟩))); (case aS => exact (below_size (by repeat (first | (with_reducible first | exact HB.out | apply below_alloc | apply pw_below_drewN | apply below_drew1 | refine below_set ?_ GE114.out | refine below_set ?_ GE115.out) | exact HB.out)))); (case aL => have := LMc17.out; omega); intro v129 w29 ho hb hg hat; rw [← Ny128.out] at ho; have n0_ := Aside0.mk (Kd.V_afterv (ok := (fun k_ => ((P0_2_ k_ ∨ P0_5_ k_) ∨ w.heap.size ≤ k_) ∧ some k_ ≠ (.slice Ao30 y125.length co30 : Value).ownBlock ∧ k_ ≠ gb114 ∧ k_ ≠ gb115)) (by (with_reducible repeat (first | apply Kd.V_alloc | apply Kd.V_drewN | apply Kd.V_drew)); exact Kd.V_mono HO0_2.out (fun _ hk => ⟨⟨hk.1.1, ⟨hk.2, ⟨hk.1.2.2.1, hk.1.2.2.2⟩⟩⟩, hk.1.2.1⟩)) hg hat); have n1_ := Aside0.mk (Kd.V_afterv (ok := (fun k_ => ((P0_2_ k_ ∨ P0_5_ k_) ∨ w.heap.size ≤ k_) ∧ some k_ ≠ (.slice Ao30 y125.length co30 : Value).ownBlock ∧ k_ ≠ gb114 ∧ k_ ≠ gb115)) (by (with_reducible repeat (first | apply Kd.V_alloc | apply Kd.V_drewN | apply Kd.V_drew)); exact Kd.V_mono HO0_5.out (fun _ hk => ⟨⟨hk.1.1, ⟨hk.2, ⟨hk.1.2.2.1, hk.1.2.2.2⟩⟩⟩, hk.1.2.1⟩)) hg hat); have n2_ := Aside0.mk (blk_grown (g := gb114) (o := .cells #[.int .i64 a0_0, .int .i64 a0_1, .slice A0_2 l0_2.length c0_2, .int .i64 a0_3, .int .i64 a0_4, .slice A0_5 l0_5.length c0_5, .int .i64 a0_6, .int .i64 a0_7, .bool a0_8, .bool a0_9] 27 (0, 0)) (by (with_reducible repeat (first | refine blk_drewN ?_ _ | refine blk_drew ?_ | refine blk_alloc ?_ _)); exact BK114.out) hg (Kd.N_ne HO121.out BK114.out (by decide))); have n3_ := Aside0.mk (blk_grown (g := gb115) (o := .cells #[.int .i64 0, .int .i64 0, .slice none 0 0, .int .i64 0, .int .i64 0, .slice none 0 0, .int .i64 0, .int .i64 0, .bool false, .bool false] 27 (0, 0)) (by (with_reducible repeat (first | refine blk_drewN ?_ _ | refine blk_drew ?_ | refine blk_alloc ?_ _)); exact BK115.out) hg (Kd.N_ne HO121.out BK115.out (by decide))); have n4_ := Aside0.mk (hb); have n5_ := Aside0.mk (ho); clear HO0_2; clear HO0_5; clear BK114; clear BK115; clear HB; clear HO121; clear HO127; have HO0_2 := n0_; have HO0_5 := n1_; have BK114 := n2_; have BK115 := n3_; have HB := n4_; have HO130 := n5_; clear n0_ n1_ n2_ n3_ n4_ n5_; clear ho hb hg hat; obtain ⟨Ao31, co31, eo31⟩ := Kd.N_slice HO130.out; subst eo31; have hcz32_0 : w29.cell? ⟨gb114, 0, none⟩ = some (.int .i64 a0_0) := (blk_cell BK114.out 0).trans rfl; have hcz32_1 : w29.cell? ⟨gb114, 1, none⟩ = some (.int .i64 a0_1) := (blk_cell BK114.out 1).trans rfl; have hcz32_2 : w29.cell? ⟨gb114, 2, none⟩ = some (.slice A0_2 l0_2.length c0_2) := (blk_cell BK114.out 2).trans rfl; have hcz32_3 : w29.cell? ⟨gb114, 3, none⟩ = some (.int .i64 a0_3) := (blk_cell BK114.out 3).trans rfl; have hcz32_4 : w29.cell? ⟨gb114, 4, none⟩ = some (.int .i64 a0_4) := (blk_cell BK114.out 4).trans rfl; have hcz32_5 : w29.cell? ⟨gb114, 5, none⟩ = some (.slice A0_5 l0_5.length c0_5) := (blk_cell BK114.out 5).trans rfl; have hcz32_6 : w29.cell? ⟨gb114, 6, none⟩ = some (.int .i64 a0_6) := (blk_cell BK114.out 6).trans rfl; have hcz32_7 : w29.cell? ⟨gb114, 7, none⟩ = some (.int .i64 a0_7) := (blk_cell BK114.out 7).trans rfl; have hcz32_8 : w29.cell? ⟨gb114, 8, none⟩ = some (.bool a0_8) := (blk_cell BK114.out 8).trans rfl; have hcz32_9 : w29.cell? ⟨gb114, 9, none⟩ = some (.bool a0_9) := (blk_cell BK114.out 9).trans rfl; have hfz32_0 := blk_frozen BK114.out 0; have hfz32_1 := blk_frozen BK114.out 1; have hfz32_2 := blk_frozen BK114.out 2; have hfz32_3 := blk_frozen BK114.out 3; have hfz32_4 := blk_frozen BK114.out 4; have hfz32_5 := blk_frozen BK114.out 5; have hfz32_6 := blk_frozen BK114.out 6; have hfz32_7 := blk_frozen BK114.out 7; have hfz32_8 := blk_frozen BK114.out 8; have hfz32_9 := blk_frozen BK114.out 9; have hcz33_0 : w29.cell? ⟨gb115, 0, none⟩ = some (.int .i64 0) := (blk_cell BK115.out 0).trans rfl; have hcz33_1 : w29.cell? ⟨gb115, 1, none⟩ = some (.int .i64 0) := (blk_cell BK115.out 1).trans rfl; have hcz33_2 : w29.cell? ⟨gb115, 2, none⟩ = some (.slice none 0 0) := (blk_cell BK115.out 2).trans rfl; have hcz33_3 : w29.cell? ⟨gb115, 3, none⟩ = some (.int .i64 0) := (blk_cell BK115.out 3).trans rfl; have hcz33_4 : w29.cell? ⟨gb115, 4, none⟩ = some (.int .i64 0) := (blk_cell BK115.out 4).trans rfl; have hcz33_5 : w29.cell? ⟨gb115, 5, none⟩ = some (.slice none 0 0) := (blk_cell BK115.out 5).trans rfl; have hcz33_6 : w29.cell? ⟨gb115, 6, none⟩ = some (.int .i64 0) := (blk_cell BK115.out 6).trans rfl; have hcz33_7 : w29.cell? ⟨gb115, 7, none⟩ = some (.int .i64 0) := (blk_cell BK115.out 7).trans rfl; have hcz33_8 : w29.cell? ⟨gb115, 8, none⟩ = some (.bool false) := (blk_cell BK115.out 8).trans rfl; have hcz33_9 : w29.cell? ⟨gb115, 9, none⟩ = some (.bool false) := (blk_cell BK115.out 9).trans rfl; have hfz33_0 := blk_frozen BK115.out 0; have hfz33_1 := blk_frozen BK115.out 1; have hfz33_2 := blk_frozen BK115.out 2; have hfz33_3 := blk_frozen BK115.out 3; have hfz33_4 := blk_frozen BK115.out 4; have hfz33_5 := blk_frozen BK115.out 5; have hfz33_6 := blk_frozen BK115.out 6; have hfz33_7 := blk_frozen BK115.out 7; have hfz33_8 := blk_frozen BK115.out 8; have hfz33_9 := blk_frozen BK115.out 9))
            refine bodyPost_ret (results_ct rfl _ _ gb115 27 #[.int .i64 a0_0, .int .i64 a0_1, .slice Ao31 y128.length co31, .int .i64 a0_3, .int .i64 a0_4, .slice A0_5 l0_5.length c0_5, .int .i64 a0_6, .int .i64 a0_7, .bool a0_8, .bool a0_9] (0, 0) _ rfl (by (with_reducible repeat (first | refine blk_drewN ?_ _ | refine blk_drew ?_ | refine blk_alloc ?_ _)); refine blk_put (cs := #[.int .i64 a0_0, .int .i64 a0_1, .slice Ao31 y128.length co31, .int .i64 a0_3, .int .i64 a0_4, .slice A0_5 l0_5.length c0_5, .int .i64 a0_6, .int .i64 a0_7, .bool a0_8, .bool false]) ?_ 9 _ rfl; (with_reducible repeat (first | refine blk_drewN ?_ _ | refine blk_drew ?_ | refine blk_alloc ?_ _)); refine blk_put (cs := #[.int .i64 a0_0, .int .i64 a0_1, .slice Ao31 y128.length co31, .int .i64 a0_3, .int .i64 a0_4, .slice A0_5 l0_5.length c0_5, .int .i64 a0_6, .int .i64 a0_7, .bool false, .bool false]) ?_ 8 _ rfl; (with_reducible repeat (first | refine blk_drewN ?_ _ | refine blk_drew ?_ | refine blk_alloc ?_ _)); refine blk_put (cs := #[.int .i64 a0_0, .int .i64 a0_1, .slice Ao31 y128.length co31, .int .i64 a0_3, .int .i64 a0_4, .slice A0_5 l0_5.length c0_5, .int .i64 a0_6, .int .i64 0, .bool false, .bool false]) ?_ 7 _ rfl; (with_reducible repeat (first | refine blk_drewN ?_ _ | refine blk_drew ?_ | refine blk_alloc ?_ _)); refine blk_put (cs := #[.int .i64 a0_0, .int .i64 a0_1, .slice Ao31 y128.length co31, .int .i64 a0_3, .int .i64 a0_4, .slice A0_5 l0_5.length c0_5, .int .i64 0, .int .i64 0, .bool false, .bool false]) ?_ 6 _ rfl; (with_reducible repeat (first | refine blk_drewN ?_ _ | refine blk_drew ?_ | refine blk_alloc ?_ _)); refine blk_put (cs := #[.int .i64 a0_0, .int .i64 a0_1, .slice Ao31 y128.length co31, .int .i64 a0_3, .int .i64 a0_4, .slice none 0 0, .int .i64 0, .int .i64 0, .bool false, .bool false]) ?_ 5 _ rfl; (with_reducible repeat (first | refine blk_drewN ?_ _ | refine blk_drew ?_ | refine blk_alloc ?_ _)); refine blk_put (cs := #[.int .i64 a0_0, .int .i64 a0_1, .slice Ao31 y128.length co31, .int .i64 a0_3, .int .i64 0, .slice none 0 0, .int .i64 0, .int .i64 0, .bool false, .bool false]) ?_ 4 _ rfl; (with_reducible repeat (first | refine blk_drewN ?_ _ | refine blk_drew ?_ | refine blk_alloc ?_ _)); refine blk_put (cs := #[.int .i64 a0_0, .int .i64 a0_1, .slice Ao31 y128.length co31, .int .i64 0, .int .i64 0, .slice none 0 0, .int .i64 0, .int .i64 0, .bool false, .bool false]) ?_ 3 _ rfl; (with_reducible repeat (first | refine blk_drewN ?_ _ | refine blk_drew ?_ | refine blk_alloc ?_ _)); refine blk_put (cs := #[.int .i64 a0_0, .int .i64 a0_1, .slice none 0 0, .int .i64 0, .int .i64 0, .slice none 0 0, .int .i64 0, .int .i64 0, .bool false, .bool false]) ?_ 2 _ rfl; (with_reducible repeat (first | refine blk_drewN ?_ _ | refine blk_drew ?_ | refine blk_alloc ?_ _)); refine blk_put (cs := #[.int .i64 a0_0, .int .i64 0, .slice none 0 0, .int .i64 0, .int .i64 0, .slice none 0 0, .int .i64 0, .int .i64 0, .bool false, .bool false]) ?_ 1 _ rfl; (with_reducible repeat (first | refine blk_drewN ?_ _ | refine blk_drew ?_ | refine blk_alloc ?_ _)); refine blk_put (cs := #[.int .i64 0, .int .i64 0, .slice none 0 0, .int .i64 0, .int .i64 0, .slice none 0 0, .int .i64 0, .int .i64 0, .bool false, .bool false]) ?_ 0 _ rfl; (with_reducible repeat (first | refine blk_drewN ?_ _ | refine blk_drew ?_ | refine blk_alloc ?_ _)); refine blk_far ?_ NB115_114.out _; (with_reducible repeat (first | refine blk_drewN ?_ _ | refine blk_drew ?_ | refine blk_alloc ?_ _)); exact BK115.out) Try.underlying27 rfl (by kernel_rfl)) rfl ?_
            exact ⟨_, _, by first | rfl | (simp [errW_none, errW_some] <;> rfl) | (simp [*, errW_none, errW_some] <;> rfl), Kd.N_V (by (with_reducible repeat (first | apply Kd.N_alloc | apply Kd.N_drewN | apply Kd.N_drew)); exact Kd.N_mono (Kd.N_far (p := ⟨gb115, 9, none⟩) (Kd.N_far (p := ⟨gb115, 8, none⟩) (Kd.N_far (p := ⟨gb115, 7, none⟩) (Kd.N_far (p := ⟨gb115, 6, none⟩) (Kd.N_far (p := ⟨gb115, 5, none⟩) (Kd.N_far (p := ⟨gb115, 4, none⟩) (Kd.N_far (p := ⟨gb115, 3, none⟩) (Kd.N_far (p := ⟨gb115, 2, none⟩) (Kd.N_far (p := ⟨gb115, 1, none⟩) (Kd.N_far (p := ⟨gb115, 0, none⟩) (Kd.N_far (p := ⟨gb114, 2, none⟩) (Kd.N_mono (Kd.N_mono HO130.out (fun k_ hk => (⟨hk, hk.2.1⟩ : _ ∧ k_ ≠ gb114))) (fun k_ hk => (⟨hk, hk.1.2.2⟩ : _ ∧ k_ ≠ gb115))) (fun _ hk => hk.1.2) (.slice Ao31 y128.length co31)) (fun _ hk => hk.2) (.int .i64 a0_0)) (fun _ hk => hk.2) (.int .i64 a0_1)) (fun _ hk => hk.2) (.slice Ao31 y128.length co31)) (fun _ hk => hk.2) (.int .i64 a0_3)) (fun _ hk => hk.2) (.int .i64 a0_4)) (fun _ hk => hk.2) (.slice A0_5 l0_5.length c0_5)) (fun _ hk => hk.2) (.int .i64 a0_6)) (fun _ hk => hk.2) (.int .i64 a0_7)) (fun _ hk => hk.2) (.bool a0_8)) (fun _ hk => hk.2) (.bool a0_9)) (fun _ hk => hk.1.1.1)), by (with_reducible repeat (first | apply Kd.V_alloc | apply Kd.V_drewN | apply Kd.V_drew)); exact Kd.V_mono (Kd.V_far (p := ⟨gb115, 9, none⟩) (Kd.V_far (p := ⟨gb115, 8, none⟩) (Kd.V_far (p := ⟨gb115, 7, none⟩) (Kd.V_far (p := ⟨gb115, 6, none⟩) (Kd.V_far (p := ⟨gb115, 5, none⟩) (Kd.V_far (p := ⟨gb115, 4, none⟩) (Kd.V_far (p := ⟨gb115, 3, none⟩) (Kd.V_far (p := ⟨gb115, 2, none⟩) (Kd.V_far (p := ⟨gb115, 1, none⟩) (Kd.V_far (p := ⟨gb115, 0, none⟩) (Kd.V_far (p := ⟨gb114, 2, none⟩) (Kd.V_mono (Kd.V_mono HO0_5.out (fun k_ hk => (⟨hk, hk.1.2.2.1⟩ : _ ∧ k_ ≠ gb114))) (fun k_ hk => (⟨hk, hk.1.1.2.2.2⟩ : _ ∧ k_ ≠ gb115))) (fun _ hk => hk.1.2) (.slice Ao31 y128.length co31)) (fun _ hk => hk.2) (.int .i64 a0_0)) (fun _ hk => hk.2) (.int .i64 a0_1)) (fun _ hk => hk.2) (.slice Ao31 y128.length co31)) (fun _ hk => hk.2) (.int .i64 a0_3)) (fun _ hk => hk.2) (.int .i64 a0_4)) (fun _ hk => hk.2) (.slice A0_5 l0_5.length c0_5)) (fun _ hk => hk.2) (.int .i64 a0_6)) (fun _ hk => hk.2) (.int .i64 a0_7)) (fun _ hk => hk.2) (.bool a0_8)) (fun _ hk => hk.2) (.bool a0_9)) (fun _ hk => hk.1.1.1.1), by repeat (first | (with_reducible first | exact HB.out | apply below_alloc | apply pw_below_drewN | apply below_drew1 | refine below_set ?_ GE114.out | refine below_set ?_ GE115.out) | exact HB.out)⟩
          · rw [if_neg c17] at H
            exact absurd H (by simp)
        · rw [if_neg c16] at H
          exact absurd H (by simp)
      · rw [if_neg c15] at H
        exact absurd H (by simp)

/-! ### baizelaw44_few: function 31 -/
def baizelaw44_few.f (a0_0 : Int) (l0_1 : List (List Int)) (a0_2 : Int) : Option (Int × (List (List Int)) × Int × Int × (List (List Int)) × Int) := if 0 ≤ (mn (l0_1.length : Int) 70) then (if (mn (l0_1.length : Int) 70) ≤ (l0_1.length : Int) then ((some (l0_1.take ((mn (l0_1.length : Int) 70) : Int).toNat : List (List Int))).bind fun y200 => (some (a0_0, y200, a0_2, a0_0, y200, a0_2))) else (none)) else (none)
def baizelaw44_few.T2 : Bool × List (List Nat × List Nat) := (true, [([], []), ([], []), ([1], [1]), ([], []), ([3], [3]), ([], []), ([5], [5]), ([2, 4, 6], [2, 4, 6]), ([0, 0], [0]), ([7, 8, 0, 1, 2, 3, 4, 5, 6, 7, 8], [7])])
def baizelaw44_few.B2 : List Nat := [0, 0, 2, 0, 8, 0, 32, 126, 1, 511]
theorem baizelaw44_few.tab2 : rtab .any (opsOf Try.f31 2) = baizelaw44_few.T2 := by kernel_rfl
theorem baizelaw44_few.bits2 : waitsOk baizelaw44_few.T2.2 baizelaw44_few.B2 = true := by kernel_rfl
set_option maxHeartbeats 8000000 in
set_option maxRecDepth 100000 in
theorem baizelaw44_few.calls (a0_0 : Int) (P0_1_ : Nat → Prop) (A0_1 : Option Addr) (c0_1 : Nat) (l0_1 : List (List Int)) (a0_2 : Int) (r1 : Int) (r2 : List (List Int)) (r3 : Int) (r4 : Int) (r5 : List (List Int)) (r6 : Int) (w : World) (hs0_1 : Kd.V (Kd.slice 5 (Kd.int .u8)) 34 w w.heap.size (fun k_ => P0_1_ k_) (.slice A0_1 l0_1.length c0_1) l0_1) (h : baizelaw44_few.f a0_0 l0_1 a0_2 = some (r1, r2, r3, r4, r5, r6)) :
    Calls Try.prog 31 #[.agg #[.int .i64 a0_0, .slice A0_1 l0_1.length c0_1, .int .i64 a0_2]] w fun e w' => ∃ v1_ v4_ : Value, e = .returned (.tuple #[.agg #[.int .i64 r1, v1_, .int .i64 r3], .agg #[.int .i64 r4, v4_, .int .i64 r6]]) ∧ Kd.V (Kd.slice 5 (Kd.int .u8)) 34 w' w.heap.size (fun k_ => (P0_1_ k_ ∨ w.heap.size ≤ k_)) v1_ r2 ∧ Kd.V (Kd.slice 5 (Kd.int .u8)) 34 w' w.heap.size (fun k_ => (P0_1_ k_ ∨ w.heap.size ≤ k_)) v4_ r5 ∧ Below w.heap.size w w' := by
  have hu36 := Try.underlying36
  have hu68 := Try.underlying68
  have HO0_1 := Aside0.mk (show Kd.V (Kd.slice 5 (Kd.int .u8)) 34 w w.heap.size (fun k_ => (P0_1_ k_ ∨ w.heap.size ≤ k_)) (.slice A0_1 l0_1.length c0_1) l0_1 from Kd.V_mono hs0_1 (fun k_ hk => .inl hk))
  have HB := Aside0.mk (Below.refl w.heap.size w)
  have H : (if 0 ≤ (mn (l0_1.length : Int) 70) then (if (mn (l0_1.length : Int) 70) ≤ (l0_1.length : Int) then ((some (l0_1.take ((mn (l0_1.length : Int) 70) : Int).toNat : List (List Int))).bind fun y200 => (some (a0_0, y200, a0_2, a0_0, y200, a0_2))) else (none)) else (none)) = some (r1, r2, r3, r4, r5, r6) := h
  clear h
  obtain ⟨ji2, hji2⟩ : ∃ j_ : Int, (mn (l0_1.length : Int) 70) = j_ := ⟨_, rfl⟩
  replace H : (if 0 ≤ (ji2) then (if (ji2) ≤ (l0_1.length : Int) then ((some (l0_1.take ((ji2) : Int).toNat : List (List Int))).bind fun y200 => (some (a0_0, y200, a0_2, a0_0, y200, a0_2))) else (none)) else (none)) = some (r1, r2, r3, r4, r5, r6) := by first | (rw [hji2] at H; exact H) | (simp only [hji2] at H ⊢; exact H)
  (try (have hji2h : ji2 ≤ 70 := by (rw [← hji2]; unfold mn; (repeat' split) <;> omega)))
  (try (have hji2g : ji2 ≤ 64 := by omega))
  (try (have hji2l : 0 ≤ ji2 := by (rw [← hji2]; unfold mn; (repeat' split) <;> omega)))
  (try (have hji2m : 0 ≤ ji2 := by omega))
  have hji2_ : (if 70 < (l0_1.length : Int) then 70 else (l0_1.length : Int)) = ji2 := hji2
  by_cases c3 : 0 ≤ (ji2)
  · rw [if_pos c3] at H
    have c3b0 := eq_true c3
    have c3b1 : decide (0 ≤ (ji2)) = true := decide_eq_true c3
    clear c3
    by_cases c4 : (ji2) ≤ (l0_1.length : Int)
    · rw [if_pos c4] at H
      have c4b0 := eq_true c4
      have c4b1 : decide ((ji2) ≤ (l0_1.length : Int)) = true := decide_eq_true c4
      clear c4
      obtain ⟨y200, hy200⟩ : ∃ y_ : List (List Int), y_ = (l0_1.take ((ji2) : Int).toNat) := ⟨_, rfl⟩
      replace H : (some (a0_0, y200, a0_2, a0_0, y200, a0_2)) = some (r1, r2, r3, r4, r5, r6) := by first | (rw [hy200]; with_reducible exact H) | (have H2_ := (Option.bind_some _ _).symm.trans H; rw [hy200]; with_reducible exact H2_) | (have H2_ := (Option.bind_some _ _).symm.trans H; with_reducible exact H2_) | with_reducible exact H | (rw [hy200]; exact H) | exact H
      have Ny200 := Aside0.mk hy200
      clear hy200
      simp only [Option.some.injEq, Prod.mk.injEq] at H
      obtain ⟨rfl, rfl, rfl, rfl, rfl, rfl⟩ := H
      go_enter Try.func31, Try.ntmps31
      try go_wp2_with (first | ((with_reducible refine gate_dst (N := 1) rfl ?_); refine box_event ?hg (N := 1) ?hd (cs := #[.int .i64 a0_0, .slice A0_1 l0_1.length c0_1, .int .i64 a0_2]) (t := 36) ?hr ?_; (case hd => rfl); (case hg => rfl); (case hr => first | (go_simp; done) | (go_simp; rfl)); intro gb197 hg w5 hbox hb; have n0_ := Aside0.mk (Kd.V_below (Kd.V_elderB (by (with_reducible repeat (first | apply Kd.V_alloc | apply Kd.V_drewN | apply Kd.V_drew)); exact HO0_1.out) gb197 (Nat.le_of_eq hg.symm)) hb); have n1_ := Aside0.mk (below_step (by repeat (first | (with_reducible first | exact HB.out | apply below_alloc | apply pw_below_drewN | apply below_drew1) | exact HB.out)) hb); have n2_ := Aside0.mk (hbox); have n3_ := Aside0.mk ((by rw [hg]; exact (below_size (by repeat (first | (with_reducible first | exact HB.out | apply below_alloc | apply pw_below_drewN | apply below_drew1) | exact HB.out))) : w.heap.size ≤ gb197)); have n4_ := Aside0.mk ((by rw [hg]; exact (below_size (by repeat (first | (with_reducible first | exact HB.out | apply below_alloc | apply pw_below_drewN | apply below_drew1) | exact HB.out))) : w.heap.size ≤ gb197)); clear HO0_1; clear HB; have HO0_1 := n0_; have HB := n1_; have BK197 := n2_; have GW197 := n3_; have GE197 := n4_; clear n0_ n1_ n2_ n3_ n4_; clear hb hbox hg) | ((with_reducible refine gate_dst (N := 2) rfl ?_); refine box_event ?hg (N := 2) ?hd (cs := #[.int .i64 0, .slice none 0 0, .int .i64 0]) (t := 36) ?hr ?_; (case hd => rfl); (case hg => rfl); (case hr => first | (go_simp; done) | (go_simp; rfl)); intro gb198 hg w6 hbox hb; have n0_ := Aside0.mk (Kd.V_below (Kd.V_elderB (by (with_reducible repeat (first | apply Kd.V_alloc | apply Kd.V_drewN | apply Kd.V_drew)); exact HO0_1.out) gb198 (Nat.le_of_eq hg.symm)) hb); have n1_ := Aside0.mk (blk_below (g := gb197) (o := .cells #[.int .i64 a0_0, .slice A0_1 l0_1.length c0_1, .int .i64 a0_2] 36 (0, 0)) (by (with_reducible repeat (first | refine blk_drewN ?_ _ | refine blk_drew ?_ | refine blk_alloc ?_ _)); exact BK197.out) hb); have n2_ := Aside0.mk (below_step (by repeat (first | (with_reducible first | exact HB.out | apply below_alloc | apply pw_below_drewN | apply below_drew1 | refine below_set ?_ GE197.out) | exact HB.out)) hb); have n3_ := Aside0.mk (hbox); have n4_ := Aside0.mk ((by rw [hg]; exact (below_size (by repeat (first | (with_reducible first | exact HB.out | apply below_alloc | apply pw_below_drewN | apply below_drew1 | refine below_set ?_ GE197.out) | exact HB.out))) : w.heap.size ≤ gb198)); have n5_ := Aside0.mk ((by rw [hg]; exact (below_size (by repeat (first | (with_reducible first | exact HB.out | apply below_alloc | apply pw_below_drewN | apply below_drew1 | refine below_set ?_ GE197.out) | exact HB.out))) : w.heap.size ≤ gb198)); have n6_ := Aside0.mk ((by rw [hg]; exact Nat.ne_of_lt (blk_lt (g := gb197) (o := .cells #[.int .i64 a0_0, .slice A0_1 l0_1.length c0_1, .int .i64 a0_2] 36 (0, 0)) (by (with_reducible repeat (first | refine blk_drewN ?_ _ | refine blk_drew ?_ | refine blk_alloc ?_ _)); exact BK197.out)) : gb197 ≠ gb198)); have n7_ := Aside0.mk ((by rw [hg]; exact Nat.ne_of_gt (blk_lt (g := gb197) (o := .cells #[.int .i64 a0_0, .slice A0_1 l0_1.length c0_1, .int .i64 a0_2] 36 (0, 0)) (by (with_reducible repeat (first | refine blk_drewN ?_ _ | refine blk_drew ?_ | refine blk_alloc ?_ _)); exact BK197.out)) : gb198 ≠ gb197)); clear HO0_1; clear BK197; clear HB; have HO0_1 := n0_; have BK197 := n1_; have HB := n2_; have BK198 := n3_; have GW198 := n4_; have GE198 := n5_; have NB197_198 := n6_; have NB198_197 := n7_; clear n0_ n1_ n2_ n3_ n4_ n5_ n6_ n7_; clear hb hbox hg) | ((with_reducible refine gate_dst (N := 3) rfl ?_); refine box_event ?hg (N := 3) ?hd (cs := #[.int .i64 0, .slice none 0 0, .int .i64 0]) (t := 68) ?hr ?_; (case hd => rfl); (case hg => rfl); (case hr => first | (go_simp; done) | (go_simp; rfl)); intro gb199 hg w7 hbox hb; have n0_ := Aside0.mk (Kd.V_below (Kd.V_elderB (by (with_reducible repeat (first | apply Kd.V_alloc | apply Kd.V_drewN | apply Kd.V_drew)); exact HO0_1.out) gb199 (Nat.le_of_eq hg.symm)) hb); have n1_ := Aside0.mk (blk_below (g := gb197) (o := .cells #[.int .i64 a0_0, .slice A0_1 l0_1.length c0_1, .int .i64 a0_2] 36 (0, 0)) (by (with_reducible repeat (first | refine blk_drewN ?_ _ | refine blk_drew ?_ | refine blk_alloc ?_ _)); exact BK197.out) hb); have n2_ := Aside0.mk (blk_below (g := gb198) (o := .cells #[.int .i64 0, .slice none 0 0, .int .i64 0] 36 (0, 0)) (by (with_reducible repeat (first | refine blk_drewN ?_ _ | refine blk_drew ?_ | refine blk_alloc ?_ _)); exact BK198.out) hb); have n3_ := Aside0.mk (below_step (by repeat (first | (with_reducible first | exact HB.out | apply below_alloc | apply pw_below_drewN | apply below_drew1 | refine below_set ?_ GE197.out | refine below_set ?_ GE198.out) | exact HB.out)) hb); have n4_ := Aside0.mk (hbox); have n5_ := Aside0.mk ((by rw [hg]; exact (below_size (by repeat (first | (with_reducible first | exact HB.out | apply below_alloc | apply pw_below_drewN | apply below_drew1 | refine below_set ?_ GE197.out | refine below_set ?_ GE198.out) | exact HB.out))) : w.heap.size ≤ gb199)); have n6_ := Aside0.mk ((by rw [hg]; exact (below_size (by repeat (first | (with_reducible first | exact HB.out | apply below_alloc | apply pw_below_drewN | apply below_drew1 | refine below_set ?_ GE197.out | refine below_set ?_ GE198.out) | exact HB.out))) : w.heap.size ≤ gb199)); have n7_ := Aside0.mk ((by rw [hg]; exact Nat.ne_of_lt (blk_lt (g := gb197) (o := .cells #[.int .i64 a0_0, .slice A0_1 l0_1.length c0_1, .int .i64 a0_2] 36 (0, 0)) (by (with_reducible repeat (first | refine blk_drewN ?_ _ | refine blk_drew ?_ | refine blk_alloc ?_ _)); exact BK197.out)) : gb197 ≠ gb199)); have n8_ := Aside0.mk ((by rw [hg]; exact Nat.ne_of_gt (blk_lt (g := gb197) (o := .cells #[.int .i64 a0_0, .slice A0_1 l0_1.length c0_1, .int .i64 a0_2] 36 (0, 0)) (by (with_reducible repeat (first | refine blk_drewN ?_ _ | refine blk_drew ?_ | refine blk_alloc ?_ _)); exact BK197.out)) : gb199 ≠ gb197)); have n9_ := Aside0.mk ((by rw [hg]; exact Nat.ne_of_lt (blk_lt (g := gb198) (o := .cells #[.int .i64 0, .slice none 0 0, .int .i64 0] 36 (0, 0)) (by (with_reducible repeat (first | refine blk_drewN ?_ _ | refine blk_drew ?_ | refine blk_alloc ?_ _)); exact BK198.out)) : gb198 ≠ gb199)); have n10_ := Aside0.mk ((by rw [hg]; exact Nat.ne_of_gt (blk_lt (g := gb198) (o := .cells #[.int .i64 0, .slice none 0 0, .int .i64 0] 36 (0, 0)) (by (with_reducible repeat (first | refine blk_drewN ?_ _ | refine blk_drew ?_ | refine blk_alloc ?_ _)); exact BK198.out)) : gb199 ≠ gb198)); clear HO0_1; clear BK197; clear BK198; clear HB; have HO0_1 := n0_; have BK197 := n1_; have BK198 := n2_; have HB := n3_; have BK199 := n4_; have GW199 := n5_; have GE199 := n6_; have NB197_199 := n7_; have NB199_197 := n8_; have NB198_199 := n9_; have NB199_198 := n10_; clear n0_ n1_ n2_ n3_ n4_ n5_ n6_ n7_ n8_ n9_ n10_; clear hb hbox hg; have hnb8 := NB197_198.out; have hnc8 := NB198_197.out; have hnb9 := NB197_199.out; have hnc9 := NB199_197.out; have hcz10_0 : w7.cell? ⟨gb197, 0, none⟩ = some (.int .i64 a0_0) := (blk_cell BK197.out 0).trans rfl; have hcz10_1 : w7.cell? ⟨gb197, 1, none⟩ = some (.slice A0_1 l0_1.length c0_1) := (blk_cell BK197.out 1).trans rfl; have hcz10_2 : w7.cell? ⟨gb197, 2, none⟩ = some (.int .i64 a0_2) := (blk_cell BK197.out 2).trans rfl; have hfz10_0 := blk_frozen BK197.out 0; have hfz10_1 := blk_frozen BK197.out 1; have hfz10_2 := blk_frozen BK197.out 2; have q11 : ((ji2) : Int) ≤ ((l0_1.length : Int) : Int) := of_decide_eq_true (by first | (with_reducible assumption) | assumption); obtain ⟨i011, hi011, _, hsz11, _⟩ := info_parts info34; have hroom11 : l0_1.length ≤ c0_1 := (Kd.V_reads' HO0_1.out).2.1; have hC11 : Kd.F (Kd.slice 5 (Kd.int .u8)) _ _ A0_1 l0_1.length l0_1 := (Kd.V_at (base := w.heap.size) HO0_1.out).2.2; have hcut11 := cut_to (P := Try.prog) 25 34 .i64 Try.underlying25 hi011 A0_1 l0_1.length c0_1 (ji2) (of_decide_eq_true (by first | (with_reducible assumption) | assumption)) q11 hroom11; have hr11 := Kd.F_take (m := ((ji2) : Int).toNat) hC11 (by omega); have hy11 : y200.length = ((ji2) : Int).toNat := (by rw [Ny200.out, List.length_take]; omega); rw [← Ny200.out] at hr11; rw [← hy11] at hcut11; have HO204 := Aside0.mk (show Kd.V (Kd.slice 5 (Kd.int .u8)) 34 _ w.heap.size _ (.slice A0_1 y200.length c0_1) y200 from Kd.V_mk (by omega) hr11); have HC204 := Aside0.mk (show y200.length ≤ c0_1 from by omega); clear hr11 hC11 hroom11 hi011 hsz11; have KY11 := Aside0.mk hy11; clear hy11; replace q11 := eq_true q11))
      have n0_ : Aside0 (Kd.V (Kd.slice 5 (Kd.int .u8)) 34 (w7.setCell ⟨gb197, 1, none⟩ (.slice A0_1 y200.length c0_1)) w.heap.size (fun k_ => (P0_1_ k_ ∨ w.heap.size ≤ k_) ∧ k_ ≠ gb197 ∧ k_ ≠ gb198 ∧ k_ ≠ gb199) (.slice A0_1 l0_1.length c0_1) l0_1) := ⟨by (with_reducible repeat (first | apply Kd.V_alloc | apply Kd.V_drewN | apply Kd.V_drew)); exact Kd.V_mono (Kd.V_far (p := ⟨gb197, 1, none⟩) (Kd.V_mono HO0_1.out (fun k_ hk => (⟨hk, hk.1.1.2⟩ : _ ∧ k_ ≠ gb197))) (fun _ hk => hk.2) (.slice A0_1 y200.length c0_1)) (fun _ hk => ⟨hk.1.1.1.1, ⟨hk.1.1.1.2, ⟨hk.1.1.2, hk.1.2⟩⟩⟩)⟩
      have n1_ : Aside0 (Kd.V (Kd.slice 5 (Kd.int .u8)) 34 (w7.setCell ⟨gb197, 1, none⟩ (.slice A0_1 y200.length c0_1)) w.heap.size (fun k_ => (P0_1_ k_ ∨ w.heap.size ≤ k_) ∧ k_ ≠ gb197 ∧ k_ ≠ gb198 ∧ k_ ≠ gb199) (.slice A0_1 y200.length c0_1) y200) := ⟨by (with_reducible repeat (first | apply Kd.V_alloc | apply Kd.V_drewN | apply Kd.V_drew)); exact Kd.V_mono (Kd.V_far (p := ⟨gb197, 1, none⟩) (Kd.V_mono HO204.out (fun k_ hk => (⟨hk, hk.1.1.2⟩ : _ ∧ k_ ≠ gb197))) (fun _ hk => hk.2) (.slice A0_1 y200.length c0_1)) (fun _ hk => ⟨hk.1.1.1.1, ⟨hk.1.1.1.2, ⟨hk.1.1.2, hk.1.2⟩⟩⟩)⟩
      have n2_ : Aside0 ((w7.setCell ⟨gb197, 1, none⟩ (.slice A0_1 y200.length c0_1)).heap[gb197]? = some (.cells #[.int .i64 a0_0, .slice A0_1 y200.length c0_1, .int .i64 a0_2] 36 (0, 0))) := ⟨by (with_reducible repeat (first | refine blk_drewN ?_ _ | refine blk_drew ?_ | refine blk_alloc ?_ _)); refine blk_put (cs := #[.int .i64 a0_0, .slice A0_1 l0_1.length c0_1, .int .i64 a0_2]) ?_ 1 _ rfl; (with_reducible repeat (first | refine blk_drewN ?_ _ | refine blk_drew ?_ | refine blk_alloc ?_ _)); exact BK197.out⟩
      have n3_ : Aside0 ((w7.setCell ⟨gb197, 1, none⟩ (.slice A0_1 y200.length c0_1)).heap[gb198]? = some (.cells #[.int .i64 0, .slice none 0 0, .int .i64 0] 36 (0, 0))) := ⟨by (with_reducible repeat (first | refine blk_drewN ?_ _ | refine blk_drew ?_ | refine blk_alloc ?_ _)); refine blk_far ?_ NB198_197.out _; (with_reducible repeat (first | refine blk_drewN ?_ _ | refine blk_drew ?_ | refine blk_alloc ?_ _)); exact BK198.out⟩
      have n4_ : Aside0 ((w7.setCell ⟨gb197, 1, none⟩ (.slice A0_1 y200.length c0_1)).heap[gb199]? = some (.cells #[.int .i64 0, .slice none 0 0, .int .i64 0] 68 (0, 0))) := ⟨by (with_reducible repeat (first | refine blk_drewN ?_ _ | refine blk_drew ?_ | refine blk_alloc ?_ _)); refine blk_far ?_ NB199_197.out _; (with_reducible repeat (first | refine blk_drewN ?_ _ | refine blk_drew ?_ | refine blk_alloc ?_ _)); exact BK199.out⟩
      have n5_ : Aside0 (Below w.heap.size w (w7.setCell ⟨gb197, 1, none⟩ (.slice A0_1 y200.length c0_1))) := ⟨by repeat (first | (with_reducible first | exact HB.out | apply below_alloc | apply pw_below_drewN | apply below_drew1 | refine below_set ?_ GE197.out | refine below_set ?_ GE198.out | refine below_set ?_ GE199.out) | exact HB.out)⟩
      (try clear HO0_1)
      (try clear HO204)
      (try clear BK197)
      (try clear BK198)
      (try clear BK199)
      (try clear HB)
      generalize (w7.setCell ⟨gb197, 1, none⟩ (.slice A0_1 y200.length c0_1)) = w12 at n0_ n1_ n2_ n3_ n4_ n5_ ⊢
      have HO0_1 := n0_
      have HO204 := n1_
      have BK197 := n2_
      have BK198 := n3_
      have BK199 := n4_
      have HB := n5_
      clear n0_ n1_ n2_ n3_ n4_ n5_
      have n0_ := Aside0.mk (Kd.V_drew HO0_1.out)
      have n1_ := Aside0.mk (Kd.V_drew HO204.out)
      have n2_ := Aside0.mk (blk_drew BK197.out)
      have n3_ := Aside0.mk (blk_drew BK198.out)
      have n4_ := Aside0.mk (blk_drew BK199.out)
      have n5_ := Aside0.mk (below_drew1 HB.out)
      clear HO0_1
      clear HO204
      clear BK197
      clear BK198
      clear BK199
      clear HB
      have HO0_1 := n0_
      have HO204 := n1_
      have BK197 := n2_
      have BK198 := n3_
      have BK199 := n4_
      have HB := n5_
      clear n0_ n1_ n2_ n3_ n4_ n5_
      refine start_ (n := 10) (S := fun w' => w'.cell? ⟨gb197, 0, none⟩ = some (.int .i64 a0_0) ∧ w'.cell? ⟨gb197, 1, none⟩ = some (.slice A0_1 y200.length c0_1) ∧ w'.cell? ⟨gb197, 2, none⟩ = some (.int .i64 a0_2)) (ds := []) #[false, false, false, false, false, false, false, false, false, false] (by kernel_rfl) rfl rfl ⟨(blk_cell BK197.out 0).trans rfl, (blk_cell BK197.out 1).trans rfl, (blk_cell BK197.out 2).trans rfl⟩ (fun hHeld => ?_); refine with_tabW baizelaw44_few.tab2 baizelaw44_few.bits2 (fun HT_ HW_ => ?_)
      generalize w12.drew = w13 at HO0_1 HO204 BK197 BK198 BK199 HB hHeld ⊢
      refine pure_ (i := 1) (N := some 13) (v := ?_) (a' := ?_) #[false, true, false, false, false, false, false, false, false, false] rfl rfl (any_of HT_.out (by kernel_rfl)) (fun _ _ _ h => h) (Or.inl ⟨by rfl, ?_⟩) ?_ ?_
      rotate_left
      · intro w'
        go_simp
        with_reducible rfl
      rotate_left
      · simp only [Act.put, List.setIfInBounds_toArray, List.set_cons_zero, List.set_cons_succ, i64_w, i32_w]
        rfl
      refine pure_ (i := 3) (N := some 15) (v := ?_) (a' := ?_) #[false, true, false, true, false, false, false, false, false, false] rfl rfl (any_of HT_.out (by kernel_rfl)) (fun _ _ _ h => h) (Or.inl ⟨by rfl, ?_⟩) ?_ ?_
      rotate_left
      · intro w'
        go_simp
        with_reducible rfl
      rotate_left
      · simp only [Act.put, List.setIfInBounds_toArray, List.set_cons_zero, List.set_cons_succ, i64_w, i32_w]
        rfl
      refine pure_ (i := 5) (N := some 17) (v := ?_) (a' := ?_) #[false, true, false, true, false, true, false, false, false, false] rfl rfl (any_of HT_.out (by kernel_rfl)) (fun _ _ _ h => h) (Or.inl ⟨by rfl, ?_⟩) ?_ ?_
      rotate_left
      · intro w'
        go_simp
        with_reducible rfl
      rotate_left
      · simp only [Act.put, List.setIfInBounds_toArray, List.set_cons_zero, List.set_cons_succ, i64_w, i32_w]
        rfl
      refine take_ (i := 0) (N := some 12) (v := ?_) (a' := ?_) #[true, true, false, true, false, true, false, false, false, false] rfl rfl (take_ofW HT_.out HW_.out (by kernel_rfl)) (fun _ _ _ h => h) (Or.inl ⟨by rfl, ?_⟩) hHeld ?_ ?_
      rotate_left
      · rintro w' ⟨s0, s1, s2⟩
        go_simp
        with_reducible rfl
      rotate_left
      · simp only [Act.put, List.setIfInBounds_toArray, List.set_cons_zero, List.set_cons_succ, i64_w, i32_w]
        rfl
      refine take_ (i := 2) (N := some 14) (v := ?_) (a' := ?_) #[true, true, true, true, false, true, false, false, false, false] rfl rfl (take_ofW HT_.out HW_.out (by kernel_rfl)) (fun _ _ _ h => h) (Or.inl ⟨by rfl, ?_⟩) hHeld ?_ ?_
      rotate_left
      · rintro w' ⟨s0, s1, s2⟩
        go_simp
        with_reducible rfl
      rotate_left
      · simp only [Act.put, List.setIfInBounds_toArray, List.set_cons_zero, List.set_cons_succ, i64_w, i32_w]
        rfl
      refine take_ (i := 4) (N := some 16) (v := ?_) (a' := ?_) #[true, true, true, true, true, true, false, false, false, false] rfl rfl (take_ofW HT_.out HW_.out (by kernel_rfl)) (fun _ _ _ h => h) (Or.inl ⟨by rfl, ?_⟩) hHeld ?_ ?_
      rotate_left
      · rintro w' ⟨s0, s1, s2⟩
        go_simp
        with_reducible rfl
      rotate_left
      · simp only [Act.put, List.setIfInBounds_toArray, List.set_cons_zero, List.set_cons_succ, i64_w, i32_w]
        rfl
      refine take_ (i := 6) (N := some 18) (v := ?_) (a' := ?_) #[true, true, true, true, true, true, true, false, false, false] rfl rfl (take_ofW HT_.out HW_.out (by kernel_rfl)) (fun _ _ _ h => h) (Or.inl ⟨by rfl, ?_⟩) hHeld ?_ ?_
      rotate_left
      · rintro w' ⟨s0, s1, s2⟩
        go_simp
        with_reducible rfl
      rotate_left
      · simp only [Act.put, List.setIfInBounds_toArray, List.set_cons_zero, List.set_cons_succ, i64_w, i32_w]
        rfl
      refine pure_ (i := 7) (N := some 19) (v := ?_) (a' := ?_) #[true, true, true, true, true, true, true, true, false, false] rfl rfl (any_of HT_.out (by kernel_rfl)) (fun _ _ _ h => h) (Or.inl ⟨by rfl, ?_⟩) ?_ ?_
      rotate_left
      · intro w'
        go_simp
        with_reducible rfl
      rotate_left
      · simp only [Act.put, List.setIfInBounds_toArray, List.set_cons_zero, List.set_cons_succ, i64_w, i32_w]
        rfl
      refine one_ (i := 8) (N := none) #[true, true, true, true, true, true, true, true, true, false] rfl rfl (one_of HT_.out (by kernel_rfl)) (by decide) (fun K hK => ?_)
      have hs14 : w13.cell? ⟨gb198, 0, none⟩ = some (.int .i64 0) := (blk_cell BK198.out 0).trans rfl
      have hfs14 := blk_frozen BK198.out 0
      have hns14_0 := NB197_198.out
      have hns14_2 := NB199_198.out
      have hms14_0 := NB198_197.out
      have hms14_2 := NB198_199.out
      have hs15 : w13.cell? ⟨gb198, 1, none⟩ = some (.slice none 0 0) := (blk_cell BK198.out 1).trans rfl
      have hfs15 := blk_frozen BK198.out 1
      have hns15_0 := NB197_198.out
      have hns15_2 := NB199_198.out
      have hms15_0 := NB198_197.out
      have hms15_2 := NB198_199.out
      have hs16 : w13.cell? ⟨gb198, 2, none⟩ = some (.int .i64 0) := (blk_cell BK198.out 2).trans rfl
      have hfs16 := blk_frozen BK198.out 2
      have hns16_0 := NB197_198.out
      have hns16_2 := NB199_198.out
      have hms16_0 := NB198_197.out
      have hms16_2 := NB198_199.out
      refine skip_ (w1 := ?_) (by rfl) rfl ?_ ?_
      rotate_left
      · go_simp
        rfl
      refine hK.out _ _ ⟨((cell_far (p := ⟨gb198, _, none⟩) NB197_198.out _).trans (((cell_far (p := ⟨gb198, _, none⟩) NB197_198.out _).trans (((cell_far (p := ⟨gb198, _, none⟩) NB197_198.out _).trans (hHeld.1)))))), ((cell_far (p := ⟨gb198, _, none⟩) NB197_198.out _).trans (((cell_far (p := ⟨gb198, _, none⟩) NB197_198.out _).trans (((cell_far (p := ⟨gb198, _, none⟩) NB197_198.out _).trans (hHeld.2.1)))))), ((cell_far (p := ⟨gb198, _, none⟩) NB197_198.out _).trans (((cell_far (p := ⟨gb198, _, none⟩) NB197_198.out _).trans (((cell_far (p := ⟨gb198, _, none⟩) NB197_198.out _).trans (hHeld.2.2))))))⟩ (fun hHeld => ?_)
      clear hK K
      refine one_ (i := 9) (N := none) #[true, true, true, true, true, true, true, true, true, true] rfl rfl (one_of HT_.out (by kernel_rfl)) (by decide) (fun K hK => ?_)
      have hs17 : w13.cell? ⟨gb199, 0, none⟩ = some (.int .i64 0) := (blk_cell BK199.out 0).trans rfl
      have hfs17 := blk_frozen BK199.out 0
      have hns17_0 := NB197_199.out
      have hns17_1 := NB198_199.out
      have hms17_0 := NB199_197.out
      have hms17_1 := NB199_198.out
      have hs18 : w13.cell? ⟨gb199, 1, none⟩ = some (.slice none 0 0) := (blk_cell BK199.out 1).trans rfl
      have hfs18 := blk_frozen BK199.out 1
      have hns18_0 := NB197_199.out
      have hns18_1 := NB198_199.out
      have hms18_0 := NB199_197.out
      have hms18_1 := NB199_198.out
      have hs19 : w13.cell? ⟨gb199, 2, none⟩ = some (.int .i64 0) := (blk_cell BK199.out 2).trans rfl
      have hfs19 := blk_frozen BK199.out 2
      have hns19_0 := NB197_199.out
      have hns19_1 := NB198_199.out
      have hms19_0 := NB199_197.out
      have hms19_1 := NB199_198.out
      refine skip_ (w1 := ?_) (by rfl) rfl ?_ ?_
      rotate_left
      · go_simp
        rfl
      refine hK.out _ _ ⟨((cell_far (p := ⟨gb199, _, none⟩) NB197_199.out _).trans (((cell_far (p := ⟨gb199, _, none⟩) NB197_199.out _).trans (((cell_far (p := ⟨gb199, _, none⟩) NB197_199.out _).trans (hHeld.1)))))), ((cell_far (p := ⟨gb199, _, none⟩) NB197_199.out _).trans (((cell_far (p := ⟨gb199, _, none⟩) NB197_199.out _).trans (((cell_far (p := ⟨gb199, _, none⟩) NB197_199.out _).trans (hHeld.2.1)))))), ((cell_far (p := ⟨gb199, _, none⟩) NB197_199.out _).trans (((cell_far (p := ⟨gb199, _, none⟩) NB197_199.out _).trans (((cell_far (p := ⟨gb199, _, none⟩) NB197_199.out _).trans (hHeld.2.2))))))⟩ (fun hHeld => ?_)
      clear hK K
      refine done_ (done_of HT_.out (by kernel_rfl)) ?_
      try go_wp2
      refine bodyPost_ret (results_cc rfl _ _ gb198 gb199 36 68 #[.int .i64 a0_0, .slice A0_1 y200.length c0_1, .int .i64 a0_2] #[.int .i64 a0_0, .slice A0_1 y200.length c0_1, .int .i64 a0_2] (0, 0) (0, 0) _ _ rfl (by (with_reducible repeat (first | refine blk_drewN ?_ _ | refine blk_drew ?_ | refine blk_alloc ?_ _)); refine blk_far ?_ NB198_199.out _; (with_reducible repeat (first | refine blk_drewN ?_ _ | refine blk_drew ?_ | refine blk_alloc ?_ _)); refine blk_far ?_ NB198_199.out _; (with_reducible repeat (first | refine blk_drewN ?_ _ | refine blk_drew ?_ | refine blk_alloc ?_ _)); refine blk_far ?_ NB198_199.out _; (with_reducible repeat (first | refine blk_drewN ?_ _ | refine blk_drew ?_ | refine blk_alloc ?_ _)); refine blk_put (cs := #[.int .i64 a0_0, .slice A0_1 y200.length c0_1, .int .i64 0]) ?_ 2 _ rfl; (with_reducible repeat (first | refine blk_drewN ?_ _ | refine blk_drew ?_ | refine blk_alloc ?_ _)); refine blk_put (cs := #[.int .i64 a0_0, .slice none 0 0, .int .i64 0]) ?_ 1 _ rfl; (with_reducible repeat (first | refine blk_drewN ?_ _ | refine blk_drew ?_ | refine blk_alloc ?_ _)); refine blk_put (cs := #[.int .i64 0, .slice none 0 0, .int .i64 0]) ?_ 0 _ rfl; (with_reducible repeat (first | refine blk_drewN ?_ _ | refine blk_drew ?_ | refine blk_alloc ?_ _)); exact BK198.out) Try.underlying36 rfl (by kernel_rfl) rfl (by (with_reducible repeat (first | refine blk_drewN ?_ _ | refine blk_drew ?_ | refine blk_alloc ?_ _)); refine blk_put (cs := #[.int .i64 a0_0, .slice A0_1 y200.length c0_1, .int .i64 0]) ?_ 2 _ rfl; (with_reducible repeat (first | refine blk_drewN ?_ _ | refine blk_drew ?_ | refine blk_alloc ?_ _)); refine blk_put (cs := #[.int .i64 a0_0, .slice none 0 0, .int .i64 0]) ?_ 1 _ rfl; (with_reducible repeat (first | refine blk_drewN ?_ _ | refine blk_drew ?_ | refine blk_alloc ?_ _)); refine blk_put (cs := #[.int .i64 0, .slice none 0 0, .int .i64 0]) ?_ 0 _ rfl; (with_reducible repeat (first | refine blk_drewN ?_ _ | refine blk_drew ?_ | refine blk_alloc ?_ _)); refine blk_far ?_ NB199_198.out _; (with_reducible repeat (first | refine blk_drewN ?_ _ | refine blk_drew ?_ | refine blk_alloc ?_ _)); refine blk_far ?_ NB199_198.out _; (with_reducible repeat (first | refine blk_drewN ?_ _ | refine blk_drew ?_ | refine blk_alloc ?_ _)); refine blk_far ?_ NB199_198.out _; (with_reducible repeat (first | refine blk_drewN ?_ _ | refine blk_drew ?_ | refine blk_alloc ?_ _)); exact BK199.out) Try.underlying68 rfl (by kernel_rfl)) rfl ?_
      exact ⟨_, _, by first | rfl | (simp [errW_none, errW_some] <;> rfl) | (simp only [← hji2]; first | rfl | (simp [errW_none, errW_some] <;> rfl)) | (simp [*, errW_none, errW_some] <;> rfl), by (with_reducible repeat (first | apply Kd.V_alloc | apply Kd.V_drewN | apply Kd.V_drew)); exact Kd.V_mono (Kd.V_far (p := ⟨gb199, 2, none⟩) (Kd.V_far (p := ⟨gb199, 1, none⟩) (Kd.V_far (p := ⟨gb199, 0, none⟩) (Kd.V_far (p := ⟨gb198, 2, none⟩) (Kd.V_far (p := ⟨gb198, 1, none⟩) (Kd.V_far (p := ⟨gb198, 0, none⟩) (Kd.V_mono (Kd.V_mono HO204.out (fun k_ hk => (⟨hk, hk.2.2.1⟩ : _ ∧ k_ ≠ gb198))) (fun k_ hk => (⟨hk, hk.1.2.2.2⟩ : _ ∧ k_ ≠ gb199))) (fun _ hk => hk.1.2) (.int .i64 a0_0)) (fun _ hk => hk.1.2) (.slice A0_1 y200.length c0_1)) (fun _ hk => hk.1.2) (.int .i64 a0_2)) (fun _ hk => hk.2) (.int .i64 a0_0)) (fun _ hk => hk.2) (.slice A0_1 y200.length c0_1)) (fun _ hk => hk.2) (.int .i64 a0_2)) (fun _ hk => hk.1.1.1), by (with_reducible repeat (first | apply Kd.V_alloc | apply Kd.V_drewN | apply Kd.V_drew)); exact Kd.V_mono (Kd.V_far (p := ⟨gb199, 2, none⟩) (Kd.V_far (p := ⟨gb199, 1, none⟩) (Kd.V_far (p := ⟨gb199, 0, none⟩) (Kd.V_far (p := ⟨gb198, 2, none⟩) (Kd.V_far (p := ⟨gb198, 1, none⟩) (Kd.V_far (p := ⟨gb198, 0, none⟩) (Kd.V_mono (Kd.V_mono HO204.out (fun k_ hk => (⟨hk, hk.2.2.1⟩ : _ ∧ k_ ≠ gb198))) (fun k_ hk => (⟨hk, hk.1.2.2.2⟩ : _ ∧ k_ ≠ gb199))) (fun _ hk => hk.1.2) (.int .i64 a0_0)) (fun _ hk => hk.1.2) (.slice A0_1 y200.length c0_1)) (fun _ hk => hk.1.2) (.int .i64 a0_2)) (fun _ hk => hk.2) (.int .i64 a0_0)) (fun _ hk => hk.2) (.slice A0_1 y200.length c0_1)) (fun _ hk => hk.2) (.int .i64 a0_2)) (fun _ hk => hk.1.1.1), by repeat (first | (with_reducible first | exact HB.out | apply below_alloc | apply pw_below_drewN | apply below_drew1 | refine below_set ?_ GE197.out | refine below_set ?_ GE198.out | refine below_set ?_ GE199.out) | exact HB.out)⟩
    · rw [if_neg c4] at H
      exact absurd H (by simp)
  · rw [if_neg c3] at H
    exact absurd H (by simp)

end Go.Proofs.Yteeljnlhgaljaaa.P
