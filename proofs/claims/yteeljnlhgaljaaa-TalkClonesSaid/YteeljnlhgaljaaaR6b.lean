/- By hand: small ends; an end and the document's value at the start. (The drawing regions' rows are printed by rwt.py.) -/
import Derived.Test.YteeljnlhgaljaaaR5
namespace Go.Proofs.Yteeljnlhgaljaaa
set_option linter.unusedVariables false
set_option linter.unusedSimpArgs false
open Go.RowKit Go.Proofs.YteeljnlhgaljaaaW.PrintWords Go.Proofs.YteeljnlhgaljaaaW.PrintLast Go.Proofs.YteeljnlhgaljaaaW.PrintMore Go.Proofs.Yteeljnlhgaljaaa.P
attribute [local go_sem] min2_int min_two   -- for this text's walks alone

theorem Fr.none {w w' : World} (h : Fr (fun _ => False) w w') : Below w.heap.size w w' := Fr.below (Below.refl _ _) (Nat.le_refl _) h (fun k h => h.elim)
section
variable {ws w w' : World} {S0 Ps0 S Ps S' Ps' : Nat → Prop} {g : Nat} {r r1 r' : Rf} {vs vt vs' vt' : Value}
theorem Mv.start (h : Mv ws S0 Ps0 w g S Ps r r1 vs vt) : Mv w S Ps w g S Ps r r1 vs vt := ⟨h.tk, h.rv, h.dis, h.ltS, h.ltP, fun k h => .inl h, fun k h => .inl h, Fr.refl _ _⟩
theorem Mv.trans (h : Mv ws S0 Ps0 w g S Ps r r1 vs vt) (h' : Mv w S Ps w' g S' Ps' r' r' vs' vt') : Mv ws S0 Ps0 w' g S' Ps' r' r' vs' vt' :=
  ⟨h'.tk, h'.rv, h'.dis, h'.ltS, h'.ltP, fun k hk => (h'.nS k hk).elim (h.nS k) (fun e => .inr (Nat.le_trans h.fr.size e)), fun k hk => (h'.nP k hk).elim (h.nP k) (fun e => .inr (Nat.le_trans h.fr.size e)), h.fr.trans h'.fr h.nS⟩
end
/-- The document's end at the start. -/
abbrev rf0 (most again : Int) : Rf := ⟨most, again, [], 0, 0, [], 0, 0, false, false⟩
theorem ok0 (most again : Int) (h : 1 ≤ most ∧ most ≤ 64) (h' : 1 ≤ again ∧ again ≤ 1000) : OkR 0 (rf0 most again) := ⟨h, h', ⟨Int.le_refl _, Int.le_refl _⟩, by simp, by simp, by simp, by simp, by simp, by simp⟩
theorem info38' : (Try.prog.info? 38).map (fun i => (i.zero, i.size, i.bytes)) = some (some (.agg #[.int .i64 0, .slice none 0 0, .int .i64 0, .int .i64 0, .slice none 0 0, .int .i64 0]), 6, 80) := by kernel_rfl
theorem run_take23 (A : Option Addr) (c n k : Nat) (hk : k ≤ n) (hn : k ≤ c) (W : World) : (Instr.slice 23 (.slice A n c) none (some (.int .i64 (k : Int))) none).run Try.prog W = .ok (.slice A k c) W := by
  have ha : (A.map fun x => x.add 0) = A := by cases A <;> simp [Addr.add]
  have hel : Try.prog.elem 23 = 38 := by simp [Program.elem, Try.underlying23]
  have hu : Try.prog.underlying 23 = some (.slice (Try.prog.elem 23)) := by rw [hel]; exact Try.underlying23
  obtain ⟨i0, hi, hz⟩ := Option.map_eq_some_iff.1 info38'
  simp only [Prod.mk.injEq] at hz
  rw [run_slice_h W 23 A n c hu .i64 (k : Int) (by omega) (by omega), hel]
  simp [sizeOf, typeInfo, hi, hz.2.1, sliced, Result.andThen, ha]
theorem idle_b (n : Nat) (r : Rf) (ok : OkR n r) : (tkOf r).wait.isEmpty = decide (r.heard = (r.said.length : Int)) := by
  have h1 := tkOf_wait n r ok
  by_cases c : r.heard = (r.said.length : Int)
  · rw [decide_eq_true c]
    have : (tkOf r).wait = [] := List.length_eq_zero_iff.1 (by omega)
    rw [this]; rfl
  · rw [decide_eq_false c]
    cases hw : (tkOf r).wait with
    | nil => rw [hw] at h1; simp at h1; omega
    | cons x y => rfl
/-! ### small: it ends, whatever it answers -/
theorem small_in (l : List S38) (i : Nat) (hi : i < l.length) (hb : (rd_T38 l (i : Int)).f3.f1.length ≤ 9223372036854775807) : ∀ d j x3, j + d = (rd_T38 l (i : Int)).f3.f1.length → ∃ x3', ∀ K, baizelaw44_small.l1 (d + 1 + K) l x3 (i : Int) (j : Int) = baizelaw44_small.l0 K l x3' (wrap64 ((i : Int) + 1))
  | 0, j, x3, e => ⟨x3, fun K => by rw [show 0 + 1 + K = K + 1 by omega, baizelaw44_small.l1, if_pos (by omega), if_pos (by omega), if_neg (by omega)]⟩
  | d + 1, j, x3, e => by
    obtain ⟨x3', h⟩ := small_in l i hi hb d (j + 1) (wrap64 (x3 + ((rd_L1 ((rd_T38 l (i : Int)).f3.f1) (j : Int)).length : Int))) (by omega)
    refine ⟨x3', fun K => ?_⟩
    have hw : wrap64 ((j : Int) + 1) = ((j + 1 : Nat) : Int) := by unfold wrap64; omega
    rw [show d + 1 + 1 + K = (d + 1 + K) + 1 by omega, baizelaw44_small.l1, if_pos (by omega), if_pos (by omega), if_pos (by omega), if_pos (by omega), hw]
    exact h K
theorem small_out (l : List S38) (hn : l.length ≤ 80) (hb : ∀ i : Nat, i < l.length → (rd_T38 l (i : Int)).f3.f1.length ≤ 9223372036854775807) : ∀ d i x3, i + d = l.length → ∃ k r, baizelaw44_small.l0 k l x3 (i : Int) = some r
  | 0, i, x3, e => ⟨1, _, by rw [baizelaw44_small.l0, if_neg (by omega)]⟩
  | d + 1, i, x3, e => by
    obtain ⟨x3', h⟩ := small_in l i (by omega) (hb i (by omega)) _ 0 (wrap64 (x3 + (((rd_T38 l (i : Int)).f1).length : Int))) (Nat.zero_add _)
    obtain ⟨k, r, hk⟩ := small_out l hn hb d (i + 1) x3' (by omega)
    refine ⟨((rd_T38 l (i : Int)).f3.f1.length + 1 + k) + 1, r, ?_⟩
    have hw : wrap64 ((i : Int) + 1) = ((i + 1 : Nat) : Int) := by unfold wrap64; omega
    rw [baizelaw44_small.l0, if_pos (by omega), if_pos (by omega)]
    have := h k
    rw [hw, hk] at this
    exact this
theorem small_l (A : Option Addr) (c n : Nat) (l : List S38) (hl : l.length = n) (w : World) (hC : Kd.C k38 w A l.length l) (hc : n ≤ c) (hn : n ≤ 80) : Calls Try.prog 13 #[.slice A n c] w fun e w' => ∃ r, e = .returned (.bool r) ∧ Drawn0 w w' := by
  subst hl
  obtain ⟨k, r, hk⟩ := small_out l hn (fun i hi => by
    obtain ⟨_, _, _, _, _, _, _, _, _, _, _, _, _, _, _, hC4⟩ := at_T38 hC (i : Int) (by omega) (by omega)
    exact hC4.2.1) l.length 0 0 (Nat.zero_add _)
  exact (baizelaw44_small.calls k A c l r w hC hc hk).mono (fun e w' h => ⟨r, h⟩)
end Go.Proofs.Yteeljnlhgaljaaa
