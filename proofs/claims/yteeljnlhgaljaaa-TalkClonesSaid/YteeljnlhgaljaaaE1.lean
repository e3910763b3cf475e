/- By hand: a copy of bytes. -/
import Derived.Test.YteeljnlhgaljaaaPx0
import Derived.Lib.SliceRun
namespace Go.Proofs.Yteeljnlhgaljaaa
set_option linter.unusedVariables false
set_option linter.unusedSimpArgs false
open Go.RowKit Go.Proofs.YteeljnlhgaljaaaW.PrintWords Go.Proofs.Yteeljnlhgaljaaa.P

theorem info5' : (Try.prog.info? 5).map (fun i => (i.zero, i.size, i.bytes)) = some (some (.int .u8 0), 1, 1) := by kernel_rfl
def slices_Clone_byte_byte.f (l0 : List Int) : Option (List Int) := if l0.length < 140737488355328 then some l0 else none
set_option maxRecDepth 100000 in
theorem slices_Clone_byte_byte.calls (A0 : Option Addr) (c0 : Nat) (l0 : List Int) (r : List Int) (w : World) (hr0 : Kd.C (Kd.int .u8) w A0 l0.length l0) (hc0 : l0.length ≤ c0) (h : slices_Clone_byte_byte.f l0 = some r) :
    Calls Try.prog 39 #[.slice A0 l0.length c0] w fun e w' => ∃ v0_ : Value, e = .returned (v0_) ∧ Kd.R (Kd.int .u8) 5 w' w.heap.size (fun _ => True) v0_ r ∧ Below w.heap.size w w' := by
  have hlim : l0.length < 140737488355328 := by
    unfold slices_Clone_byte_byte.f at h
    split at h
    · assumption
    · cases h
  rw [show slices_Clone_byte_byte.f l0 = some l0 from if_pos hlim] at h
  obtain rfl := Option.some.inj h
  have hL := Aside0.mk hr0
  have HLim := Aside0.mk hlim
  clear h hr0 hc0 hlim
  cases A0 with
  | none =>
    have h0 : l0 = [] := by
      rcases Nat.eq_zero_or_pos l0.length with h | h
      · exact List.length_eq_zero_iff.1 h
      · obtain ⟨ad, e, _⟩ := hL.out.2.2 h
        cases e
    subst h0
    have he := fun (w : World) => Lib.run_eql_slice_nil (P := Try.prog) w 34 5 none 0 c0 0 0 Try.underlying34
    go_enter Try.func39, Try.ntmps39
    go_wp2
    go_ret
    exact ⟨_, rfl, Kd.R_nil _ _ _ _ _, Below.refl _ _⟩
  | some ad =>
    have he := fun (w : World) => Lib.run_eql_slice_nil (P := Try.prog) w 34 5 (some ad) l0.length c0 0 0 Try.underlying34
    go_enter Try.func39, Try.ntmps39
    go_wp2_with (at_builtin; refine Kd.R_append_row (Value.int .u8) (0 : Int) (h1 := fun _ => rfl) (w0 := w) w.heap.size rfl (.tmp 5) (.tmp 6) 34 5 (.int .u8 0) 1 rfl Try.underlying34 info5' rfl (by decide) (.slice (some ⟨w.heap.size, 0, none⟩) 0 0) [] l0 (some ad) l0.length c0 (fun _ => True) rfl rfl (fun _ _ => trivial) ?aO ?aR ?aB ?aS ?aL ?_; (case aO => exact ⟨fun _ _ => trivial, [], ⟨rfl, .inr ⟨w.heap.size, 0, #[], rfl, Nat.le_refl _, blk_new _ _, Nat.le_refl _, by decide, rfl, rfl⟩⟩, Reps.none _ _⟩); (case aR => exact Kd.C_below hL.out (below_alloc (Below.refl _ _) _)); (case aB => exact below_alloc (Below.refl _ _) _); (case aS => simp); (case aL => have := HLim.out; simp; omega); intro v1 w3 ho hb hg hat)
    go_ret
    exact ⟨_, rfl, ho, hb⟩
end Go.Proofs.Yteeljnlhgaljaaa
