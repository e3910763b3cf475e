/- The row of the law CodeWithin, and its card. By a program of this claim's author, out of the law's walk. -/
import Derived.Test.YtgnplpmmadbbdaaDoorRows
import Derived.Test.YtgnplpmmadbbdaaDoorLWithin
import Derived.Test.YtgnplpmmadbbdaaDoorCards
import Derived.Test.YtgnplpmmadbbdaaDoorTie
import Derived.SevenTiedAt
import Derived.WalkKit
import Derived.ProofKit
import Derived.OpenShut
import Derived.ShutString
import Derived.ChangeOld
import Derived.Below
import Derived.SizedLaws
import Derived.Lib.SmallJoins
import Derived.LaidMore
import Derived.Stop.Joined
import Derived.MakeChecks
namespace Go.Proofs.YtgnplpmmadbbdaaDoor.codeWithin
open Go.ChangeShapes Go.WideShapes Go.ChangeAt Go.RowKit Go.Joins
open Go.ChangeMaps (open_string shut_string)
set_option linter.unusedVariables false
theorem own : ownKnob Tryd.prog.godebug = none := by kernel_rfl
theorem laidOut : laidOutB Tryd.prog = true := by kernel_rfl
theorem door_met (os : Os) (args : Array Value) : laidMetH Tryd.prog Rows.codeWithinRow.laid ((World.doorLaid Tryd.prog 99 os).forCall (fun _ _ => 0) ⟨#[], args, []⟩).memory :=
  laidMetH_of_parts3 (fuel := 8) (laidMet_of_run' 8 (by kernel_rfl) (by kernel_rfl)) (by kernel_rfl) (by kernel_rfl)
set_option maxHeartbeats 1000000 in
set_option maxRecDepth 100000 in
theorem lifted (os : Os) (started : os.Started) (H : Type) (enc : TypeId × Value → H) :
    ReturnsInHanded {} Tryd.checked os 4 .any (fun w args => (Rows.codeWithinSpec.pre enc Tryd.prog Tryd.f4 [] false w args ∧ laidMetH Tryd.prog Rows.codeWithinRow.laid w) ∧ sizedMet enc Tryd.prog Tryd.f4 (OpenSpec.ofChange Rows.codeWithinSpec) false w args)
      (Rows.codeWithinSpec.post enc Tryd.prog Tryd.f4 false true false false) := by
  refine returnsInHanded_of_change_and (C := Tryd.checked) (X := fun w _ => laidMetH Tryd.prog Rows.codeWithinRow.laid w) (fun _ _ _ hh h => h.of_heap hh) own started (by kernel_rfl) Tryd.func4
    (ChangeSpec.witness_shaped (enc := enc) (C := Tryd.checked) (os := os) (X := fun w _ => laidMetH Tryd.prog Rows.codeWithinRow.laid w) false (World.doorLaid Tryd.prog 99 os) #[.agg #[.int .i64 0, .int .i64 0, .int .i64 0, .int .i64 0], .int .u16 0, .int .u16 0, .int .u16 0, .int .u16 0] 8 rfl (World.shaped_of_RefB (by kernel_rfl) (by kernel_rfl)) (by kernel_rfl) (by kernel_rfl) (by kernel_rfl) (door_met os _)) ?_
  intro W base args ds gs before hval0 hW _ hsz0 hL _
  have hsz : (DataW.weightsEach Tryd.prog (Tryd.f4.params.toList ++ Rows.codeWithinSpec.plain.varTypes Tryd.prog) (ds ++ gs)).all (· ≤ reachBytes) = true := hsz0
  have hval : ∀ (j : Nat) t v, Tryd.f4.params[j]? = some t → args[j]? = some v → Value.okWide Tryd.prog W .any base t v := hval0
  have hW' := hW
  obtain ⟨p, q, hA0, hV, rfl, hfz, hnd⟩ := hW
  have hA : DataW.TrodAll enc Tryd.prog W 0 (fun _ => true) true Tryd.f4.params.toList args.toList ds p := hA0
  rw [Tryd.params4] at hA hval hsz
  obtain ⟨v0, vs0, d0, ds0, p0, q0, hargs, rfl, rfl, h0, r0⟩ := trodAll_cons hA
  obtain ⟨v1, vs1, d1, ds1, p1, q1, rfl, rfl, rfl, h1, r1⟩ := trodAll_cons r0
  obtain ⟨v2, vs2, d2, ds2, p2, q2, rfl, rfl, rfl, h2, r2⟩ := trodAll_cons r1
  obtain ⟨v3, vs3, d3, ds3, p3, q3, rfl, rfl, rfl, h3, r3⟩ := trodAll_cons r2
  obtain ⟨v4, vs4, d4, ds4, p4, q4, rfl, rfl, rfl, h4, r4⟩ := trodAll_cons r3
  obtain ⟨rfl, rfl, rfl⟩ := trodAll_nil r4
  obtain rfl : args = #[v0, v1, v2, v3, v4] := by cases args; simp_all
  obtain ⟨rfl, rfl⟩ := trodVars_none hV
  have hv0 := hval 0 _ v0 rfl rfl
  have lt0 : ∀ x ∈ p0, x.block < W.heap.size := by obtain ⟨m, hm⟩ := h0; exact DataW.trod_lt m _ _ _ hm
  have hv1 := hval 1 _ v1 rfl rfl
  have lt1 : ∀ x ∈ p1, x.block < W.heap.size := by obtain ⟨m, hm⟩ := h1; exact DataW.trod_lt m _ _ _ hm
  have hv2 := hval 2 _ v2 rfl rfl
  have lt2 : ∀ x ∈ p2, x.block < W.heap.size := by obtain ⟨m, hm⟩ := h2; exact DataW.trod_lt m _ _ _ hm
  have hv3 := hval 3 _ v3 rfl rfl
  have lt3 : ∀ x ∈ p3, x.block < W.heap.size := by obtain ⟨m, hm⟩ := h3; exact DataW.trod_lt m _ _ _ hm
  have hv4 := hval 4 _ v4 rfl rfl
  have lt4 : ∀ x ∈ p4, x.block < W.heap.size := by obtain ⟨m, hm⟩ := h4; exact DataW.trod_lt m _ _ _ hm
  have fin : Calls Tryd.prog 4 #[v0, v1, v2, v3, v4] W (fun e W' => e = .returned (.bool true) ∧ Below W.heap.size W W') → Calls Tryd.prog 4 #[v0, v1, v2, v3, v4] W (fun e W' => ∃ v, e = .returned v ∧ Rows.codeWithinSpec.post enc Tryd.prog Tryd.f4 false true false false W #[v0, v1, v2, v3, v4] v W') := fun h => h.mono fun e W' ⟨he, bel⟩ =>
    ⟨_, he, _, _, _, [], _, [], hW', trodAll_mk1 (shut_bool Tryd.underlying4 _), (trodAll_cons_mk (Below.trod laidOut (by kernel_rfl) (of_decide_eq_true (by kernel_rfl)) h0 bel lt0) (trodAll_cons_mk (Below.trod laidOut (by kernel_rfl) (of_decide_eq_true (by kernel_rfl)) h1 bel lt1) (trodAll_cons_mk (Below.trod laidOut (by kernel_rfl) (of_decide_eq_true (by kernel_rfl)) h2 bel lt2) (trodAll_cons_mk (Below.trod laidOut (by kernel_rfl) (of_decide_eq_true (by kernel_rfl)) h3 bel lt3) (trodAll_cons_mk (Below.trod laidOut (by kernel_rfl) (of_decide_eq_true (by kernel_rfl)) h4 bel lt4) trodAll_mk0))))), rfl, bel.frame _, fun h => by cases h⟩
  clear hA0 hval0 hsz0
  obtain ⟨c0, c1, c2, c3, y0, y1, y2, y3, m, rfl, _, _, e0, e1, e2, e3⟩ := open_agg4 Tryd.underlying23 (by kernel_rfl) (by kernel_rfl) hv0 h0
  obtain ⟨n0, z0, _, _⟩ := DataW.trod_int Tryd.underlying3 e0
  obtain ⟨n1, z1, _, _⟩ := DataW.trod_int Tryd.underlying3 e1
  obtain ⟨n2, z2, _, _⟩ := DataW.trod_int Tryd.underlying3 e2
  obtain ⟨n3, z3, _, _⟩ := DataW.trod_int Tryd.underlying3 e3
  simp only [List.cons.injEq, and_true] at z0 z1 z2 z3
  subst z0 z1 z2 z3
  obtain ⟨a1, rfl, _, _, w1⟩ := open_int Tryd.underlying36 hv1 h1
  obtain ⟨a2, rfl, _, _, w2⟩ := open_int Tryd.underlying36 hv2 h2
  obtain ⟨a3, rfl, _, _, w3⟩ := open_int Tryd.underlying36 hv3 h3
  obtain ⟨a4, rfl, _, _, w4⟩ := open_int Tryd.underlying36 hv4 h4
  obtain ⟨k, hk⟩ := codeWithin_pure n0 n1 n2 n3 a1 a2 a3 a4 (u16_range w1) (u16_range w2) (u16_range w3) (u16_range w4)
  exact fin (P.baizelaw14_CodeWithin.calls k n0 n1 n2 n3 a1 a2 a3 a4 true W hk rfl (kinds_of_laid hL))
theorem over : Rows.codeWithinRow.holds Tryd.pinned (OpenSpec.ofChange Rows.codeWithinSpec) :=
  OpenClaim.holds_of_wide 4 Tryd.f4 rfl rfl rfl rfl rfl rfl rfl ⟨rfl, rfl, rfl, rfl, rfl⟩ rfl rfl rfl rfl rfl (by kernel_rfl) Tryd.func4 (by kernel_rfl)
    (of_decide_eq_true (by kernel_rfl)) (by unfold Func.isWrapper; first | (rw [if_pos (by decide +kernel)]; kernel_rfl) | (rw [if_neg (by decide +kernel)]; exact ⟨rfl, rfl⟩))
    (fun os started H enc _ => lifted os started H enc)
theorem proved : Rows.CodeWithinSaid := over
theorem card_proved : Rows.CodeWithinCardSaid :=
  Claim7.holds_tied_plain_at .later [] [.data] true (true, "abdeaa6e45033267d20bb398f36556ef3f216c643a4658b68803effe16d40d3b") true
    proved (fun _ h => by cases h) (by kernel_rfl) (fun _ h => by cases h) codeWithin_row_tie rfl ⟨rfl, rfl⟩ (by kernel_rfl) rfl
    (fun f fn hf hfn => by
      obtain rfl : f = 4 := Option.some.inj ((show Tryd.prog.funcNamed "baize/baizelaw14.CodeWithin" = some 4 by kernel_rfl).symm.trans hf) |>.symm
      obtain rfl : fn = Tryd.f4 := (Option.some.inj (Tryd.func4.symm.trans hfn)).symm
      exact ⟨by kernel_rfl, fun j t ht => by
        rw [Tryd.params4] at ht
        have hall : ∀ x ∈ Tryd.f4.params.toList, Tryd.prog.wantsStandIn x = false := by
          rw [Tryd.params4]
          intro x hx
          simp only [List.mem_cons, List.mem_nil_iff, or_false] at hx
          rcases hx with rfl | rfl | rfl | rfl | rfl
          all_goals kernel_rfl
        exact hall t (by rw [Tryd.params4]; exact Array.mem_toList_iff.2 (Array.mem_of_getElem? ht))⟩)
    (by kernel_rfl)
end Go.Proofs.YtgnplpmmadbbdaaDoor.codeWithin
namespace Go.Proofs.YtgnplpmmadbbdaaDoor
/-- CodeWithin. -/
theorem codeWithin_holds : Rows.CodeWithinCardSaid := codeWithin.card_proved
end Go.Proofs.YtgnplpmmadbbdaaDoor
#print axioms Go.Proofs.YtgnplpmmadbbdaaDoor.codeWithin_holds
