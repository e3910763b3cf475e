/- By hand: may an instruction be, as the document's text tells it. -/
import Derived.Test.YtgnplpmmadbbdaaDoorE5
namespace Go.Proofs.YtgnplpmmadbbdaaDoor
set_option linter.unusedSimpArgs false
set_option linter.unusedVariables false
open Go.RowKit Go.Proofs.YtgnplpmmadbbdaaDoorW.PrintWords Go.Proofs.YtgnplpmmadbbdaaDoor.P

theorem number_some (n : Int) : baizeref14_Number.f n = some (decide (-2147483648 ≤ n) && decide (n ≤ 2147483647)) := by
  unfold baizeref14_Number.f
  by_cases h : n ≥ -2147483648
  · rw [if_pos h]; simp [h]
  · rw [if_neg h]; simp; omega
theorem has_some (o : Int) : baizeref14_Has.f o = some (kH o) := by
  refine op_cases (p := fun o => baizeref14_Has.f o = some (kH o)) (by decide) (fun op h => ?_) o
  unfold baizeref14_Has.f kH
  rw [if_neg (show ¬ (0 ≤ op ∧ op < 22) by omega)]
  by_cases h1 : op < 0
  · rw [if_pos h1]
  · rw [if_neg h1, if_pos (by omega)]

set_option maxHeartbeats 2000000 in
set_option maxRecDepth 100000 in
theorem refRight_in (o a b c size words : Int) (h0 : 0 ≤ o) (h1 : o < 22) (w : World) :
    Calls Tryd.prog 23 #[.agg #[.int .i64 o, .int .i64 a, .int .i64 b, .int .i64 c], .int .i64 size, .int .i64 words] w fun e w' => e = .returned (.bool (rightB o a b c size words)) ∧ Below w.heap.size w w' := by
  have hio : isOp o = true := decide_eq_true ⟨h0, h1⟩
  go_enter Tryd.func23, Tryd.ntmps23
  go_wp2_with fail
  refine (refThree_any _ _ _ _ _).mono ?_
  rintro e w1 ⟨rfl, hb⟩
  have hB : Aside0 (Below w.heap.size w w1) := ⟨(below_alloc (Below.refl _ _) _).trans (hb.mono (by simp))⟩
  have hsz : w.heap.size < w1.heap.size := by have := hb.size; simp at this; omega
  have hbx : Aside0 (w1.heap[w.heap.size]? = some (.cells #[Value.int .i64 o, .int .i64 a, .int .i64 b, .int .i64 c] 23 (0, 0))) := ⟨blk_below (blk_new w _) hb⟩
  have hx0 : w1.cell? ⟨w.heap.size, 0, none⟩ = some (.int .i64 o) := blk_cell hbx.out 0
  clear hb
  go_wp2_with fail
  refine (baizeref14_Has.calls _ _ _ (has_some o)).mono ?_
  rintro e w2 ⟨rfl, hb2⟩
  clear hx0
  go_wp2
  have hB2 : Aside0 (Below w.heap.size w w2) := ⟨below_then (below_alloc hB.out _) (by simp; omega) hb2⟩
  have hbx2 : Aside0 (w2.heap[w.heap.size]? = some (.cells #[Value.int .i64 o, .int .i64 a, .int .i64 b, .int .i64 c] 23 (0, 0))) := ⟨blk_below (blk_alloc hbx.out _) hb2⟩
  have hky2 : Aside0 (w2.heap[w1.heap.size]? = some (.cells #[.int .i64 a, .int .i64 b, .int .i64 c] 70 (0, 0))) := ⟨blk_below (blk_new w1 _) hb2⟩
  clear hb2 hbx hB
  go_loopw [9] (fun i wr => ∃ k : Nat, k ≤ 3 ∧ i = .int .i64 k ∧ Aside0 (∀ j, j < k → fitL (letter o j) (nth3 a b c j) size words = true) ∧ Aside0 (Below w.heap.size w wr) ∧ Aside0 (wr.heap[w.heap.size]? = some (.cells #[Value.int .i64 o, .int .i64 a, .int .i64 b, .int .i64 c] 23 (0, 0))) ∧ Aside0 (wr.heap[w1.heap.size]? = some (.cells #[.int .i64 a, .int .i64 b, .int .i64 c] 70 (0, 0)))) (fun i _ => 3 - (intOf i).toNat)
  case atStart => exact ⟨0, by omega, rfl, ⟨fun j hj => by omega⟩, hB2, hbx2, hky2⟩
  case round =>
    obtain ⟨k, hk, rfl, hF, hBr, hbxr, hkyr⟩ := hrel
    by_cases hlt : k < 3
    · have hy1 : wr.cell? ⟨w1.heap.size, k, none⟩ = some (.int .i64 (nth3 a b c k)) := by
        rw [blk_cell hkyr.out k]
        rcases (show k = 0 ∨ k = 1 ∨ k = 2 by omega) with rfl | rfl | rfl <;> rfl
      generalize hN : nth3 a b c k = n at *
      have HN := Aside0.mk hN
      clear hN
      by_cases hl : k < (kH o).size
      · have hsx : ∀ W, (Instr.index 9 (.string (kH o)) (.int .i64 k)).run Tryd.prog W = .ok (.int .u8 ((kH o).data.toList.getD k 0).toNat) W := fun W => by
          rw [run_index_string W 9 _ _ _ Tryd.underlying9, dif_pos ⟨by omega, by omega⟩]
          simp [List.getD, ByteArray.getElem_eq_getElem_data, hl]
        have hlet : letter o k = (kH o).data.toList.getD k 0 := by unfold letter; rw [if_pos hl]
        have hch := kH_letters o k hl
        rw [← hlet] at hch hsx
        clear hlet
        rcases hch with h | h | h
        · have HL := Aside0.mk h
          rw [h] at hsx
          clear h
          by_cases hn0 : n < 0
          · skip
            go_wp2
            go_ret
            exact ⟨show Ending.returned (.bool false) = _ from by rw [right_fail k hlt (by rw [HN.out, HL.out]; first | (simp [fitL]; omega) | (simp [fitL, *]; done))], by repeat (first | exact hBr.out | apply pw_below_drewN)⟩
          · by_cases hn1 : words ≤ n
            · skip
              go_wp2
              go_ret
              exact ⟨show Ending.returned (.bool false) = _ from by rw [right_fail k hlt (by rw [HN.out, HL.out]; first | (simp [fitL]; omega) | (simp [fitL, *]; done))], by repeat (first | exact hBr.out | apply pw_below_drewN)⟩
            · skip
              go_wp2
              go_roundw
              case rel =>
                refine ⟨k + 1, by omega, by go_num, ⟨fun j hj => ?_⟩, ⟨by repeat (first | exact hBr.out | apply pw_below_drewN)⟩, ⟨by repeat (first | exact hbxr.out | apply blk_drewN)⟩, ⟨by repeat (first | exact hkyr.out | apply blk_drewN)⟩⟩
                rcases (show j < k ∨ j = k by omega) with h | rfl
                · exact hF.out j h
                · rw [HN.out, HL.out]; first | (simp [fitL]; omega) | (simp [fitL, *]; done)
              case measure => simp [intOf]; omega
        · have HL := Aside0.mk h
          rw [h] at hsx
          clear h
          have hnf : ∀ W : World, Calls Tryd.prog 41 #[.int .i64 n] W fun e w' => e = .returned (.bool (decide (-2147483648 ≤ n) && decide (n ≤ 2147483647))) ∧ Drawn0 W w' := fun W => baizeref14_Number.calls n _ W (number_some n)
          cases hnb : (decide (-2147483648 ≤ n) && decide (n ≤ 2147483647))
          all_goals rw [hnb] at hnf
          · have HNf := Aside0.mk hnf
            clear hnf
            have HNb := Aside0.mk hnb
            clear hnb
            go_wp2_with (go_at_call 41; refine (HNf.out _).mono ?_; rintro e w7 ⟨rfl, ⟨nd, rfl⟩⟩)
            go_ret
            exact ⟨show Ending.returned (.bool false) = _ from by rw [right_fail k hlt (by rw [HN.out, HL.out]; first | (simp [fitL]; omega) | (simpa [fitL] using HNb.out))], by repeat (first | exact hBr.out | apply pw_below_drewN)⟩
          · have HNf := Aside0.mk hnf
            clear hnf
            have HNb := Aside0.mk hnb
            clear hnb
            go_wp2_with (go_at_call 41; refine (HNf.out _).mono ?_; rintro e w7 ⟨rfl, ⟨nd, rfl⟩⟩)
            go_roundw
            case rel =>
              refine ⟨k + 1, by omega, by go_num, ⟨fun j hj => ?_⟩, ⟨by repeat (first | exact hBr.out | apply pw_below_drewN)⟩, ⟨by repeat (first | exact hbxr.out | apply blk_drewN)⟩, ⟨by repeat (first | exact hkyr.out | apply blk_drewN)⟩⟩
              rcases (show j < k ∨ j = k by omega) with h | rfl
              · exact hF.out j h
              · rw [HN.out, HL.out]; first | (simp [fitL]; omega) | (simpa [fitL] using HNb.out)
            case measure => simp [intOf]; omega
        · have HL := Aside0.mk h
          rw [h] at hsx
          clear h
          by_cases hn0 : n < 0
          · skip
            go_wp2
            go_ret
            exact ⟨show Ending.returned (.bool false) = _ from by rw [right_fail k hlt (by rw [HN.out, HL.out]; first | (simp [fitL]; omega) | (simp [fitL, *]; done))], by repeat (first | exact hBr.out | apply pw_below_drewN)⟩
          · by_cases hn1 : size ≤ n
            · skip
              go_wp2
              go_ret
              exact ⟨show Ending.returned (.bool false) = _ from by rw [right_fail k hlt (by rw [HN.out, HL.out]; first | (simp [fitL]; omega) | (simp [fitL, *]; done))], by repeat (first | exact hBr.out | apply pw_below_drewN)⟩
            · skip
              go_wp2
              go_roundw
              case rel =>
                refine ⟨k + 1, by omega, by go_num, ⟨fun j hj => ?_⟩, ⟨by repeat (first | exact hBr.out | apply pw_below_drewN)⟩, ⟨by repeat (first | exact hbxr.out | apply blk_drewN)⟩, ⟨by repeat (first | exact hkyr.out | apply blk_drewN)⟩⟩
                rcases (show j < k ∨ j = k by omega) with h | rfl
                · exact hF.out j h
                · rw [HN.out, HL.out]; first | (simp [fitL]; omega) | (simp [fitL, *]; done)
              case measure => simp [intOf]; omega
      · have HL : Aside0 (letter o k = 48) := ⟨by unfold letter; rw [if_neg hl]⟩
        by_cases hn0 : n = 0
        · subst hn0
          go_wp2
          go_roundw
          case rel =>
            refine ⟨k + 1, by omega, by go_num, ⟨fun j hj => ?_⟩, ⟨by repeat (first | exact hBr.out | apply pw_below_drewN)⟩, ⟨by repeat (first | exact hbxr.out | apply blk_drewN)⟩, ⟨by repeat (first | exact hkyr.out | apply blk_drewN)⟩⟩
            rcases (show j < k ∨ j = k by omega) with h | rfl
            · exact hF.out j h
            · rw [HN.out, HL.out]; first | (simp [fitL]; omega) | (simp [fitL, *]; done)
          case measure => simp [intOf]; omega
        · have hb0 : (n != 0) = true := bne_iff_ne.2 hn0
          go_wp2
          go_ret
          exact ⟨show Ending.returned (.bool false) = _ from by rw [right_fail k hlt (by rw [HN.out, HL.out]; first | (simp [fitL]; omega) | (simp [fitL, *]; done))], by repeat (first | exact hBr.out | apply pw_below_drewN)⟩
    · obtain rfl : k = 3 := by omega
      have HR := Aside0.mk (right_fine (size := size) (words := words) hio hF.out)
      have hx : ∀ j, wr.cell? ⟨w.heap.size, j, none⟩ = #[Value.int .i64 o, .int .i64 a, .int .i64 b, .int .i64 c][j]? := blk_cell hbxr.out
      have hx0 : wr.cell? ⟨w.heap.size, 0, none⟩ = some (.int .i64 o) := hx 0
      have hx1 : wr.cell? ⟨w.heap.size, 1, none⟩ = some (.int .i64 a) := hx 1
      have hx2 : wr.cell? ⟨w.heap.size, 2, none⟩ = some (.int .i64 b) := hx 2
      have hx3 : wr.cell? ⟨w.heap.size, 3, none⟩ = some (.int .i64 c) := hx 3
      clear hx hB2 hbx2 hky2
      by_cases ho0 : o = 0
      · subst ho0
        by_cases ha : a = 0
        · subst ha
          go_wp2
          all_goals go_ret
          all_goals (refine ⟨congrArg (fun b => Ending.returned (Value.bool b)) (Eq.symm (HR.out.trans ?_)), hBr.out⟩; first | rfl | (simp [*]; done) | (simp_all; done))
        · have ea : (a == 0) = false := beq_eq_false_iff_ne.2 ha
          have ea2 : (a != 0) = true := bne_iff_ne.2 ha
          by_cases ha1 : a = 1
          · subst ha1
            go_wp2
            all_goals go_ret
            all_goals (refine ⟨congrArg (fun b => Ending.returned (Value.bool b)) (Eq.symm (HR.out.trans ?_)), hBr.out⟩; first | rfl | (simp [*]; done) | (simp_all; done))
          · have eb : (a == 1) = false := beq_eq_false_iff_ne.2 ha1
            have eb2 : (a != 1) = true := bne_iff_ne.2 ha1
            go_wp2
            all_goals go_ret
            all_goals (refine ⟨congrArg (fun b => Ending.returned (Value.bool b)) (Eq.symm (HR.out.trans ?_)), hBr.out⟩; first | rfl | (simp [*]; done) | (simp_all; done))
      · have e0 : (o == 0) = false := beq_eq_false_iff_ne.2 ho0
        by_cases ho1 : o = 17
        · subst ho1
          by_cases hbc : c < b
          all_goals go_wp2
          all_goals go_ret
          all_goals (refine ⟨congrArg (fun b => Ending.returned (Value.bool b)) (Eq.symm (HR.out.trans ?_)), hBr.out⟩; simp; omega)
        · have e1 : (o == 17) = false := beq_eq_false_iff_ne.2 ho1
          by_cases ho2 : o = 18
          · subst ho2
            by_cases hbc : c < 0
            all_goals go_wp2
            all_goals go_ret
            all_goals (refine ⟨congrArg (fun b => Ending.returned (Value.bool b)) (Eq.symm (HR.out.trans ?_)), hBr.out⟩; simp; omega)
          · have e2 : (o == 18) = false := beq_eq_false_iff_ne.2 ho2
            go_wp2
            all_goals go_ret
            all_goals exact ⟨show Ending.returned (.bool true) = _ from by rw [HR.out, if_neg ho0, if_neg ho1, if_neg ho2], hBr.out⟩

set_option maxRecDepth 100000 in
theorem refRight_out (o a b c size words : Int) (h : o < 0 ∨ 22 ≤ o) (w : World) :
    Calls Tryd.prog 23 #[.agg #[.int .i64 o, .int .i64 a, .int .i64 b, .int .i64 c], .int .i64 size, .int .i64 words] w fun e w' => e = .returned (.bool false) ∧ Below w.heap.size w w' := by
  go_enter Tryd.func23, Tryd.ntmps23
  rcases h with h | h
  · go_wp2
    go_ret
    exact ⟨rfl, below_alloc (Below.refl _ _) _⟩
  · have h' : ¬ o < 0 := by omega
    go_wp2
    go_ret
    exact ⟨rfl, below_alloc (Below.refl _ _) _⟩
def baizeref14_Right.f (a0_0 a0_1 a0_2 a0_3 a1 a2 : Int) : Option Bool := some (rightB a0_0 a0_1 a0_2 a0_3 a1 a2)
theorem baizeref14_Right.calls (a0_0 a0_1 a0_2 a0_3 a1 a2 : Int) (r : Bool) (w : World) (h : baizeref14_Right.f a0_0 a0_1 a0_2 a0_3 a1 a2 = some r) :
    Calls Tryd.prog 23 #[.agg #[.int .i64 a0_0, .int .i64 a0_1, .int .i64 a0_2, .int .i64 a0_3], .int .i64 a1, .int .i64 a2] w fun e w' => e = .returned (.bool r) ∧ Below w.heap.size w w' := by
  obtain rfl := Option.some.inj h
  by_cases hio : 0 ≤ a0_0 ∧ a0_0 < 22
  · exact refRight_in _ _ _ _ _ _ hio.1 hio.2 w
  · rw [right_none (decide_eq_false hio)]; exact refRight_out _ _ _ _ _ _ (by omega) w
end Go.Proofs.YtgnplpmmadbbdaaDoor
