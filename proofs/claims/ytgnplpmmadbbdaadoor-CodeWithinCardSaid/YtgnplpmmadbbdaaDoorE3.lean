/- By hand: the words that an instruction reads, as the document's text tells them. -/
import Derived.Test.YtgnplpmmadbbdaaDoorE2
import Derived.Deep.CutBlock
import Derived.Deep.DeepCutAuto
import Derived.Deep.RegionHeld3
import Derived.Deep.RegionWith
namespace Go.Proofs.YtgnplpmmadbbdaaDoor
open Go.RowKit Go.Proofs.YtgnplpmmadbbdaaDoorW.PrintWords Go.Proofs.YtgnplpmmadbbdaaDoor.P

def whichS (o : Int) : ByteArray :=
  if o = 2 ∨ o = 14 ∨ o = 18 ∨ o = 20 ∨ o = 21 then ⟨#[98]⟩ else if (3 ≤ o ∧ o ≤ 13) ∨ o = 16 then ⟨#[98, 99]⟩ else if o = 15 then ⟨#[99]⟩ else if o = 17 then ⟨#[97]⟩ else ⟨#[]⟩

theorem whichS_size (o : Int) : (whichS o).size ≤ 2 := by
  unfold whichS
  repeat' split
  all_goals decide
theorem whichS_letters (o : Int) : ∀ k, k < (whichS o).size → (whichS o).data.toList.getD k 0 = 97 ∨ (whichS o).data.toList.getD k 0 = 98 ∨ (whichS o).data.toList.getD k 0 = 99 := by
  unfold whichS
  repeat' split
  all_goals decide

set_option maxHeartbeats 1000000 in
set_option maxRecDepth 100000 in
theorem refReads_any (o a b c : Int) (w : World) :
    Calls Tryd.prog 12 #[.agg #[.int .i64 o, .int .i64 a, .int .i64 b, .int .i64 c]] w fun e w' => ∃ v0_ : Value, e = .returned (v0_) ∧ Kd.R (Kd.int .i64) 3 w' w.heap.size (fun _ => True) v0_ (readsL (whichS o).data.toList a b c) ∧ Below w.heap.size w w' := by
  go_enter Tryd.func12, Tryd.ntmps12
  go_upto_block 0 with (fail)
  go_cut [3] (fun v3 wc => v3 = .string (whichS o) ∧ wc = w.alloc (.cells #[.int .i64 o, .int .i64 a, .int .i64 b, .int .i64 c] 23))
  case first =>
    go_wp2
    all_goals go_meet
    all_goals
      refine ⟨congrArg Value.string ?_, rfl⟩
      simp only [beq_iff_eq, beq_eq_false_iff_ne] at *
      unfold whichS
      first | rw [if_pos (by omega)] | rw [if_neg (by omega), if_pos (by omega)] | rw [if_neg (by omega), if_neg (by omega), if_pos (by omega)] | rw [if_neg (by omega), if_neg (by omega), if_neg (by omega), if_pos (by omega)] | rw [if_neg (by omega), if_neg (by omega), if_neg (by omega), if_neg (by omega)]
  case rest =>
    obtain ⟨rfl, rfl⟩ := hcut
    have hn := whichS_size o
    have hlen : (whichS o).data.toList.length = (whichS o).size := rfl
    have HLen := Aside0.mk hlen
    clear hlen
    have ix0 : ∀ W, (Instr.index 70 (.agg #[.int .i64 a, .int .i64 b, .int .i64 c]) (.int .i64 0)).run Tryd.prog W = .ok (.int .i64 a) W := fun _ => by kernel_rfl
    have ix1 : ∀ W, (Instr.index 70 (.agg #[.int .i64 a, .int .i64 b, .int .i64 c]) (.int .i64 1)).run Tryd.prog W = .ok (.int .i64 b) W := fun _ => by kernel_rfl
    have ix2 : ∀ W, (Instr.index 70 (.agg #[.int .i64 a, .int .i64 b, .int .i64 c]) (.int .i64 2)).run Tryd.prog W = .ok (.int .i64 c) W := fun _ => by kernel_rfl
    go_wp2
    have hBx : Aside0 (((w.alloc (.cells #[.int .i64 o, .int .i64 a, .int .i64 b, .int .i64 c] 23)).alloc (.cells #[] 3)).heap[w.heap.size]? = some (.cells #[Value.int .i64 o, .int .i64 a, .int .i64 b, .int .i64 c] 23 (0, 0))) := ⟨blk_alloc (blk_new _ _) _⟩
    go_loopw [4, 5] (fun v i wr => ∃ k : Nat, k ≤ (whichS o).size ∧ i = .int .i64 k ∧ Aside0 (Kd.R (Kd.int .i64) 3 wr w.heap.size (fun _ => True) v (readsL ((whichS o).data.toList.take k) a b c)) ∧ Aside0 (Below w.heap.size w wr) ∧ Aside0 (wr.heap[w.heap.size]? = some (.cells #[Value.int .i64 o, .int .i64 a, .int .i64 b, .int .i64 c] 23 (0, 0)))) (fun _ i _ => (whichS o).size - (intOf i).toNat)
    case atStart => exact ⟨0, Nat.zero_le _, rfl, ⟨⟨fun _ _ => trivial, [], ⟨rfl, .inr ⟨w.heap.size + 1, 0, #[], rfl, by omega, (by have := blk_new (w.alloc (.cells #[.int .i64 o, .int .i64 a, .int .i64 b, .int .i64 c] 23)) (.cells #[] 3); rwa [World.size_alloc] at this), Nat.le_refl _, by decide, rfl, rfl⟩⟩, Reps.none _ _⟩⟩, ⟨below_alloc (below_alloc (Below.refl _ _) _) _⟩, hBx⟩
    case round =>
      obtain ⟨k, hk, rfl, hR, hBr, hBxr⟩ := hrel
      by_cases hlt : k < (whichS o).size
      · have hch := whichS_letters o k hlt
        have hst := Aside0.mk (readsL_take (whichS o).data.toList k (by rw [HLen.out]; exact hlt) a b c)
        have hB0 : w.heap.size < wr.heap.size := blk_lt hBxr.out
        have hx : ∀ j, wr.cell? ⟨w.heap.size, j, none⟩ = #[Value.int .i64 o, .int .i64 a, .int .i64 b, .int .i64 c][j]? := blk_cell hBxr.out
        have hx0 : wr.cell? ⟨w.heap.size, 0, none⟩ = some (.int .i64 o) := hx 0
        have hx1 : wr.cell? ⟨w.heap.size, 1, none⟩ = some (.int .i64 a) := hx 1
        have hx2 : wr.cell? ⟨w.heap.size, 2, none⟩ = some (.int .i64 b) := hx 2
        have hx3 : wr.cell? ⟨w.heap.size, 3, none⟩ = some (.int .i64 c) := hx 3
        clear hx
        have hs : ∀ W, (Instr.index 9 (.string (whichS o)) (.int .i64 k)).run Tryd.prog W = .ok (.int .u8 ((whichS o).data.toList.getD k 0).toNat) W := fun W => by
          rw [run_index_string W 9 _ _ _ Tryd.underlying9, dif_pos ⟨by omega, by omega⟩]
          simp [List.getD, ByteArray.getElem_eq_getElem_data, hlt]
        obtain ⟨A, cp, rfl, hcp, hC⟩ := Kd.R_reads hR.out
        have hlen : (readsL ((whichS o).data.toList.take k) a b c).length ≤ k := Nat.le_trans (readsL_len _ _ _ _) (by rw [List.length_take]; omega)
        have hCA := Aside0.mk hC
        clear hcp hC
        generalize (whichS o).data.toList.getD k 0 = ch at *
        generalize readsL ((whichS o).data.toList.take k) a b c = out at *
        have hw0 : IntKind.i64.wrap (IntKind.u8.wrap 0) = 0 := rfl
        have hw1 : IntKind.i64.wrap (IntKind.u8.wrap 1) = 1 := rfl
        have hw2 : IntKind.i64.wrap (IntKind.u8.wrap 2) = 2 := rfl
        have hout : out = [] ∨ ∃ x, out = [x] := by
          match out, hlen with
          | [], _ => exact .inl rfl
          | [x], _ => exact .inr ⟨x, rfl⟩
          | _ :: _ :: _, h => simp at h; omega
        go_upto_region 30 with fail
        go_cut [6] (fun v6 wc => v6 = .int .i64 (pickN ch a b c) ∧ Aside0 (Below wr.heap.size wr wc))
        case first =>
          rcases hch with h | h | h
          all_goals
            subst h
            go_region_with (go_at_call 35; refine (refThree_any _ _ _ _ _).mono ?_; rintro e w1 ⟨rfl, hb1⟩)
            all_goals
              go_wp2
              go_meet
              exact ⟨by simp [pickN], ⟨(below_drew (Below.refl _ _)).trans hb1⟩⟩
        case rest =>
          obtain ⟨rfl, hbc⟩ := hcut
          have hst2 := Aside0.mk (show readsStep a b c out ch = if out.contains (pickN ch a b c) then out else out ++ [pickN ch a b c] by unfold readsStep; rfl)
          have hBr1 := Aside0.mk (below_then hBr.out hBr.out.size hbc.out)
          have hBx1 := Aside0.mk (blk_below hBxr.out hbc.out)
          have hC1 := Aside0.mk (Kd.C_below hCA.out hbc.out)
          clear hx0 hx1 hx2 hx3 hs hw0 hw1 hw2 ix0 ix1 ix2 hch
          generalize pickN ch a b c = n at *
          rcases hout with rfl | ⟨x, rfl⟩
          · go_wp2_with (at_builtin; refine Kd.R_append (Kd.int .i64) (w0 := w) w.heap.size rfl (.tmp 57) (.tmp 59) 27 3 (.int .i64 0) 8 rfl Tryd.underlying27 info3 rfl (by decide) (by omega) (.slice A 0 cp) [] n [.int .i64 n] (fun _ => True) (fun _ => False) rfl rfl ?aP (fun _ hk => hk.elim) ?aF ?aO ?aB ?aS ?aL ?_; (case aP => exact rfl); (case aF => exact fun _ _ => trivial); (case aO => exact Kd.R_below hR.out (hbc.out)); (case aB => exact hBr1.out); (case aS => exact hBr1.out.size); (case aL => simp); intro v1 w3 ho hb hg hat)
            go_roundw
            case rel =>
              refine ⟨k + 1, by omega, by go_num, ⟨?_⟩, ⟨hb⟩, ⟨?_⟩⟩
              · rw [hst.out, hst2.out]; exact ho
              · exact blk_grown hBx1.out hg (own_ne_row hR.out hBxr.out (by decide))
            case measure => simp [intOf]; omega
          · obtain ⟨ad, rfl, hx⟩ := Kd.at_int hC1.out 0 (by omega) (by simp)
            have hx' : wc.cell? ad = some (.int .i64 x) := by rw [← Addr.add_zero' ad]; exact hx
            clear hx
            by_cases hn' : x = n
            · subst hn'
              go_wp2
              go_roundw
              case rel =>
                refine ⟨k + 1, by omega, by go_num, ⟨?_⟩, hBr1, hBx1⟩
                rw [hst.out, hst2.out, if_pos (by simp)]; exact Kd.R_below hR.out hbc.out
              case measure => simp [intOf]; omega
            · have hne1 : (x == n) = false := beq_eq_false_iff_ne.2 hn'
              have hne2 : (x != n) = true := bne_iff_ne.2 hn'
              go_wp2_with (at_builtin; refine Kd.R_append (Kd.int .i64) (w0 := w) w.heap.size rfl (.tmp 57) (.tmp 59) 27 3 (.int .i64 0) 8 rfl Tryd.underlying27 info3 rfl (by decide) (by omega) (.slice (some ad) 1 cp) [x] n [.int .i64 n] (fun _ => True) (fun _ => False) rfl rfl ?aP (fun _ hk => hk.elim) ?aF ?aO ?aB ?aS ?aL ?_; (case aP => exact rfl); (case aF => exact fun _ _ => trivial); (case aO => exact Kd.R_below hR.out (hbc.out)); (case aB => exact hBr1.out); (case aS => exact hBr1.out.size); (case aL => simp); intro v1 w3 ho hb hg hat)
              go_roundw
              case rel =>
                refine ⟨k + 1, by omega, by go_num, ⟨?_⟩, ⟨hb⟩, ⟨?_⟩⟩
                · rw [hst.out, hst2.out, if_neg (by simp; exact fun h => hn' h.symm)]; exact ho
                · exact blk_grown hBx1.out hg (own_ne_row hR.out hBxr.out (by decide))
              case measure => simp [intOf]; omega
      · go_wp2
        go_ret
        exact ⟨_, rfl, by have h := hR.out; rwa [List.take_of_length_le (by rw [HLen.out]; omega)] at h, hBr.out⟩

def baizeref14_Reads.f (a0_0 a0_1 a0_2 a0_3 : Int) : Option (List Int) := some (readsL (whichS a0_0).data.toList a0_1 a0_2 a0_3)
theorem baizeref14_Reads.calls (a0_0 a0_1 a0_2 a0_3 : Int) (r : List Int) (w : World) (h : baizeref14_Reads.f a0_0 a0_1 a0_2 a0_3 = some r) :
    Calls Tryd.prog 12 #[.agg #[.int .i64 a0_0, .int .i64 a0_1, .int .i64 a0_2, .int .i64 a0_3]] w fun e w' => ∃ v0_ : Value, e = .returned (v0_) ∧ Kd.R (Kd.int .i64) 3 w' w.heap.size (fun _ => True) v0_ r ∧ Below w.heap.size w w' := by
  obtain rfl := Option.some.inj h
  exact refReads_any a0_0 a0_1 a0_2 a0_3 w
end Go.Proofs.YtgnplpmmadbbdaaDoor
