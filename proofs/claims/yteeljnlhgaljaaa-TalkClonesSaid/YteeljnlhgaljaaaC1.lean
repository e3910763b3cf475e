/- By hand: Clone. -/
import Derived.Test.YteeljnlhgaljaaaM
namespace Go.Proofs.Yteeljnlhgaljaaa
set_option linter.unusedVariables false
set_option linter.unusedSimpArgs false
open Go.RowKit Go.Proofs.YteeljnlhgaljaaaW.PrintWords Go.Proofs.YteeljnlhgaljaaaW.PrintLast Go.Proofs.Yteeljnlhgaljaaa.P

set_option maxRecDepth 100000 in
set_option maxHeartbeats 2000000 in
theorem clone_ok (g : Nat) (S : Nat → Prop) (t : Tk) (w : World) (ht : IsTk w g S t) (hwl : t.wait.length < 1000000) (hwm : ∀ m ∈ t.wait, m.length < 140737488355328) (hgl : t.got.length < 1000000) (hgm : ∀ m ∈ t.got, m.length < 140737488355328) :
    Calls Try.prog 25 #[.pointer (some ⟨g, 0, none⟩)] w fun e w' => ∃ g', e = .returned (.pointer (some ⟨g', 0, none⟩)) ∧ w.heap.size ≤ g' ∧ IsTk w' g' (fun k => w.heap.size ≤ k) t ∧ Below w.heap.size w w' := by
  obtain ⟨Sw, Sg, vw, vg, ht⟩ := ht
  obtain ⟨Aw, cw, rfl, hcw, hCw⟩ := Kd.R_reads ht.wait
  obtain ⟨Ag, cg, rfl, hcg, hCg⟩ := Kd.R_reads ht.got
  have HT := Aside0.mk ht
  have HCW := Aside0.mk hcw
  have HCG := Aside0.mk hcg
  have HWL := Aside0.mk hwl
  have HWM := Aside0.mk hwm
  have HGL := Aside0.mk hgl
  have HGM := Aside0.mk hgm
  have x0 : w.cell? ⟨g, 0, none⟩ = some (.int .i64 t.most) := blk_cell ht.blk 0
  have x1 : w.cell? ⟨g, 1, none⟩ = some (.int .i64 t.again) := blk_cell ht.blk 1
  have x2 : w.cell? ⟨g, 2, none⟩ = some (.int .i64 t.said) := blk_cell ht.blk 2
  have x3 : w.cell? ⟨g, 3, none⟩ = some (.int .i64 t.done) := blk_cell ht.blk 3
  have x4 : w.cell? ⟨g, 4, none⟩ = some (.int .i64 t.gone) := blk_cell ht.blk 4
  have x5 : w.cell? ⟨g, 5, none⟩ = some (.int .i64 t.heard) := blk_cell ht.blk 5
  have x6 : w.cell? ⟨g, 6, none⟩ = some (.slice Aw t.wait.length cw) := blk_cell ht.blk 6
  have x7 : w.cell? ⟨g, 7, none⟩ = some (.slice Ag t.got.length cg) := blk_cell ht.blk 7
  have x8 : w.cell? ⟨g, 8, none⟩ = some (.int .i64 t.last) := blk_cell ht.blk 8
  have x9 : w.cell? ⟨g, 9, none⟩ = some (.bool t.went) := blk_cell ht.blk 9
  have x10 : w.cell? ⟨g, 10, none⟩ = some (.bool t.owes) := blk_cell ht.blk 10
  clear ht hcw hcg hCw hCg hwl hwm hgl hgm
  go_enter Try.func25, Try.ntmps25
  go_wp2_with fail
  clear x0 x1 x2 x3 x4 x5 x6 x7 x8 x9 x10
  generalize hw1 : w.alloc _ = w1
  have hX1 : w1.heap[w.heap.size]? = some (.cells (tkCells t (.slice Aw t.wait.length cw) (.slice Ag t.got.length cg)) 82 (0, 0)) := hw1 ▸ blk_new w _
  have hB1 : Below w.heap.size w w1 := hw1 ▸ below_alloc (Below.refl _ _) _
  have HX1 := Aside0.mk hX1
  have HB1 := Aside0.mk hB1
  clear hw1 hX1 hB1
  obtain ⟨gg, hgg⟩ : ∃ gg, gg = w.heap.size := ⟨_, rfl⟩
  have HGE := Aside0.mk hgg
  rw [← hgg]
  rw [← hgg] at HX1
  clear hgg
  refine start_ (n := 14) (S := fun w' => w'.cell? ⟨g, 6, none⟩ = some (.slice Aw t.wait.length cw) ∧ w'.cell? ⟨g, 7, none⟩ = some (.slice Ag t.got.length cg)) (ds := [11, 13]) #[false, false, false, false, false, false, false, false, false, false, false, false, false, false] (by kernel_rfl) rfl rfl ⟨blk_cell (blk_below HT.out.blk (below_drew HB1.out)) 6, blk_cell (blk_below HT.out.blk (below_drew HB1.out)) 7⟩ (fun hHeld => ?_)
  refine pure_ (i := 0) (N := some 9) (v := ?_) (a' := ?_) #[true, false, false, false, false, false, false, false, false, false, false, false, false, false] rfl rfl (by kernel_rfl) (fun _ _ _ h => h) (Or.inl ⟨by rfl, ?_⟩) ?_ ?_
  rotate_left
  · intro w'
    go_simp
    with_reducible rfl
  rotate_left
  · simp only [Act.put, List.setIfInBounds_toArray, List.set_cons_zero, List.set_cons_succ, i64_w, i32_w]
    rfl
  refine pure_ (i := 1) (N := some 10) (v := ?_) (a' := ?_) #[true, true, false, false, false, false, false, false, false, false, false, false, false, false] rfl rfl (by kernel_rfl) (fun _ _ _ h => h) (Or.inl ⟨by rfl, ?_⟩) ?_ ?_
  rotate_left
  · intro w'
    go_simp
    with_reducible rfl
  rotate_left
  · simp only [Act.put, List.setIfInBounds_toArray, List.set_cons_zero, List.set_cons_succ, i64_w, i32_w]
    rfl
  refine pure_ (i := 2) (N := some 11) (v := ?_) (a' := ?_) #[true, true, true, false, false, false, false, false, false, false, false, false, false, false] rfl rfl (by kernel_rfl) (fun _ _ _ h => h) (Or.inl ⟨by rfl, ?_⟩) ?_ ?_
  rotate_left
  · intro w'
    go_simp
    with_reducible rfl
  rotate_left
  · simp only [Act.put, List.setIfInBounds_toArray, List.set_cons_zero, List.set_cons_succ, i64_w, i32_w]
    rfl
  refine pure_ (i := 5) (N := some 14) (v := ?_) (a' := ?_) #[true, true, true, false, false, true, false, false, false, false, false, false, false, false] rfl rfl (by kernel_rfl) (fun _ _ _ h => h) (Or.inl ⟨by rfl, ?_⟩) ?_ ?_
  rotate_left
  · intro w'
    go_simp
    with_reducible rfl
  rotate_left
  · simp only [Act.put, List.setIfInBounds_toArray, List.set_cons_zero, List.set_cons_succ, i64_w, i32_w]
    rfl
  refine pure_ (i := 6) (N := some 15) (v := ?_) (a' := ?_) #[true, true, true, false, false, true, true, false, false, false, false, false, false, false] rfl rfl (by kernel_rfl) (fun _ _ _ h => h) (Or.inl ⟨by rfl, ?_⟩) ?_ ?_
  rotate_left
  · intro w'
    go_simp
    with_reducible rfl
  rotate_left
  · simp only [Act.put, List.setIfInBounds_toArray, List.set_cons_zero, List.set_cons_succ, i64_w, i32_w]
    rfl
  refine pure_ (i := 7) (N := some 16) (v := ?_) (a' := ?_) #[true, true, true, false, false, true, true, true, false, false, false, false, false, false] rfl rfl (by kernel_rfl) (fun _ _ _ h => h) (Or.inl ⟨by rfl, ?_⟩) ?_ ?_
  rotate_left
  · intro w'
    go_simp
    with_reducible rfl
  rotate_left
  · simp only [Act.put, List.setIfInBounds_toArray, List.set_cons_zero, List.set_cons_succ, i64_w, i32_w]
    rfl
  refine take_ (i := 3) (N := some 12) (v := ?_) (a' := ?_) #[true, true, true, true, false, true, true, true, false, false, false, false, false, false] rfl rfl (by kernel_rfl) (fun _ _ _ h => h) (Or.inl ⟨by rfl, ?_⟩) hHeld ?_ ?_
  rotate_left
  · rintro w' ⟨s0, s1⟩
    go_simp
    with_reducible rfl
  rotate_left
  · simp only [Act.put, List.setIfInBounds_toArray, List.set_cons_zero, List.set_cons_succ, i64_w, i32_w]
    rfl
  refine take_ (i := 8) (N := some 17) (v := ?_) (a' := ?_) #[true, true, true, true, false, true, true, true, true, false, false, false, false, false] rfl rfl (by kernel_rfl) (fun _ _ _ h => h) (Or.inl ⟨by rfl, ?_⟩) hHeld ?_ ?_
  rotate_left
  · rintro w' ⟨s0, s1⟩
    go_simp
    with_reducible rfl
  rotate_left
  · simp only [Act.put, List.setIfInBounds_toArray, List.set_cons_zero, List.set_cons_succ, i64_w, i32_w]
    rfl
  refine one_ (i := 4) (N := some 13) #[true, true, true, true, true, true, true, true, true, false, false, false, false, false] rfl rfl (by kernel_rfl) (by decide) (fun K hK => ?_)
  refine goes_ Try.func35 (by kernel_rfl) rfl #[.slice Aw t.wait.length cw] (by rfl) rfl rfl (by simp only [List.map_toArray, List.map_cons, List.map_nil]; rfl) ?_
  with_reducible refine (copied_ok Aw cw t.wait _ (Kd.R_reads' (Kd.R_below HT.out.wait (below_drew HB1.out))).2.2 HCW.out HWL.out HWM.out).mono ?_
  rintro e w2 ⟨v2, rfl, hv2, hb2⟩
  refine ⟨_, rfl, ?_⟩
  obtain ⟨A2, c2, rfl⟩ := Kd.R_slice hv2
  have HV2 := Aside0.mk (Kd.R_mono (Kd.R_bound hv2) (fun k hk => (show w1.heap.size ≤ k ∧ k < w2.heap.size from ⟨hk.2.1, hk.2.2.1⟩)))
  have HB12 : Aside0 (Below w1.heap.size w1 w2) := Aside0.mk (below_then (below_drew (Below.refl _ _)) (Nat.le_refl _) hb2)
  have HB2 := Aside0.mk (below_then HB1.out HB1.out.size HB12.out)
  have HX2 := Aside0.mk (blk_below HX1.out HB12.out)
  clear hv2 hb2
  refine hK.out _ _ ⟨blk_cell (blk_below HT.out.blk HB2.out) 6, blk_cell (blk_below HT.out.blk HB2.out) 7⟩ (fun hHeld => ?_)
  clear hK K
  refine norm_ (a' := ?_) ?_ ?_
  rotate_left
  · show Act.put _ (some 13) _ = _
    simp only [Act.put, List.setIfInBounds_toArray, List.set_cons_zero, List.set_cons_succ, i64_w, i32_w]
    rfl
  refine one_ (i := 9) (N := some 18) #[true, true, true, true, true, true, true, true, true, true, false, false, false, false] rfl rfl (by kernel_rfl) (by decide) (fun K hK => ?_)
  refine goes_ Try.func35 (by kernel_rfl) rfl #[.slice Ag t.got.length cg] (by rfl) rfl rfl (by simp only [List.map_toArray, List.map_cons, List.map_nil]; rfl) ?_
  with_reducible refine (copied_ok Ag cg t.got _ (Kd.R_reads' (Kd.R_below HT.out.got HB2.out)).2.2 HCG.out HGL.out HGM.out).mono ?_
  rintro e w3 ⟨v3, rfl, hv3, hb3⟩
  refine ⟨_, rfl, ?_⟩
  obtain ⟨A3, c3, rfl⟩ := Kd.R_slice hv3
  have HV3 := Aside0.mk (Kd.R_mono (Kd.R_bound hv3) (fun k hk => (show w2.heap.size ≤ k ∧ k < w3.heap.size from ⟨hk.2.1, hk.2.2.1⟩)))
  have HB3 := Aside0.mk (below_then HB2.out HB2.out.size hb3)
  have HX3 := Aside0.mk (blk_below HX2.out hb3)
  have HV23 := Aside0.mk (Kd.R_below HV2.out hb3)
  have hf6 : w3.frozen? ⟨gg, 6, none⟩ = false := blk_frozen HX3.out 6
  have hf7 : w3.frozen? ⟨gg, 7, none⟩ = false := blk_frozen HX3.out 7
  have hx6 : w3.cell? ⟨gg, 6, none⟩ = some (.slice Aw t.wait.length cw) := blk_cell HX3.out 6
  have hx7 : w3.cell? ⟨gg, 7, none⟩ = some (.slice Ag t.got.length cg) := blk_cell HX3.out 7
  clear hv3 hb3
  refine hK.out _ _ ⟨blk_cell (blk_below HT.out.blk HB3.out) 6, blk_cell (blk_below HT.out.blk HB3.out) 7⟩ (fun hHeld => ?_)
  clear hK K
  refine norm_ (a' := ?_) ?_ ?_
  rotate_left
  · show Act.put _ (some 18) _ = _
    simp only [Act.put, List.setIfInBounds_toArray, List.set_cons_zero, List.set_cons_succ, i64_w, i32_w]
    rfl
  refine pure_ (i := 10) (N := some 19) (v := ?_) (a' := ?_) #[true, true, true, true, true, true, true, true, true, true, true, false, false, false] rfl rfl (by kernel_rfl) (fun _ _ _ h => h) (Or.inl ⟨by rfl, ?_⟩) ?_ ?_
  rotate_left
  · intro w'
    go_simp
    with_reducible rfl
  rotate_left
  · simp only [Act.put, List.setIfInBounds_toArray, List.set_cons_zero, List.set_cons_succ, i64_w, i32_w]
    rfl
  refine last_ (i := 11) (N := none) #[true, true, true, true, true, true, true, true, true, true, true, true, false, false] rfl rfl (by kernel_rfl) (by decide) (fun K hK => ?_)
  refine skip_ (w1 := ?_) (by rfl) rfl ?_ ?_
  rotate_left
  · go_simp
    rfl
  refine hK.out _ _ ?_
  clear hK K
  refine pure_ (i := 12) (N := some 20) (v := ?_) (a' := ?_) #[true, true, true, true, true, true, true, true, true, true, true, true, true, false] rfl rfl (by kernel_rfl) (fun _ _ _ h => h) (Or.inl ⟨by rfl, ?_⟩) ?_ ?_
  rotate_left
  · intro w'
    go_simp
    with_reducible rfl
  rotate_left
  · simp only [Act.put, List.setIfInBounds_toArray, List.set_cons_zero, List.set_cons_succ, i64_w, i32_w]
    rfl
  refine last_ (i := 13) (N := none) #[true, true, true, true, true, true, true, true, true, true, true, true, true, true] rfl rfl (by kernel_rfl) (by decide) (fun K hK => ?_)
  refine skip_ (w1 := ?_) (by rfl) rfl ?_ ?_
  rotate_left
  · go_simp
    rfl
  refine hK.out _ _ ?_
  clear hK K
  refine done_ (by kernel_rfl) ?_
  go_wp2
  go_ret
  have hwg : w.heap.size ≤ gg := Nat.le_of_eq HGE.out.symm
  have h12 : gg < w1.heap.size := blk_lt HX1.out
  have h13 : w1.heap.size ≤ w2.heap.size := HB12.out.size
  refine ⟨gg, rfl, hwg, ⟨fun k => w1.heap.size ≤ k ∧ k < w2.heap.size, fun k => w2.heap.size ≤ k ∧ k < w3.heap.size, .slice A2 t.wait.length c2, .slice A3 t.got.length c3, hwg, fun k hk => ⟨by have := hk.1; omega, by have := hk.1; omega, fun h => by have := h.1; have := hk.2; omega⟩, fun k hk => ⟨by have := hk.1; omega, by have := hk.1; omega⟩, ?_, ?_, ?_⟩, ?_⟩
  · exact blk_put (blk_put HX3.out 6 _ rfl) 7 _ rfl
  · exact Kd.R_lower (Kd.R_far (Kd.R_far HV23.out (p := ⟨gg, 6, none⟩) (fun k hk => by have := hk.1; show k ≠ gg; omega) _) (p := ⟨gg, 7, none⟩) (fun k hk => by have := hk.1; show k ≠ gg; omega) _) (Nat.zero_le _)
  · exact Kd.R_lower (Kd.R_far (Kd.R_far HV3.out (p := ⟨gg, 6, none⟩) (fun k hk => by have := hk.1; show k ≠ gg; omega) _) (p := ⟨gg, 7, none⟩) (fun k hk => by have := hk.1; show k ≠ gg; omega) _) (Nat.zero_le _)
  · exact below_set (below_set HB3.out hwg) hwg
end Go.Proofs.Yteeljnlhgaljaaa
