/- By hand: what goes out at a tick. (The drawing region's rows are printed by rwt.py.) -/
import Derived.Test.YteeljnlhgaljaaaE3
namespace Go.Proofs.Yteeljnlhgaljaaa
set_option linter.unusedVariables false
set_option linter.unusedSimpArgs false
open Go.RowKit Go.Proofs.YteeljnlhgaljaaaW.PrintWords Go.Proofs.YteeljnlhgaljaaaW.PrintLast Go.Proofs.Yteeljnlhgaljaaa.P

set_option maxRecDepth 100000 in
set_option maxHeartbeats 1000000 in
theorem tick_no (g : Nat) (S : Nat → Prop) (t : Tk) (now : Int) (w : World) (ht : IsTk w g S t) (hn : 0 ≤ now ∧ now < 2199023255552) (hl : 0 ≤ t.last ∧ t.last < 2199023255552) (hd : dueB t now = false) :
    Calls Try.prog 19 #[.pointer (some ⟨g, 0, none⟩), .int .i64 now] w fun e w' => e = .returned (.tuple #[.agg #[.int .i64 0, .slice none 0 0, .int .i64 0], .bool false]) ∧ Below w.heap.size w w' := by
  have hT := Aside0.mk ht
  have hN := Aside0.mk hn
  have hL := Aside0.mk hl
  have hD := Aside0.mk hd
  clear ht hn hl hd
  go_enter Try.func19, Try.ntmps19
  go_wp2_with fail
  refine (due_ok g S t now _ (hT.out.below (below_alloc (Below.refl _ _) _)) hN.out hL.out).mono ?_
  rintro e w1 ⟨rfl, hb⟩
  rw [hD.out]
  have hbx := blk_below (blk_new w _) hb
  have hb1 := Aside0.mk (below_then (below_alloc (Below.refl _ _) _) (by simp) hb)
  have y0 : w1.cell? ⟨w.heap.size, 0, none⟩ = some (.int .i64 0) := blk_cell hbx 0
  have y1 : w1.cell? ⟨w.heap.size, 1, none⟩ = some (.slice none 0 0) := blk_cell hbx 1
  have y2 : w1.cell? ⟨w.heap.size, 2, none⟩ = some (.int .i64 0) := blk_cell hbx 2
  have z0 : w1.frozen? ⟨w.heap.size, 0, none⟩ = false := blk_frozen hbx 0
  have z1 : w1.frozen? ⟨w.heap.size, 1, none⟩ = false := blk_frozen hbx 1
  have z2 : w1.frozen? ⟨w.heap.size, 2, none⟩ = false := blk_frozen hbx 2
  have hbx := Aside0.mk hbx
  clear hb
  go_wp2
  have hge := Nat.le_refl w.heap.size
  exact bodyPost_ret (v := .tuple #[.agg #[.int .i64 0, .slice none 0 0, .int .i64 0], .bool false]) (by simp [results, Try.results19, go_sem, *]) rfl ⟨rfl, below_set (below_set (below_set hb1.out hge) hge) hge⟩
theorem tick_nil (v : Value) (w : World) : Calls Try.prog 19 #[.pointer none, v] w fun e w' => e = .returned (.tuple #[.agg #[.int .i64 0, .slice none 0 0, .int .i64 0], .bool false]) ∧ Below w.heap.size w w' := by
  go_enter Try.func19, Try.ntmps19
  go_wp2
  have hge := Nat.le_refl w.heap.size
  exact bodyPost_ret (v := .tuple #[.agg #[.int .i64 0, .slice none 0 0, .int .i64 0], .bool false]) (by simp [results, Try.results19, go_sem, *]) rfl ⟨rfl, by repeat (first | exact below_alloc (Below.refl _ _) _ | refine below_set ?_ hge)⟩
/-- What has gone out. -/
abbrev ticked (t : Tk) (now : Int) : Tk := { t with gone := t.said, last := now, went := true, owes := false }
set_option maxRecDepth 100000 in
set_option maxHeartbeats 1000000 in
theorem tick_yes' (g : Nat) (S Sw Sg : Nat → Prop) (vw vg : Value) (t : Tk) (now : Int) (w : World) (ht : IsTk' w g S Sw Sg vw vg t) (hn : 0 ≤ now ∧ now < 2199023255552) (hl : 0 ≤ t.last ∧ t.last < 2199023255552) (hd : dueB t now = true)
    (hwl : t.wait.length < 1000000) (hwm : ∀ m ∈ t.wait, m.length < 140737488355328) (hS : ∀ k, S k → k < w.heap.size) :
    Calls Try.prog 19 #[.pointer (some ⟨g, 0, none⟩), .int .i64 now] w fun e w' => ∃ v : Value, e = .returned (.tuple #[.agg #[.int .i64 t.done, v, .int .i64 t.heard], .bool true]) ∧ kM.R 34 w' w.heap.size (fun _ => True) v t.wait ∧ IsTk w' g S (ticked t now) ∧ Fr S w w' := by
  obtain ⟨Aw, cw, rfl, hcw, hCw⟩ := Kd.R_reads ht.wait
  have hT := Aside0.mk ht
  have hN := Aside0.mk hn
  have hL := Aside0.mk hl
  have hD := Aside0.mk hd
  have hWL := Aside0.mk hwl
  have hWM := Aside0.mk hwm
  have hCW := Aside0.mk hcw
  have hSS := Aside0.mk hS
  clear ht hn hl hd hwl hwm hcw hCw hS
  go_enter Try.func19, Try.ntmps19
  go_wp2_with fail
  refine (due_ok g S t now _ (IsTk.below ⟨_, _, _, _, hT.out⟩ (below_alloc (Below.refl _ _) _)) hN.out hL.out).mono ?_
  rintro e w1 ⟨rfl, hb⟩
  rw [hD.out]
  have hb1 := Aside0.mk (below_then (below_alloc (Below.refl _ _) _) (by simp) hb)
  have hbx := Aside0.mk (blk_below (blk_new w _) hb)
  have hbg := Aside0.mk (blk_below hT.out.blk hb1.out)
  have x2 : w1.cell? ⟨g, 2, none⟩ = some (.int .i64 t.said) := blk_cell hbg.out 2
  have x4 : w1.cell? ⟨g, 4, none⟩ = some (.int .i64 t.gone) := blk_cell hbg.out 4
  have x8 : w1.cell? ⟨g, 8, none⟩ = some (.int .i64 t.last) := blk_cell hbg.out 8
  have x9 : w1.cell? ⟨g, 9, none⟩ = some (.bool t.went) := blk_cell hbg.out 9
  have x10 : w1.cell? ⟨g, 10, none⟩ = some (.bool t.owes) := blk_cell hbg.out 10
  have f4 : w1.frozen? ⟨g, 4, none⟩ = false := blk_frozen hbg.out 4
  have f8 : w1.frozen? ⟨g, 8, none⟩ = false := blk_frozen hbg.out 8
  have f9 : w1.frozen? ⟨g, 9, none⟩ = false := blk_frozen hbg.out 9
  have f10 : w1.frozen? ⟨g, 10, none⟩ = false := blk_frozen hbg.out 10
  clear hb
  go_wp2
  have hne : g ≠ w.heap.size := Nat.ne_of_lt (blk_lt hT.out.blk)
  have hg2 := blk_put (blk_put (blk_put (blk_put hbg.out 4 (.int .i64 t.said) rfl) 8 (.int .i64 now) rfl) 9 (.bool true) rfl) 10 (.bool false) rfl
  have hbx2 := blk_far (blk_far (blk_far (blk_far hbx.out (p := ⟨g, 4, none⟩) (Ne.symm hne) (.int .i64 t.said)) (p := ⟨g, 8, none⟩) (Ne.symm hne) (.int .i64 now)) (p := ⟨g, 9, none⟩) (Ne.symm hne) (.bool true)) (p := ⟨g, 10, none⟩) (Ne.symm hne) (.bool false)
  have hF2 : Fr S w ((((w1.setCell ⟨g, 4, none⟩ (.int .i64 t.said)).setCell ⟨g, 8, none⟩ (.int .i64 now)).setCell ⟨g, 9, none⟩ (.bool true)).setCell ⟨g, 10, none⟩ (.bool false)) :=
    ((((Fr.of_below hb1.out).trans (Fr.setCell (S := S) _ hT.out.own _) (fun k h => .inl h)).trans (Fr.setCell (S := S) _ hT.out.own _) (fun k h => .inl h)).trans (Fr.setCell (S := S) _ hT.out.own _) (fun k h => .inl h)).trans (Fr.setCell (S := S) _ hT.out.own _) (fun k h => .inl h)
  have hW2 := Kd.R_far (Kd.R_far (Kd.R_far (Kd.R_far (Kd.R_below hT.out.wait hb1.out) (p := ⟨g, 4, none⟩) (fun k h => (hT.out.inw k h).2.1) (.int .i64 t.said)) (p := ⟨g, 8, none⟩) (fun k h => (hT.out.inw k h).2.1) (.int .i64 now)) (p := ⟨g, 9, none⟩) (fun k h => (hT.out.inw k h).2.1) (.bool true)) (p := ⟨g, 10, none⟩) (fun k h => (hT.out.inw k h).2.1) (.bool false)
  have hG2 := Kd.R_far (Kd.R_far (Kd.R_far (Kd.R_far (Kd.R_below hT.out.got hb1.out) (p := ⟨g, 4, none⟩) (fun k h => (hT.out.ing k h).2) (.int .i64 t.said)) (p := ⟨g, 8, none⟩) (fun k h => (hT.out.ing k h).2) (.int .i64 now)) (p := ⟨g, 9, none⟩) (fun k h => (hT.out.ing k h).2) (.bool true)) (p := ⟨g, 10, none⟩) (fun k h => (hT.out.ing k h).2) (.bool false)
  have hg2 := Aside0.mk hg2
  have hbx2 := Aside0.mk hbx2
  have hF2 := Aside0.mk hF2
  have hW2 := Aside0.mk hW2
  have hG2 := Aside0.mk hG2
  have hne := Aside0.mk hne
  clear x2 x4 x8 x9 x10 f4 f8 f9 f10 hbx hbg
  generalize (((w1.setCell ⟨g, 4, none⟩ (.int .i64 t.said)).setCell ⟨g, 8, none⟩ (.int .i64 now)).setCell ⟨g, 9, none⟩ (.bool true)).setCell ⟨g, 10, none⟩ (.bool false) = w2 at hg2 hbx2 hF2 hW2 hG2 ⊢
  refine start_ (n := 18) (S := fun w' => w'.cell? ⟨g, 3, none⟩ = some (.int .i64 t.done) ∧ w'.cell? ⟨g, 6, none⟩ = some (.slice Aw t.wait.length cw) ∧ w'.cell? ⟨g, 5, none⟩ = some (.int .i64 t.heard)) (ds := [16]) #[false, false, false, false, false, false, false, false, false, false, false, false, false, false, false, false, false, false] (by kernel_rfl) rfl rfl ⟨blk_cell hg2.out 3, blk_cell hg2.out 6, blk_cell hg2.out 5⟩ (fun hHeld => ?_)
  refine pure_ (i := 0) (N := some 34) (v := ?_) (a' := ?_) #[true, false, false, false, false, false, false, false, false, false, false, false, false, false, false, false, false, false] rfl rfl (by kernel_rfl) (fun _ _ _ h => h) (Or.inl ⟨by rfl, ?_⟩) ?_ ?_
  rotate_left
  · intro w'
    go_simp
    with_reducible rfl
  rotate_left
  · simp only [Act.put, List.setIfInBounds_toArray, List.set_cons_zero, List.set_cons_succ, i64_w, i32_w]
    rfl
  refine pure_ (i := 1) (N := some 35) (v := ?_) (a' := ?_) #[true, true, false, false, false, false, false, false, false, false, false, false, false, false, false, false, false, false] rfl rfl (by kernel_rfl) (fun _ _ _ h => h) (Or.inl ⟨by rfl, ?_⟩) ?_ ?_
  rotate_left
  · intro w'
    go_simp
    with_reducible rfl
  rotate_left
  · simp only [Act.put, List.setIfInBounds_toArray, List.set_cons_zero, List.set_cons_succ, i64_w, i32_w]
    rfl
  refine pure_ (i := 2) (N := some 36) (v := ?_) (a' := ?_) #[true, true, true, false, false, false, false, false, false, false, false, false, false, false, false, false, false, false] rfl rfl (by kernel_rfl) (fun _ _ _ h => h) (Or.inl ⟨by rfl, ?_⟩) ?_ ?_
  rotate_left
  · intro w'
    go_simp
    with_reducible rfl
  rotate_left
  · simp only [Act.put, List.setIfInBounds_toArray, List.set_cons_zero, List.set_cons_succ, i64_w, i32_w]
    rfl
  refine pure_ (i := 3) (N := some 37) (v := ?_) (a' := ?_) #[true, true, true, true, false, false, false, false, false, false, false, false, false, false, false, false, false, false] rfl rfl (by kernel_rfl) (fun _ _ _ h => h) (Or.inl ⟨by rfl, ?_⟩) ?_ ?_
  rotate_left
  · intro w'
    go_simp
    with_reducible rfl
  rotate_left
  · simp only [Act.put, List.setIfInBounds_toArray, List.set_cons_zero, List.set_cons_succ, i64_w, i32_w]
    rfl
  refine pure_ (i := 5) (N := some 39) (v := ?_) (a' := ?_) #[true, true, true, true, false, true, false, false, false, false, false, false, false, false, false, false, false, false] rfl rfl (by kernel_rfl) (fun _ _ _ h => h) (Or.inl ⟨by rfl, ?_⟩) ?_ ?_
  rotate_left
  · intro w'
    go_simp
    with_reducible rfl
  rotate_left
  · simp only [Act.put, List.setIfInBounds_toArray, List.set_cons_zero, List.set_cons_succ, i64_w, i32_w]
    rfl
  refine pure_ (i := 6) (N := some 40) (v := ?_) (a' := ?_) #[true, true, true, true, false, true, true, false, false, false, false, false, false, false, false, false, false, false] rfl rfl (by kernel_rfl) (fun _ _ _ h => h) (Or.inl ⟨by rfl, ?_⟩) ?_ ?_
  rotate_left
  · intro w'
    go_simp
    with_reducible rfl
  rotate_left
  · simp only [Act.put, List.setIfInBounds_toArray, List.set_cons_zero, List.set_cons_succ, i64_w, i32_w]
    rfl
  refine pure_ (i := 7) (N := some 41) (v := ?_) (a' := ?_) #[true, true, true, true, false, true, true, true, false, false, false, false, false, false, false, false, false, false] rfl rfl (by kernel_rfl) (fun _ _ _ h => h) (Or.inl ⟨by rfl, ?_⟩) ?_ ?_
  rotate_left
  · intro w'
    go_simp
    with_reducible rfl
  rotate_left
  · simp only [Act.put, List.setIfInBounds_toArray, List.set_cons_zero, List.set_cons_succ, i64_w, i32_w]
    rfl
  refine pure_ (i := 10) (N := some 44) (v := ?_) (a' := ?_) #[true, true, true, true, false, true, true, true, false, false, true, false, false, false, false, false, false, false] rfl rfl (by kernel_rfl) (fun _ _ _ h => h) (Or.inl ⟨by rfl, ?_⟩) ?_ ?_
  rotate_left
  · intro w'
    go_simp
    with_reducible rfl
  rotate_left
  · simp only [Act.put, List.setIfInBounds_toArray, List.set_cons_zero, List.set_cons_succ, i64_w, i32_w]
    rfl
  refine pure_ (i := 11) (N := some 45) (v := ?_) (a' := ?_) #[true, true, true, true, false, true, true, true, false, false, true, true, false, false, false, false, false, false] rfl rfl (by kernel_rfl) (fun _ _ _ h => h) (Or.inl ⟨by rfl, ?_⟩) ?_ ?_
  rotate_left
  · intro w'
    go_simp
    with_reducible rfl
  rotate_left
  · simp only [Act.put, List.setIfInBounds_toArray, List.set_cons_zero, List.set_cons_succ, i64_w, i32_w]
    rfl
  refine pure_ (i := 12) (N := some 46) (v := ?_) (a' := ?_) #[true, true, true, true, false, true, true, true, false, false, true, true, true, false, false, false, false, false] rfl rfl (by kernel_rfl) (fun _ _ _ h => h) (Or.inl ⟨by rfl, ?_⟩) ?_ ?_
  rotate_left
  · intro w'
    go_simp
    with_reducible rfl
  rotate_left
  · simp only [Act.put, List.setIfInBounds_toArray, List.set_cons_zero, List.set_cons_succ, i64_w, i32_w]
    rfl
  refine pure_ (i := 13) (N := some 47) (v := ?_) (a' := ?_) #[true, true, true, true, false, true, true, true, false, false, true, true, true, true, false, false, false, false] rfl rfl (by kernel_rfl) (fun _ _ _ h => h) (Or.inl ⟨by rfl, ?_⟩) ?_ ?_
  rotate_left
  · intro w'
    go_simp
    with_reducible rfl
  rotate_left
  · simp only [Act.put, List.setIfInBounds_toArray, List.set_cons_zero, List.set_cons_succ, i64_w, i32_w]
    rfl
  refine take_ (i := 4) (N := some 38) (v := ?_) (a' := ?_) #[true, true, true, true, true, true, true, true, false, false, true, true, true, true, false, false, false, false] rfl rfl (by kernel_rfl) (fun _ _ _ h => h) (Or.inl ⟨by rfl, ?_⟩) hHeld ?_ ?_
  rotate_left
  · rintro w' ⟨s0, s1, s2⟩
    go_simp
    with_reducible rfl
  rotate_left
  · simp only [Act.put, List.setIfInBounds_toArray, List.set_cons_zero, List.set_cons_succ, i64_w, i32_w]
    rfl
  refine take_ (i := 8) (N := some 42) (v := ?_) (a' := ?_) #[true, true, true, true, true, true, true, true, true, false, true, true, true, true, false, false, false, false] rfl rfl (by kernel_rfl) (fun _ _ _ h => h) (Or.inl ⟨by rfl, ?_⟩) hHeld ?_ ?_
  rotate_left
  · rintro w' ⟨s0, s1, s2⟩
    go_simp
    with_reducible rfl
  rotate_left
  · simp only [Act.put, List.setIfInBounds_toArray, List.set_cons_zero, List.set_cons_succ, i64_w, i32_w]
    rfl
  refine take_ (i := 14) (N := some 48) (v := ?_) (a' := ?_) #[true, true, true, true, true, true, true, true, true, false, true, true, true, true, true, false, false, false] rfl rfl (by kernel_rfl) (fun _ _ _ h => h) (Or.inl ⟨by rfl, ?_⟩) hHeld ?_ ?_
  rotate_left
  · rintro w' ⟨s0, s1, s2⟩
    go_simp
    with_reducible rfl
  rotate_left
  · simp only [Act.put, List.setIfInBounds_toArray, List.set_cons_zero, List.set_cons_succ, i64_w, i32_w]
    rfl
  refine one_ (i := 9) (N := some 43) #[true, true, true, true, true, true, true, true, true, true, true, true, true, true, true, false, false, false] rfl rfl (by kernel_rfl) (by decide) (fun K hK => ?_)
  refine goes_ Try.func35 (by kernel_rfl) rfl #[.slice Aw t.wait.length cw] (by rfl) rfl rfl (by simp only [List.map_toArray, List.map_cons, List.map_nil]; rfl) ?_
  with_reducible refine (copied_ok Aw cw t.wait _ (Kd.R_reads' (Kd.R_drew hW2.out)).2.2 hCW.out hWL.out hWM.out).mono ?_
  rintro e w3 ⟨v0, rfl, hv, hb⟩
  refine ⟨_, rfl, ?_⟩
  obtain ⟨Av, cv, rfl⟩ := Kd.R_slice hv
  have hB3 : Aside0 (Below w2.heap.size w2 w3) := Aside0.mk (below_then (below_drew (Below.refl _ _)) (Nat.le_refl _) hb)
  have hV := Aside0.mk (Kd.R_lower hv (show w.heap.size ≤ w2.drew.heap.size from hF2.out.size))
  have hg3 := Aside0.mk (blk_below hg2.out hB3.out)
  have hbx3 := Aside0.mk (blk_below hbx2.out hB3.out)
  have y0 : w3.cell? ⟨w.heap.size, 0, none⟩ = some (.int .i64 0) := blk_cell hbx3.out 0
  have y1 : w3.cell? ⟨w.heap.size, 1, none⟩ = some (.slice none 0 0) := blk_cell hbx3.out 1
  have y2 : w3.cell? ⟨w.heap.size, 2, none⟩ = some (.int .i64 0) := blk_cell hbx3.out 2
  have z0 : w3.frozen? ⟨w.heap.size, 0, none⟩ = false := blk_frozen hbx3.out 0
  have z1 : w3.frozen? ⟨w.heap.size, 1, none⟩ = false := blk_frozen hbx3.out 1
  have z2 : w3.frozen? ⟨w.heap.size, 2, none⟩ = false := blk_frozen hbx3.out 2
  clear hv hb
  refine hK.out _ _ ⟨blk_cell hg3.out 3, blk_cell hg3.out 6, blk_cell hg3.out 5⟩ (fun hHeld => ?_)
  clear hK K
  refine norm_ (a' := ?_) ?_ ?_
  rotate_left
  · show Act.put _ (some 43) _ = _
    simp only [Act.put, List.setIfInBounds_toArray, List.set_cons_zero, List.set_cons_succ, i64_w, i32_w]
    rfl
  refine pure_ (i := 15) (N := some 49) (v := ?_) (a' := ?_) #[true, true, true, true, true, true, true, true, true, true, true, true, true, true, true, true, false, false] rfl rfl (by kernel_rfl) (fun _ _ _ h => h) (Or.inl ⟨by rfl, ?_⟩) ?_ ?_
  rotate_left
  · intro w'
    go_simp
    with_reducible rfl
  rotate_left
  · simp only [Act.put, List.setIfInBounds_toArray, List.set_cons_zero, List.set_cons_succ, i64_w, i32_w]
    rfl
  refine last_ (i := 16) (N := none) #[true, true, true, true, true, true, true, true, true, true, true, true, true, true, true, true, true, false] rfl rfl (by kernel_rfl) (by decide) (fun K hK => ?_)
  refine skip_ (w1 := ?_) (by rfl) rfl ?_ ?_
  rotate_left
  · go_simp
    rfl
  refine hK.out _ _ ?_
  clear hK K
  refine pure_ (i := 17) (N := some 5) (v := ?_) (a' := ?_) #[true, true, true, true, true, true, true, true, true, true, true, true, true, true, true, true, true, true] rfl rfl (by kernel_rfl) (fun _ _ _ h => h) (Or.inl ⟨by rfl, ?_⟩) ?_ ?_
  rotate_left
  · intro w'
    go_simp
    with_reducible rfl
  rotate_left
  · simp only [Act.put, List.setIfInBounds_toArray, List.set_cons_zero, List.set_cons_succ, i64_w, i32_w]
    rfl
  refine done_ (by kernel_rfl) ?_
  have hV4 := Aside0.mk (Kd.R_far (Kd.R_far (Kd.R_far (Kd.R_types hV.out hbx3.out (by decide)) (p := ⟨w.heap.size, 0, none⟩) (fun k h => h.2) (.int .i64 t.done)) (p := ⟨w.heap.size, 1, none⟩) (fun k h => h.2) (.slice Av t.wait.length cv)) (p := ⟨w.heap.size, 2, none⟩) (fun k h => h.2) (.int .i64 t.heard))
  have hK4 : Aside0 (IsTk' w2 g S Sw Sg (.slice Aw t.wait.length cw) vg (ticked t now)) := Aside0.mk ⟨hT.out.own, hT.out.inw, hT.out.ing, hg2.out, hW2.out, hG2.out⟩
  have hF4 : Aside0 (Fr (fun k => k = w.heap.size) w2 (((w3.setCell ⟨w.heap.size, 0, none⟩ (.int .i64 t.done)).setCell ⟨w.heap.size, 1, none⟩ (.slice Av t.wait.length cv)).setCell ⟨w.heap.size, 2, none⟩ (.int .i64 t.heard))) :=
    Aside0.mk ((((Fr.of_below hB3.out).trans (Fr.setCell (S := fun k => k = w.heap.size) _ rfl _) (fun k h => .inl h)).trans (Fr.setCell (S := fun k => k = w.heap.size) _ rfl _) (fun k h => .inl h)).trans (Fr.setCell (S := fun k => k = w.heap.size) _ rfl _) (fun k h => .inl h))
  go_wp2
  exact bodyPost_ret (v := .tuple #[.agg #[.int .i64 t.done, .slice Av t.wait.length cv, .int .i64 t.heard], .bool true]) (by simp [results, Try.results19, go_sem, *]) rfl
    ⟨_, rfl, Kd.R_mono hV4.out (fun _ _ => trivial), ⟨_, _, _, _, hK4.out.frame hF4.out (fun k h e => by have := hSS.out k h; omega)⟩, hF2.out.trans hF4.out (fun k e => .inr (Nat.le_of_eq e.symm))⟩
/-- What goes out: the count, all that waits, what was heard. -/
theorem tick_yes (g : Nat) (S : Nat → Prop) (t : Tk) (now : Int) (w : World) (ht : IsTk w g S t) (hn : 0 ≤ now ∧ now < 2199023255552) (hl : 0 ≤ t.last ∧ t.last < 2199023255552) (hd : dueB t now = true)
    (hwl : t.wait.length < 1000000) (hwm : ∀ m ∈ t.wait, m.length < 140737488355328) :
    Calls Try.prog 19 #[.pointer (some ⟨g, 0, none⟩), .int .i64 now] w fun e w' => ∃ v : Value, e = .returned (.tuple #[.agg #[.int .i64 t.done, v, .int .i64 t.heard], .bool true]) ∧ kM.R 34 w' w.heap.size (fun _ => True) v t.wait ∧ IsTk w' g (fun k => S k ∧ k < w.heap.size) (ticked t now) ∧ Fr S w w' := by
  obtain ⟨Sw, Sg, vw, vg, ht⟩ := ht
  refine (tick_yes' g _ _ _ vw vg t now w ht.tight hn hl hd hwl hwm (fun k h => h.2)).mono ?_
  rintro e w' ⟨v, he, h1, h2, h3⟩
  exact ⟨v, he, h1, h2, h3.mono (fun k h => .inl h.1)⟩
end Go.Proofs.Yteeljnlhgaljaaa
