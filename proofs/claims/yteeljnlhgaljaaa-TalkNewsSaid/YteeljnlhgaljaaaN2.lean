/- By hand: TalkNews. -/
import Derived.Test.YteeljnlhgaljaaaG
import Derived.Test.YteeljnlhgaljaaaN1
import Derived.Test.YteeljnlhgaljaaaN0
namespace Go.Proofs.Yteeljnlhgaljaaa
set_option linter.unusedVariables false
set_option linter.unusedSimpArgs false
open Go.RowKit Go.Proofs.YteeljnlhgaljaaaW.PrintWords Go.Proofs.YteeljnlhgaljaaaW.PrintLast Go.Proofs.Yteeljnlhgaljaaa.P
theorem range_cases {most again : Int} (h : ¬ (1 ≤ most ∧ most ≤ 64 ∧ 1 ≤ again ∧ again ≤ 1000)) : decide (1 ≤ most) = false ∨ (decide (1 ≤ most) = true ∧ decide (most ≤ 64) = false) ∨ (decide (1 ≤ most) = true ∧ decide (most ≤ 64) = true ∧ decide (1 ≤ again) = false) ∨ (decide (1 ≤ most) = true ∧ decide (most ≤ 64) = true ∧ decide (1 ≤ again) = true ∧ decide (again ≤ 1000) = false) := by
  simp only [decide_eq_true_eq, decide_eq_false_iff_not]
  omega
set_option maxRecDepth 100000 in
set_option maxHeartbeats 2000000 in
theorem news_no (most again by_ : Int) (w : World) (h : ¬ (1 ≤ most ∧ most ≤ 64 ∧ 1 ≤ again ∧ again ≤ 1000)) :
    Calls Try.prog 10 #[.int .i64 most, .int .i64 again, .int .u8 by_] w fun e w' => e = .returned (.bool true) ∧ Below w.heap.size w w' := by
  have H := Aside0.mk h
  rcases range_cases h with k | ⟨k, k2⟩ | ⟨k, k2, k3⟩ | ⟨k, k2, k3, k4⟩ <;> clear h
  all_goals
    go_enter Try.func10, Try.ntmps10
    go_wp2_with fail
    refine (new_no most again _ H.out).mono ?_
    rintro e w1 ⟨rfl, rfl⟩
    go_wp2_with fail
    refine (tick_nil _ _).mono ?_
    rintro e w1 ⟨rfl, hb1⟩
    have HB1 := Aside0.mk hb1
    clear hb1
    go_wp2_with fail
    refine (told_any _).mono ?_
    rintro e w2 ⟨rfl, hb2⟩
    have HB2 := Aside0.mk (below_then (below_alloc HB1.out _) (below_alloc HB1.out _).size hb2)
    clear hb2
    go_wp2_with fail
    refine (say_nil _ _).mono ?_
    rintro e w3 ⟨rfl, rfl⟩
    go_wp2_with fail
    refine (hear_nil (.bool true) _).mono ?_
    rintro e w3 ⟨rfl, hb3⟩
    have HB3 : Aside0 (Below w.heap.size w w3) := Aside0.mk (by first | exact below_then HB2.out HB2.out.size hb3 | exact below_then (below_alloc HB2.out _) (below_alloc HB2.out _).size hb3)
    clear hb3
    go_wp2_with fail
    refine (got_nil _).mono ?_
    rintro e w4 ⟨rfl, rfl⟩
    go_wp2_with fail
    refine (idle_nil _).mono ?_
    rintro e w4 ⟨rfl, rfl⟩
    go_wp2_with fail
    refine (clone_nil _).mono ?_
    rintro e w4 ⟨rfl, rfl⟩
    go_wp2_with fail
    refine (same_nn _).mono ?_
    rintro e w4 ⟨rfl, rfl⟩
    go_wp2
    go_ret
    exact ⟨rfl, HB3.out⟩
set_option maxRecDepth 100000 in
set_option maxHeartbeats 2000000 in
theorem news_yes (most again by_ : Int) (w : World) (h : 1 ≤ most ∧ most ≤ 64 ∧ 1 ≤ again ∧ again ≤ 1000) :
    Calls Try.prog 10 #[.int .i64 most, .int .i64 again, .int .u8 by_] w fun e w' => e = .returned (.bool true) ∧ Below w.heap.size w w' := by
  have H := Aside0.mk h
  have k1 : decide (1 ≤ most) = true := decide_eq_true h.1
  have k2 : decide (most ≤ 64) = true := decide_eq_true h.2.1
  have k3 : decide (1 ≤ again) = true := decide_eq_true h.2.2.1
  have k4 : decide (again ≤ 1000) = true := decide_eq_true h.2.2.2
  clear h
  go_enter Try.func10, Try.ntmps10
  go_wp2_with fail
  refine (new_ok most again _ H.out).mono ?_
  rintro e w1 ⟨rfl, hk1, hb1⟩
  have HK1 := Aside0.mk hk1
  have HB1 := Aside0.mk hb1
  have HG := Aside0.mk (show w.heap.size < w1.heap.size by obtain ⟨_, _, _, _, h⟩ := hk1; exact blk_lt h.blk)
  clear hk1 hb1
  generalize hg : w.heap.size = g at HK1 HG ⊢
  have HGE := Aside0.mk hg
  clear hg
  go_wp2_with fail
  refine (tick_nil _ _).mono ?_
  rintro e w2 ⟨rfl, hb2⟩
  have HB2 := Aside0.mk (below_then HB1.out HB1.out.size hb2)
  have HK2 := Aside0.mk (HK1.out.below hb2)
  have HG2 := Aside0.mk (Nat.lt_of_lt_of_le HG.out hb2.size)
  clear hb2 HK1 HG HB1
  go_wp2_with fail
  refine (told_any _).mono ?_
  rintro e w3 ⟨rfl, hb3⟩
  have HB3 := Aside0.mk (below_then (below_alloc HB2.out _) (below_alloc HB2.out _).size hb3)
  have HK3 := Aside0.mk ((HK2.out.below (below_alloc (Below.refl _ _) _)).below hb3)
  have HG3 := Aside0.mk (Nat.lt_of_lt_of_le HG2.out (Nat.le_trans (below_alloc (Below.refl _ _) _).size hb3.size))
  clear hb3 HK2 HG2 HB2
  go_wp2_with fail
  refine (say_nil _ _).mono ?_
  rintro e w3 ⟨rfl, rfl⟩
  go_wp2_with fail
  refine (hear_nil (.bool true) _).mono ?_
  rintro e w4 ⟨rfl, hb4⟩
  have HB4 := Aside0.mk (below_then HB3.out HB3.out.size hb4)
  have HK4 := Aside0.mk (HK3.out.below hb4)
  have HG4 := Aside0.mk (Nat.lt_of_lt_of_le HG3.out hb4.size)
  clear hb4 HK3 HG3 HB3
  go_wp2_with fail
  refine (got_nil _).mono ?_
  rintro e w5 ⟨rfl, rfl⟩
  go_wp2_with fail
  refine (idle_nil _).mono ?_
  rintro e w5 ⟨rfl, rfl⟩
  go_wp2_with fail
  refine (clone_nil _).mono ?_
  rintro e w5 ⟨rfl, rfl⟩
  go_wp2_with fail
  refine (same_nn _).mono ?_
  rintro e w5 ⟨rfl, rfl⟩
  go_wp2_with fail
  refine (same_nt _ _).mono ?_
  rintro e w5 ⟨rfl, rfl⟩
  go_wp2_with fail
  generalize hw5 : w4.alloc _ = w5
  have X5 := hw5 ▸ blk_new w4 (.cells #[.int .u8 1, .int .u8 2] 5)
  have hb5 := hw5 ▸ below_alloc (Below.refl w4.heap.size w4) (.cells #[.int .u8 1, .int .u8 2] 5)
  have HB5 := Aside0.mk (below_then HB4.out HB4.out.size hb5)
  have HK5 := Aside0.mk (HK4.out.below hb5)
  generalize w4.heap.size = M at X5 HG4 ⊢
  have X5 := Aside0.mk X5
  clear hw5 hb5 HK4 HB4
  refine (say_ok g _ _ _ 2 [1, 2] _ HK5.out (lits_reads (l := [1, 2]) X5.out (by decide)) (by simp) (by simp) (by have := H.out.1; simp; omega) (by simpa using H.out.2.1) (by simp)).mono ?_
  rintro e w6 ⟨S6, rfl, hk6, hs6, hf6⟩
  have HK6 : Aside0 (IsTk w6 g S6 ⟨most, again, 1, 0, 0, 0, [[1, 2]], [], 0, false, false⟩) := Aside0.mk hk6
  have HM6 := Aside0.mk (fun (h : S6 M) => (hs6 M h).elim (fun e => Nat.ne_of_gt HG4.out e) (fun e => Nat.not_lt.2 e (blk_lt X5.out)))
  have X6 := Aside0.mk ((hf6.block M (blk_lt X5.out) (fun e => Nat.ne_of_gt HG4.out e)).trans X5.out)
  have HS6 := Aside0.mk (fun k (h : S6 k) => (hs6 k h).elim (fun e => Nat.le_of_eq (HGE.out.trans e.symm)) (fun e => Nat.le_trans HB5.out.size e))
  have HW6 := Aside0.mk (Nat.lt_of_le_of_lt (Nat.le_of_eq HGE.out) HG4.out)
  have HB6 : Aside0 (Below w.heap.size w w6) := Aside0.mk (Fr.below HB5.out HB5.out.size hf6 (fun k e => Nat.le_of_eq (HGE.out.trans e.symm)))
  have x0 : w6.cell? ⟨M, 0, none⟩ = some (.int .u8 1) := blk_cell X6.out 0
  have f0 : w6.frozen? ⟨M, 0, none⟩ = false := blk_frozen X6.out 0
  clear hk6 hs6 hf6 HK5
  go_wp2_with fail
  clear x0 f0
  have hf7 : Fr (fun k => k = M) w6 (w6.setCell ⟨M, 0, none⟩ (.int .u8 ((1 + by_) % 256))) := Fr.setCell (S := fun k => k = M) _ rfl _
  have HB7 := Aside0.mk (Fr.below HB6.out HB6.out.size hf7 (fun k e => e.symm ▸ Nat.le_of_lt HW6.out))
  generalize w6.setCell ⟨M, 0, none⟩ (.int .u8 ((1 + by_) % 256)) = w7 at hf7 HB7 ⊢
  have HK7 := Aside0.mk (HK6.out.frame hf7 (fun k hk e => HM6.out (e ▸ hk)))
  clear hf7 HK6 X6 HB6 X5 HB5
  refine (tick_yes g _ _ 0 _ HK7.out (by simp) (by simp) (by simp [dueB]) (by simp) (by simp)).mono ?_
  rintro e w8 ⟨v8, rfl, hv8, hk8, hf8⟩
  have HK8 : Aside0 (IsTk w8 g (fun k => S6 k ∧ k < w7.heap.size) ⟨most, again, 1, 0, 1, 0, [[1, 2]], [], 0, true, false⟩) := Aside0.mk hk8
  have HB8 := Aside0.mk (Fr.below HB7.out HB7.out.size hf8 HS6.out)
  have HZ := Aside0.mk HB7.out.size
  obtain ⟨b, c, cur, rfl, hok, hge, hblk, hel⟩ := row_cells hv8 (by simp)
  obtain ⟨u, hu, hR⟩ := hel 0 [1, 2] rfl
  obtain ⟨b', c', cur', rfl, hok', hge', hblk', hel'⟩ := byte_cells hR (by simp)
  have hu' := hel' 1 2 rfl
  have HV8 := Aside0.mk hv8
  have X8 := Aside0.mk hblk
  have X8' := Aside0.mk hblk'
  have HU := Aside0.mk hu
  have HU' := Aside0.mk hu'
  have HE := Aside0.mk hge
  have HE' := Aside0.mk hge'
  clear hv8 hk8 hf8 hok hge hblk hel hu hR hok' hge' hblk' hel' hu' HK7 HB7
  go_wp2_with fail
  generalize hz : ((w8.alloc _).alloc _).alloc _ = w9
  have hb9 : Below w8.heap.size w8 w9 := hz ▸ below_alloc (below_alloc (below_alloc (Below.refl _ _) _) _) _
  have P9 : w9.heap[w8.heap.size]? = some (.cells #[.int .i64 0, .slice (some ⟨b, 0, none⟩) 1 c, .int .i64 0] 36 (0, 0)) := hz ▸ blk_alloc (blk_alloc (blk_new w8 _) _) _
  have L0 : w9.heap[w8.heap.size + 1]? = some (.cells #[.int .u8 1, .int .u8 2] 5 (0, 0)) := by
    rw [← hz]
    refine blk_alloc ?_ _
    have := blk_new (w8.alloc (Obj.cells #[Value.int IntKind.i64 0, Value.slice (some { block := b, off := 0 }) 1 c, Value.int IntKind.i64 0] 36)) (Obj.cells #[Value.int IntKind.u8 1, Value.int IntKind.u8 2] 5)
    simpa using this
  have L1 : w9.heap[w8.heap.size + 1 + 1]? = some (.cells #[.slice (some ⟨w8.heap.size + 1, 0, none⟩) 2 2] 34 (0, 0)) := by
    rw [← hz]
    have := blk_new ((w8.alloc (Obj.cells #[Value.int IntKind.i64 0, Value.slice (some { block := b, off := 0 }) 1 c, Value.int IntKind.i64 0] 36)).alloc (Obj.cells #[Value.int IntKind.u8 1, Value.int IntKind.u8 2] 5)) (Obj.cells #[Value.slice (some { block := w8.heap.size + 1, off := 0 }) 2 2] 34)
    simpa using this
  refine (same_any _ c [[1, 2]] _ 1 [[1, 2]] w9 (Kd.R_reads' (Kd.R_below HV8.out hb9)).2.2 (lits_rows (l := [1, 2]) L0 L1 (by decide) (by decide)) (by decide)).mono ?_
  rintro e w10 ⟨rfl, ⟨nd, rfl⟩⟩
  rw [sameL_refl]
  have hb10 : Below w8.heap.size w8 (w9.drewN nd) := pw_below_drewN hb9 nd
  have P10 := Aside0.mk (blk_below P9 (pw_below_drewN (Below.refl _ _) nd))
  generalize w9.drewN nd = w10 at hb10 P10 ⊢
  have HB10 := Aside0.mk (below_then HB8.out HB8.out.size hb10)
  have HK10 := Aside0.mk (HK8.out.below hb10)
  have X10 := Aside0.mk (blk_below X8.out hb10)
  have X10' := Aside0.mk (blk_below X8'.out hb10)
  have HZ8 := Aside0.mk (show w.heap.size ≤ w8.heap.size from HB8.out.size)
  clear hz hb9 P9 L0 L1 hb10 HV8 X8 X8' HB8 HK8
  generalize w8.heap.size = pb at P10 HZ8 ⊢
  have y0 : w10.cell? ⟨pb, 1, none⟩ = some (.slice (some ⟨b, 0, none⟩) 1 c) := blk_cell P10.out 1
  have y1 : w10.cell? ⟨b, 0, none⟩ = some (.slice (some ⟨b', 0, none⟩) 2 c') := (blk_cell X10.out 0).trans HU.out
  have y2 : w10.cell? ⟨b', 1, none⟩ = some (.int .u8 2) := (blk_cell X10'.out 1).trans HU'.out
  have y3 : w10.frozen? ⟨b', 1, none⟩ = false := blk_frozen X10'.out 1
  go_wp2_with fail
  refine start_ (n := 14) (S := fun w' => w'.cell? ⟨pb, 1, none⟩ = some (.slice (some ⟨b, 0, none⟩) 1 c) ∧ w'.cell? ⟨b, 0, none⟩ = some (.slice (some ⟨b', 0, none⟩) 2 c') ∧ w'.cell? ⟨b', 1, none⟩ = some (.int .u8 2)) (ds := [13]) #[false, false, false, false, false, false, false, false, false, false, false, false, false, false] (by kernel_rfl) rfl rfl ⟨y0, y1, y2⟩ (fun hHeld => ?_)
  refine pure_ (i := 0) (N := some 129) (v := ?_) (a' := ?_) #[true, false, false, false, false, false, false, false, false, false, false, false, false, false] rfl rfl (by kernel_rfl) (fun _ _ _ h => h) (Or.inl ⟨by rfl, ?_⟩) ?_ ?_
  rotate_left
  · intro w'
    go_simp
    with_reducible rfl
  rotate_left
  · simp only [Act.put, List.setIfInBounds_toArray, List.set_cons_zero, List.set_cons_succ, i64_w, i32_w]
    rfl
  refine pure_ (i := 4) (N := some 133) (v := ?_) (a' := ?_) #[true, false, false, false, true, false, false, false, false, false, false, false, false, false] rfl rfl (by kernel_rfl) (fun _ _ _ h => h) (Or.inl ⟨by rfl, ?_⟩) ?_ ?_
  rotate_left
  · intro w'
    go_simp
    with_reducible rfl
  rotate_left
  · simp only [Act.put, List.setIfInBounds_toArray, List.set_cons_zero, List.set_cons_succ, i64_w, i32_w]
    rfl
  refine pure_ (i := 10) (N := some 139) (v := ?_) (a' := ?_) #[true, false, false, false, true, false, false, false, false, false, true, false, false, false] rfl rfl (by kernel_rfl) (fun _ _ _ h => h) (Or.inl ⟨by rfl, ?_⟩) ?_ ?_
  rotate_left
  · intro w'
    go_simp
    with_reducible rfl
  rotate_left
  · simp only [Act.put, List.setIfInBounds_toArray, List.set_cons_zero, List.set_cons_succ, i64_w, i32_w]
    rfl
  refine take_ (i := 1) (N := some 130) (v := ?_) (a' := ?_) #[true, true, false, false, true, false, false, false, false, false, true, false, false, false] rfl rfl (by kernel_rfl) (fun _ _ _ h => h) (Or.inl ⟨by rfl, ?_⟩) hHeld ?_ ?_
  rotate_left
  · rintro w' ⟨s0, s1, s2⟩
    go_simp
    with_reducible rfl
  rotate_left
  · simp only [Act.put, List.setIfInBounds_toArray, List.set_cons_zero, List.set_cons_succ, i64_w, i32_w]
    rfl
  refine pure_ (i := 2) (N := some 131) (v := ?_) (a' := ?_) #[true, true, true, false, true, false, false, false, false, false, true, false, false, false] rfl rfl (by kernel_rfl) (fun _ _ _ h => h) (Or.inl ⟨by rfl, ?_⟩) ?_ ?_
  rotate_left
  · intro w'
    go_simp
    with_reducible rfl
  rotate_left
  · simp only [Act.put, List.setIfInBounds_toArray, List.set_cons_zero, List.set_cons_succ, i64_w, i32_w]
    rfl
  refine take_ (i := 3) (N := some 132) (v := ?_) (a' := ?_) #[true, true, true, true, true, false, false, false, false, false, true, false, false, false] rfl rfl (by kernel_rfl) (fun _ _ _ h => h) (Or.inl ⟨by rfl, ?_⟩) hHeld ?_ ?_
  rotate_left
  · rintro w' ⟨s0, s1, s2⟩
    go_simp
    with_reducible rfl
  rotate_left
  · simp only [Act.put, List.setIfInBounds_toArray, List.set_cons_zero, List.set_cons_succ, i64_w, i32_w]
    rfl
  refine take_ (i := 5) (N := some 134) (v := ?_) (a' := ?_) #[true, true, true, true, true, true, false, false, false, false, true, false, false, false] rfl rfl (by kernel_rfl) (fun _ _ _ h => h) (Or.inl ⟨by rfl, ?_⟩) hHeld ?_ ?_
  rotate_left
  · rintro w' ⟨s0, s1, s2⟩
    go_simp
    with_reducible rfl
  rotate_left
  · simp only [Act.put, List.setIfInBounds_toArray, List.set_cons_zero, List.set_cons_succ, i64_w, i32_w]
    rfl
  refine pure_ (i := 6) (N := some 135) (v := ?_) (a' := ?_) #[true, true, true, true, true, true, true, false, false, false, true, false, false, false] rfl rfl (by kernel_rfl) (fun _ _ _ h => h) (Or.inl ⟨by rfl, ?_⟩) ?_ ?_
  rotate_left
  · intro w'
    go_simp
    with_reducible rfl
  rotate_left
  · simp only [Act.put, List.setIfInBounds_toArray, List.set_cons_zero, List.set_cons_succ, i64_w, i32_w]
    rfl
  refine take_ (i := 7) (N := some 136) (v := ?_) (a' := ?_) #[true, true, true, true, true, true, true, true, false, false, true, false, false, false] rfl rfl (by kernel_rfl) (fun _ _ _ h => h) (Or.inl ⟨by rfl, ?_⟩) hHeld ?_ ?_
  rotate_left
  · rintro w' ⟨s0, s1, s2⟩
    go_simp
    with_reducible rfl
  rotate_left
  · simp only [Act.put, List.setIfInBounds_toArray, List.set_cons_zero, List.set_cons_succ, i64_w, i32_w]
    rfl
  refine pure_ (i := 8) (N := some 137) (v := ?_) (a' := ?_) #[true, true, true, true, true, true, true, true, true, false, true, false, false, false] rfl rfl (by kernel_rfl) (fun _ _ _ h => h) (Or.inl ⟨by rfl, ?_⟩) ?_ ?_
  rotate_left
  · intro w'
    go_simp
    with_reducible rfl
  rotate_left
  · simp only [Act.put, List.setIfInBounds_toArray, List.set_cons_zero, List.set_cons_succ, i64_w, i32_w]
    rfl
  refine take_ (i := 9) (N := some 138) (v := ?_) (a' := ?_) #[true, true, true, true, true, true, true, true, true, true, true, false, false, false] rfl rfl (by kernel_rfl) (fun _ _ _ h => h) (Or.inl ⟨by rfl, ?_⟩) hHeld ?_ ?_
  rotate_left
  · rintro w' ⟨s0, s1, s2⟩
    go_simp
    with_reducible rfl
  rotate_left
  · simp only [Act.put, List.setIfInBounds_toArray, List.set_cons_zero, List.set_cons_succ, i64_w, i32_w]
    rfl
  refine pure_ (i := 11) (N := some 140) (v := ?_) (a' := ?_) #[true, true, true, true, true, true, true, true, true, true, true, true, false, false] rfl rfl (by kernel_rfl) (fun _ _ _ h => h) (Or.inl ⟨by rfl, ?_⟩) ?_ ?_
  rotate_left
  · intro w'
    go_simp
    with_reducible rfl
  rotate_left
  · simp only [Act.put, List.setIfInBounds_toArray, List.set_cons_zero, List.set_cons_succ, i64_w, i32_w]
    rfl
  refine pure_ (i := 12) (N := some 141) (v := ?_) (a' := ?_) #[true, true, true, true, true, true, true, true, true, true, true, true, true, false] rfl rfl (by kernel_rfl) (fun _ _ _ h => h) (Or.inl ⟨by rfl, ?_⟩) ?_ ?_
  rotate_left
  · intro w'
    go_simp
    with_reducible rfl
  rotate_left
  · simp only [Act.put, List.setIfInBounds_toArray, List.set_cons_zero, List.set_cons_succ, i64_w, i32_w]
    rfl
  refine last_ (i := 13) (N := none) #[true, true, true, true, true, true, true, true, true, true, true, true, true, true] rfl rfl (by kernel_rfl) (by decide) (fun K hK => ?_)
  refine skip_ (w1 := ?_) (by rfl) rfl ?_ ?_
  rotate_left
  · go_simp
    rfl
  refine hK.out _ _ ?_
  clear hK K
  refine done_ (by kernel_rfl) ?_
  go_wp2_with fail
  clear y0 y1 y2 y3
  have hf11 : Fr (fun k => k = b') w10 (w10.setCell ⟨b', 1, none⟩ (.int .u8 ((2 + by_) % 256))).drew := (Fr.setCell (S := fun k => k = b') _ rfl _).trans (Fr.drew (S := fun _ => False) _) (fun k h => h.elim)
  generalize (w10.setCell ⟨b', 1, none⟩ (.int .u8 ((2 + by_) % 256))).drew = w11 at hf11 ⊢
  have HK11 := Aside0.mk (HK10.out.frame hf11 (fun k hk e => by have := HE'.out; have := hk.2; omega))
  have HB11 := Aside0.mk (Fr.below HB10.out HB10.out.size hf11 (fun k e => by have := HE'.out; have := HZ.out; omega))
  clear hf11 HK10 HB10
  refine (tick_yes g _ _ 5000 _ HK11.out (by simp) (by simp) (by have := H.out; simp [dueB]; omega) (by simp) (by simp)).mono ?_
  rintro e w12 ⟨v12, rfl, hv12, hk12, hf12⟩
  have HB12 := Aside0.mk (Fr.below HB11.out HB11.out.size hf12 (fun k hk => HS6.out k hk.1))
  have HV12 := Aside0.mk hv12
  obtain ⟨A12, c12, rfl⟩ := Kd.R_slice hv12
  clear hv12 hk12 hf12
  go_wp2_with fail
  generalize hz : ((w12.alloc _).alloc _).alloc _ = w13
  have hb13 : Below w12.heap.size w12 w13 := hz ▸ below_alloc (below_alloc (below_alloc (Below.refl _ _) _) _) _
  have L0 : w13.heap[w12.heap.size + 1]? = some (.cells #[.int .u8 1, .int .u8 2] 5 (0, 0)) := by
    rw [← hz]
    refine blk_alloc ?_ _
    have := blk_new (w12.alloc (Obj.cells #[Value.int IntKind.i64 0, Value.slice A12 1 c12, Value.int IntKind.i64 0] 36)) (Obj.cells #[Value.int IntKind.u8 1, Value.int IntKind.u8 2] 5)
    simpa using this
  have L1 : w13.heap[w12.heap.size + 1 + 1]? = some (.cells #[.slice (some ⟨w12.heap.size + 1, 0, none⟩) 2 2] 34 (0, 0)) := by
    rw [← hz]
    have := blk_new ((w12.alloc (Obj.cells #[Value.int IntKind.i64 0, Value.slice A12 1 c12, Value.int IntKind.i64 0] 36)).alloc (Obj.cells #[Value.int IntKind.u8 1, Value.int IntKind.u8 2] 5)) (Obj.cells #[Value.slice (some { block := w12.heap.size + 1, off := 0 }) 2 2] 34)
    simpa using this
  refine (same_any _ c12 [[1, 2]] _ 1 [[1, 2]] w13 (Kd.R_reads' (Kd.R_below HV12.out hb13)).2.2 (lits_rows (l := [1, 2]) L0 L1 (by decide) (by decide)) (by decide)).mono ?_
  rintro e w14 ⟨rfl, ⟨nd, rfl⟩⟩
  rw [sameL_refl]
  have HB14 := Aside0.mk (below_then HB12.out HB12.out.size (pw_below_drewN hb13 nd))
  clear hz hb13 L0 L1
  go_wp2
  go_ret
  exact ⟨rfl, HB14.out⟩
theorem news_any (most again by_ : Int) (w : World) :
    Calls Try.prog 10 #[.int .i64 most, .int .i64 again, .int .u8 by_] w fun e w' => e = .returned (.bool true) ∧ Below w.heap.size w w' := by
  by_cases h : 1 ≤ most ∧ most ≤ 64 ∧ 1 ≤ again ∧ again ≤ 1000
  · exact news_yes most again by_ w h
  · exact news_no most again by_ w h
end Go.Proofs.Yteeljnlhgaljaaa
