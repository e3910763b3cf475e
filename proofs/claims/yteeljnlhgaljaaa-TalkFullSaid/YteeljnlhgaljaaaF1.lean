/- By hand: TalkFull. -/
import Derived.Test.YteeljnlhgaljaaaC5
namespace Go.Proofs.Yteeljnlhgaljaaa
set_option linter.unusedVariables false
set_option linter.unusedSimpArgs false
open Go.RowKit Go.Proofs.YteeljnlhgaljaaaW.PrintWords Go.Proofs.YteeljnlhgaljaaaW.PrintLast Go.Proofs.YteeljnlhgaljaaaW.PrintMore Go.Proofs.Yteeljnlhgaljaaa.P
attribute [local go_sem] min2_int min_two   -- for this text's walks alone
theorem mod_in (n x : Int) (h0 : 1 ≤ n) (h1 : n ≤ 1000) : 0 ≤ wrap64 ((IntKind.u64.wrap x).tmod n) ∧ wrap64 ((IntKind.u64.wrap x).tmod n) < n := by
  have hu : 0 ≤ IntKind.u64.wrap x := Int.emod_nonneg x (by decide)
  have h2 := Int.tmod_nonneg n hu
  have h3 := Int.tmod_lt_of_pos (IntKind.u64.wrap x) (show (0 : Int) < n by omega)
  generalize (IntKind.u64.wrap x).tmod n = z at *
  unfold wrap64
  omega
abbrev fullTk (most again : Int) (k : Nat) : Tk := ⟨most, again, k, 0, 0, 0, wordsL 0 k, [], 0, false, false⟩
theorem same_nil0 (A : Option Addr) (c : Nat) (w : World) (h : Kd.C kM w A ([] : List (List Int)).length []) : Calls Try.prog 17 #[.slice none 0 0, .slice A 0 c] w fun e w' => e = .returned (.bool true) ∧ Drawn0 w w' := by
  have := same_any none 0 [] A c [] w (Kd.C_nil kM w) h (by simp)
  rwa [sameL_refl] at this
theorem lists_zero (w : World) : Calls Try.prog 18 #[.int .u8 0, .int .i64 0] w fun e w' => ∃ A c, e = .returned (.slice A 0 c) ∧ Kd.C kM w' A ([] : List (List Int)).length [] ∧ Below w.heap.size w w' := lists_ok 0 0 (by omega) w
set_option maxRecDepth 100000 in
set_option maxHeartbeats 4000000 in
theorem full_any (a b many long : Int) (w : World) :
    Calls Try.prog 8 #[.agg #[.int .i64 a, .int .i64 b], .int .i64 many, .int .i64 long] w fun e w' => e = .returned (.bool true) ∧ Below w.heap.size w w' := by
  go_enter Try.func8, Try.ntmps8
  go_wp2_with fail
  refine (begin_ok a b _).mono ?_
  rintro e w1 ⟨g, rfl, hk1, hg, hb1⟩
  have hcap64 := capOf_in 64 a (by omega) (by omega)
  have hcapn := capOf_in 1000 b (by omega) (by omega)
  generalize capOf 64 a = most at hk1 hcap64 ⊢
  generalize capOf 1000 b = again at hk1 hcapn ⊢
  have HA := Aside0.mk hcap64
  have HN := Aside0.mk hcapn
  have HB1 := Aside0.mk (below_then (below_alloc (Below.refl _ _) _) (below_alloc (Below.refl w.heap.size w) _).size hb1)
  have HK1 := Aside0.mk hk1
  have HG := Aside0.mk (show w.heap.size ≤ g from Nat.le_trans (below_alloc (Below.refl w.heap.size w) _).size hg)
  clear hk1 hcap64 hcapn hg hb1
  go_wp2_with fail
  refine (told_any _).mono ?_
  rintro e w2 ⟨rfl, hb2⟩
  have hbx2 := blk_below (blk_new w1 _) hb2
  have HK2 := Aside0.mk ((HK1.out.below (below_alloc (Below.refl _ _) _)).below hb2)
  have HB2 := Aside0.mk (below_then (below_then HB1.out HB1.out.size (below_alloc (Below.refl _ _) _)) (by simp; have := HB1.out.size; omega) hb2)
  have HR := Aside0.mk (show w.heap.size ≤ w1.heap.size from HB1.out.size)
  have HGR := Aside0.mk (show g < w1.heap.size by obtain ⟨_, _, _, _, h⟩ := HK1.out; exact blk_lt h.blk)
  generalize w1.heap.size = rb at hbx2 HR HGR ⊢
  have HX2 := Aside0.mk hbx2
  clear hb2 hbx2 HK1 HB1
  go_wp2_with fail
  obtain ⟨hn0, hn1⟩ := mod_in 80 many (by omega) (by omega)
  generalize hz : wrap64 ((IntKind.u64.wrap many).tmod 80) = z at hn0 hn1 ⊢
  clear hz
  obtain ⟨n, rfl⟩ := Int.eq_ofNat_of_zero_le hn0
  have HN80 := Aside0.mk (show n < 80 by omega)
  clear hn0 hn1
  obtain ⟨mm, hmm⟩ := Int.eq_ofNat_of_zero_le (show 0 ≤ most by have := HA.out.1; omega)
  subst hmm
  have HA2 := Aside0.mk (show 1 ≤ mm ∧ mm ≤ 64 by have := HA.out; omega)
  clear HA
  go_loopw [10, 11] (fun v10 v11 wr => ∃ (k : Nat) (S : Nat → Prop), v10 = .int .i64 (k : Int) ∧ Aside0 (k ≤ n) ∧ Aside0 (IsTk wr g S (fullTk mm again (min k mm))) ∧ Aside0 (∀ k, S k → w.heap.size ≤ k) ∧ Aside0 (S rb → False) ∧ Aside0 (wr.heap[rb]? = some (.cells #[.int .i64 mm, .int .i64 again, .slice none 0 0, .int .i64 0, .int .i64 0, .slice none 0 0, .int .i64 0, .int .i64 0, .bool false, .bool false] 27 (0, 0))) ∧ Aside0 (Below w.heap.size w wr)) (fun v10 v11 wr => n - (intOf v10).toNat)
  case atStart => exact ⟨0, fun k => k = g, rfl, ⟨Nat.zero_le _⟩, ⟨by rw [show fullTk (mm : Int) again (min 0 mm) = newTk mm again by simp [fullTk, newTk, wordsL]]; exact HK2.out⟩, ⟨fun k e => e ▸ HG.out⟩, ⟨fun e => Nat.ne_of_gt HGR.out e⟩, HX2, HB2⟩
  case round =>
    clear HK2 HX2 HB2
    obtain ⟨k, S, rfl, HI, HK, HS, HSR, HX, HB⟩ := hrel
    by_cases hlt : k < n
    · have h1 : decide ((k : Int) < (n : Int)) = true := decide_eq_true (by omega)
      have h1p : (k : Int) < (n : Int) := by omega
      go_wp2_with fail
      refine (word_ok 0 k (by have := HN80.out; omega) _).mono ?_
      rintro e w3 ⟨A3, c3, rfl, hC3, hc3, hb3⟩
      have HK3 := Aside0.mk (HK.out.below hb3)
      have HX3 := Aside0.mk (blk_below HX.out hb3)
      have HB3 := Aside0.mk (below_then HB.out HB.out.size hb3)
      have HC3 := Aside0.mk hC3
      have HRL := Aside0.mk (show rb < w3.heap.size from blk_lt HX3.out)
      have HH3 := Aside0.mk hc3
      have HKN := Aside0.mk hlt
      have hkw : wrap64 ((k : Int) + 1) = (k : Int) + 1 := by have := HN80.out; unfold wrap64; omega
      have hkw2 : IntKind.i64.wrap ((k : Int) + 1) = (k : Int) + 1 := IntWalk.i64_in _ (by have := HN80.out; omega)
      have hk80 : k < 80 := by have := HN80.out; omega
      clear hb3 hC3 hc3 HK HX HB h1 h1p hlt
      go_wp2_with fail
      by_cases hkm : k < mm
      · have hmin : min k mm = k := by omega
        have h2 : decide ((k : Int) < (mm : Int)) = true := decide_eq_true (by omega)
        have h2p : (k : Int) < (mm : Int) := by omega
        rw [hmin] at HK3
        refine (say_ok g S _ A3 c3 (wordL 0 k) _ HK3.out HC3.out HH3.out (by simp [wordL]) (by simp [wordsL_len]; omega) (by have := HA2.out; simp; omega) (by simp; omega)).mono ?_
        rintro e w4 ⟨S4, rfl, hk4, hs4, hf4⟩
        have HK4 : Aside0 (IsTk w4 g S4 (fullTk mm again (min (k + 1) mm))) := Aside0.mk (by
          rw [show min (k + 1) mm = k + 1 by omega]
          have : fullTk (mm : Int) again (k + 1) = { fullTk (mm : Int) again k with wait := wordsL 0 k ++ [wordL 0 k], said := (k : Int) + 1 } := by simp [fullTk, wordsL_succ]
          rw [this]
          exact hk4)
        have HS4 := Aside0.mk (fun j (h : S4 j) => (hs4 j h).elim (HS.out j) (fun e => Nat.le_trans HB3.out.size e))
        have HX4 := Aside0.mk ((hf4.block rb HRL.out HSR.out).trans HX3.out)
        have HSR4 := Aside0.mk (fun (h : S4 rb) => (hs4 rb h).elim HSR.out (fun e => Nat.not_lt.2 e HRL.out))
        have HB4 := Aside0.mk (Fr.below HB3.out HB3.out.size hf4 HS.out)
        have y0 : w4.cell? ⟨rb, 0, none⟩ = some (.int .i64 mm) := blk_cell HX4.out 0
        clear hk4 hs4 hf4 HK3 HB3 HX3 hmin hkm
        go_wp2
        go_roundw
        case rel => exact ⟨k + 1, S4, by go_num, ⟨HKN.out⟩, HK4, HS4, HSR4, HX4, HB4⟩
        case measure => simp [intOf]; have := HKN.out; omega
      · have hmin : min k mm = mm := by omega
        have h2 : decide ((k : Int) < (mm : Int)) = false := decide_eq_false (by omega)
        have h2p : ¬ (k : Int) < (mm : Int) := by omega
        have h3 : decide ((mm : Int) ≤ (k : Int)) = true := decide_eq_true (by omega)
        have h3p : (mm : Int) ≤ (k : Int) := by omega
        rw [hmin] at HK3
        refine (say_full g S _ A3 3 c3 _ HK3.out (by omega) (by simp [wordsL_len])).mono ?_
        rintro e w4 ⟨rfl, hb4⟩
        have HK4 : Aside0 (IsTk w4 g S (fullTk mm again (min (k + 1) mm))) := Aside0.mk (by
          rw [show min (k + 1) mm = mm by omega]
          exact HK3.out.below hb4)
        have HX4 := Aside0.mk (blk_below HX3.out hb4)
        have HB4 := Aside0.mk (below_then HB3.out HB3.out.size hb4)
        have y0 : w4.cell? ⟨rb, 0, none⟩ = some (.int .i64 mm) := blk_cell HX4.out 0
        clear hb4 HK3 HB3 HX3 hmin hkm
        go_wp2
        go_roundw
        case rel => exact ⟨k + 1, S, by go_num, ⟨HKN.out⟩, HK4, HS, HSR, HX4, HB4⟩
        case measure => simp [intOf]; have := HKN.out; omega
    · obtain rfl : k = n := by have := HI.out; omega
      have h1 : decide ((k : Int) < (k : Int)) = false := decide_eq_false (by omega)
      clear hlt
      go_wp2_with fail
      have hwl : (wordsL 0 (min k mm)).length < 1000000 := by rw [wordsL_len]; have := HA2.out; omega
      have hwm : ∀ m ∈ wordsL 0 (min k mm), m.length < 140737488355328 := by
        intro m hm
        simp only [wordsL, List.mem_map] at hm
        obtain ⟨i, -, rfl⟩ := hm
        simp [wordL]
      have HWL := Aside0.mk hwl
      have HWM := Aside0.mk hwm
      clear hwl hwm
      refine (clone_ok g S _ _ HK.out HWL.out HWM.out (by simp) (by simp)).mono ?_
      rintro e w4 ⟨g', rfl, hg', hk4', hb4⟩
      have HK4 := Aside0.mk (HK.out.below hb4)
      have HKC := Aside0.mk hk4'
      have HX4 := Aside0.mk (blk_below HX.out hb4)
      have HB4 := Aside0.mk (below_then HB.out HB.out.size hb4)
      clear hb4 hk4' hg' HK HX HB h1
      obtain ⟨hl0, hl1⟩ := mod_in 10 long (by omega) (by omega)
      generalize hz : wrap64 ((IntKind.u64.wrap long).tmod 10) = z at hl0 hl1
      obtain ⟨nn, hnn⟩ : ∃ nn : Nat, (nn : Int) = 4097 + z := ⟨(4097 + z).toNat, by omega⟩
      have hmk : ∀ W : World, (Instr.makeSlice 34 (.int .i64 (4097 + z)) (.int .i64 (4097 + z))).run Try.prog W = .ok (.slice (some ⟨W.heap.size, 0, none⟩) nn nn) (W.alloc (.cells (madeCells #[.int .u8 0] nn) 5)) := fun W => by
        rw [← hnn]
        exact run_make_row' (P := Try.prog) 34 5 (.int .u8 0) 1 Try.underlying34 info5' rfl .i64 .i64 nn (by omega) (by omega) W
      have HNN := Aside0.mk (show 4096 < nn by omega)
      clear hnn
      go_wp2_with fail
      refine (say_long g _ nn nn _ HNN.out).mono ?_
      rintro e w5 ⟨rfl, rfl⟩
      clear hmk hz hl0 hl1
      generalize hw5 : w4.alloc _ = w5
      have hb5 : Below w4.heap.size w4 w5 := hw5 ▸ below_alloc (Below.refl _ _) _
      have HK5 := Aside0.mk (HK4.out.below hb5)
      have HKC5 := Aside0.mk (HKC.out.below hb5)
      have HX5 := Aside0.mk (blk_below HX4.out hb5)
      have HB5 := Aside0.mk (below_then HB4.out HB4.out.size hb5)
      clear hw5 hb5 HK4 HKC HX4 HB4
      go_wp2_with fail
      refine (same_rows g g' _ _ _ _ _ HK5.out HKC5.out HWL.out HWM.out (by simp) (by simp) (by simp) (by simp) (by simp) (by simp) (by simp) (by simp) (by simp) (by simp) (by simp)).mono ?_
      rintro e w6 ⟨rfl, ⟨nd, rfl⟩⟩
      rw [sameT_refl]
      have HK6 := Aside0.mk (HK5.out.below (pw_below_drewN (Below.refl _ _) nd))
      have HX6 := Aside0.mk (blk_below HX5.out (pw_below_drewN (Below.refl _ _) nd))
      have HB6 := Aside0.mk (pw_below_drewN HB5.out nd)
      clear HK5 HKC5 HX5 HB5
      generalize w5.drewN nd = w6 at HK6 HX6 HB6 ⊢
      go_wp2_with fail
      have HJ := Aside0.mk (show (if (mm : Int) < (k : Int) then (mm : Int) else (k : Int)) = ((min k mm : Nat) : Int) ∧ (if mm < k then (mm : Int) else (k : Int)) = ((min k mm : Nat) : Int) by constructor <;> split <;> omega)
      have HMIN := Aside0.mk (show min k mm < 1000000 ∧ (min k mm = 0 ↔ k = 0) by have := HA2.out; omega)
      generalize min k mm = q at HJ HMIN HK6 HWL HWM
      by_cases hk0 : k = 0
      · subst hk0
        obtain rfl : q = 0 := HMIN.out.2.2 rfl
        refine (tick_no g _ _ 1 _ HK6.out (by simp) (by simp) (by simp [dueB])).mono ?_
        rintro e w7 ⟨rfl, hb7⟩
        have HX7 := Aside0.mk (blk_below HX6.out hb7)
        have HB7 := Aside0.mk (below_then HB6.out HB6.out.size hb7)
        have HC7 : Aside0 (Kd.C kM w7 none ([] : List (List Int)).length []) := Aside0.mk (Kd.C_nil kM w7)
        clear hb7 HK6 HX6 HB6
        go_wp2_with fail
        have P8 := blk_new w7 (.cells #[.int .i64 0, .slice none 0 0, .int .i64 0] 36)
        have HX8 := Aside0.mk (blk_alloc HX7.out (.cells #[.int .i64 0, .slice none 0 0, .int .i64 0] 36))
        have HB8 := Aside0.mk (below_then HB7.out HB7.out.size (below_alloc (Below.refl _ _) (.cells #[.int .i64 0, .slice none 0 0, .int .i64 0] 36)))
        have HC8 := Aside0.mk (Kd.C_below HC7.out (below_alloc (Below.refl _ _) (.cells #[.int .i64 0, .slice none 0 0, .int .i64 0] 36)))
        generalize w7.heap.size = pb at P8 ⊢
        generalize w7.alloc _ = w8 at P8 HX8 HB8 HC8 ⊢
        have HP8 := Aside0.mk P8
        clear P8 HX7 HB7 HC7
        have hj := HJ.out.1
        have hj2 := HJ.out.2
        refine start_ (n := 15) (S := fun w' => w'.cell? ⟨pb, 1, none⟩ = some (.slice none 0 0) ∧ w'.cell? ⟨rb, 0, none⟩ = some (.int .i64 mm)) (ds := []) #[false, false, false, false, false, false, false, false, false, false, false, false, false, false, false] (by kernel_rfl) rfl rfl ⟨blk_cell (blk_below HP8.out (below_drew (Below.refl _ _))) 1, blk_cell (blk_below HX8.out (below_drew (Below.refl _ _))) 0⟩ (fun hHeld => ?_)
        refine pure_ (i := 0) (N := some 82) (v := ?_) (a' := ?_) #[true, false, false, false, false, false, false, false, false, false, false, false, false, false, false] rfl rfl (by kernel_rfl) (fun _ _ _ h => h) (Or.inl ⟨by rfl, ?_⟩) ?_ ?_
        rotate_left
        · intro w'
          go_simp
          with_reducible rfl
        rotate_left
        · simp only [Act.put, List.setIfInBounds_toArray, List.set_cons_zero, List.set_cons_succ, i64_w, i32_w]
          rfl
        refine pure_ (i := 1) (N := some 83) (v := ?_) (a' := ?_) #[true, true, false, false, false, false, false, false, false, false, false, false, false, false, false] rfl rfl (by kernel_rfl) (fun _ _ _ h => h) (Or.inl ⟨by rfl, ?_⟩) ?_ ?_
        rotate_left
        · intro w'
          go_simp
          with_reducible rfl
        rotate_left
        · simp only [Act.put, List.setIfInBounds_toArray, List.set_cons_zero, List.set_cons_succ, i64_w, i32_w]
          rfl
        refine pure_ (i := 2) (N := some 84) (v := ?_) (a' := ?_) #[true, true, true, false, false, false, false, false, false, false, false, false, false, false, false] rfl rfl (by kernel_rfl) (fun _ _ _ h => h) (Or.inl ⟨by rfl, ?_⟩) ?_ ?_
        rotate_left
        · intro w'
          go_simp
          with_reducible rfl
        rotate_left
        · simp only [Act.put, List.setIfInBounds_toArray, List.set_cons_zero, List.set_cons_succ, i64_w, i32_w]
          rfl
        refine pure_ (i := 3) (N := some 85) (v := ?_) (a' := ?_) #[true, true, true, true, false, false, false, false, false, false, false, false, false, false, false] rfl rfl (by kernel_rfl) (fun _ _ _ h => h) (Or.inl ⟨by rfl, ?_⟩) ?_ ?_
        rotate_left
        · intro w'
          go_simp
          with_reducible rfl
        rotate_left
        · simp only [Act.put, List.setIfInBounds_toArray, List.set_cons_zero, List.set_cons_succ, i64_w, i32_w]
          rfl
        refine pure_ (i := 4) (N := some 86) (v := ?_) (a' := ?_) #[true, true, true, true, true, false, false, false, false, false, false, false, false, false, false] rfl rfl (by kernel_rfl) (fun _ _ _ h => h) (Or.inl ⟨by rfl, ?_⟩) ?_ ?_
        rotate_left
        · intro w'
          go_simp
          with_reducible rfl
        rotate_left
        · simp only [Act.put, List.setIfInBounds_toArray, List.set_cons_zero, List.set_cons_succ, i64_w, i32_w]
          rfl
        refine pure_ (i := 5) (N := some 87) (v := ?_) (a' := ?_) #[true, true, true, true, true, true, false, false, false, false, false, false, false, false, false] rfl rfl (by kernel_rfl) (fun _ _ _ h => h) (Or.inl ⟨by rfl, ?_⟩) ?_ ?_
        rotate_left
        · intro w'
          go_simp
          with_reducible rfl
        rotate_left
        · simp only [Act.put, List.setIfInBounds_toArray, List.set_cons_zero, List.set_cons_succ, i64_w, i32_w]
          rfl
        refine pure_ (i := 7) (N := some 89) (v := ?_) (a' := ?_) #[true, true, true, true, true, true, false, true, false, false, false, false, false, false, false] rfl rfl (by kernel_rfl) (fun _ _ _ h => h) (Or.inl ⟨by rfl, ?_⟩) ?_ ?_
        rotate_left
        · intro w'
          go_simp
          with_reducible rfl
        rotate_left
        · simp only [Act.put, List.setIfInBounds_toArray, List.set_cons_zero, List.set_cons_succ, i64_w, i32_w]
          rfl
        refine pure_ (i := 8) (N := some 90) (v := ?_) (a' := ?_) #[true, true, true, true, true, true, false, true, true, false, false, false, false, false, false] rfl rfl (by kernel_rfl) (fun _ _ _ h => h) (Or.inl ⟨by rfl, ?_⟩) ?_ ?_
        rotate_left
        · intro w'
          go_simp
          with_reducible rfl
        rotate_left
        · simp only [Act.put, List.setIfInBounds_toArray, List.set_cons_zero, List.set_cons_succ, i64_w, i32_w]
          rfl
        refine take_ (i := 6) (N := some 88) (v := ?_) (a' := ?_) #[true, true, true, true, true, true, true, true, true, false, false, false, false, false, false] rfl rfl (by kernel_rfl) (fun _ _ _ h => h) (Or.inl ⟨by rfl, ?_⟩) hHeld ?_ ?_
        rotate_left
        · rintro w' ⟨s0, s1⟩
          go_simp
          with_reducible rfl
        rotate_left
        · simp only [Act.put, List.setIfInBounds_toArray, List.set_cons_zero, List.set_cons_succ, i64_w, i32_w]
          rfl
        refine take_ (i := 9) (N := some 91) (v := ?_) (a' := ?_) #[true, true, true, true, true, true, true, true, true, true, false, false, false, false, false] rfl rfl (by kernel_rfl) (fun _ _ _ h => h) (Or.inl ⟨by rfl, ?_⟩) hHeld ?_ ?_
        rotate_left
        · rintro w' ⟨s0, s1⟩
          go_simp
          with_reducible rfl
        rotate_left
        · simp only [Act.put, List.setIfInBounds_toArray, List.set_cons_zero, List.set_cons_succ, i64_w, i32_w]
          rfl
        refine pure_ (i := 10) (N := some 92) (v := ?_) (a' := ?_) #[true, true, true, true, true, true, true, true, true, true, true, false, false, false, false] rfl rfl (by kernel_rfl) (fun _ _ _ h => h) (Or.inl ⟨by rfl, ?_⟩) ?_ ?_
        rotate_left
        · intro w'
          go_simp
          with_reducible rfl
        rotate_left
        · simp only [Act.put, List.setIfInBounds_toArray, List.set_cons_zero, List.set_cons_succ, i64_w, i32_w]
          rfl
        refine one_ (i := 11) (N := some 93) #[true, true, true, true, true, true, true, true, true, true, true, true, false, false, false] rfl rfl (by kernel_rfl) (by decide) (fun K hK => ?_)
        refine goes_ Try.func18 (by kernel_rfl) rfl #[.int .u8 0, .int .i64 (0 : Int)] (by rfl) rfl rfl (by simp only [List.map_toArray, List.map_cons, List.map_nil]; rfl) ?_
        with_reducible refine (lists_zero _).mono ?_
        rintro e w9 ⟨A9, c9, rfl, hC9, hb9⟩
        refine ⟨_, rfl, ?_⟩
        have HC9 := Aside0.mk hC9
        have HB9 : Aside0 (Below w8.heap.size w8 w9) := Aside0.mk (below_then (below_drew (Below.refl _ _)) (Nat.le_refl _) hb9)
        clear hC9 hb9
        refine hK.out _ _ ⟨blk_cell (blk_below HP8.out HB9.out) 1, blk_cell (blk_below HX8.out HB9.out) 0⟩ (fun hHeld => ?_)
        clear hK K
        refine norm_ (a' := ?_) ?_ ?_
        rotate_left
        · show Act.put _ (some 93) _ = _
          simp only [Act.put, List.setIfInBounds_toArray, List.set_cons_zero, List.set_cons_succ, i64_w, i32_w]
          rfl
        refine one_ (i := 12) (N := some 94) #[true, true, true, true, true, true, true, true, true, true, true, true, true, false, false] rfl rfl (by kernel_rfl) (by decide) (fun K hK => ?_)
        refine goes_ Try.func17 (by kernel_rfl) rfl #[.slice none 0 0, .slice A9 0 c9] (by rfl) rfl rfl (by simp only [List.map_toArray, List.map_cons, List.map_nil]; rfl) ?_
        with_reducible refine (same_nil0 A9 c9 _ HC9.out).mono ?_
        rintro e w10 ⟨rfl, ⟨nd2, rfl⟩⟩
        refine ⟨_, rfl, ?_⟩
        refine hK.out _ _ ⟨blk_cell (blk_below HP8.out (pw_below_drewN HB9.out _)) 1, blk_cell (blk_below HX8.out (pw_below_drewN HB9.out _)) 0⟩ (fun hHeld => ?_)
        clear hK K
        refine norm_ (a' := ?_) ?_ ?_
        rotate_left
        · show Act.put _ (some 94) _ = _
          simp only [Act.put, List.setIfInBounds_toArray, List.set_cons_zero, List.set_cons_succ, i64_w, i32_w]
          rfl
        refine pure_ (i := 13) (N := some 95) (v := ?_) (a' := ?_) #[true, true, true, true, true, true, true, true, true, true, true, true, true, true, false] rfl rfl (by kernel_rfl) (fun _ _ _ h => h) (Or.inl ⟨by rfl, ?_⟩) ?_ ?_
        rotate_left
        · intro w'
          go_simp
          with_reducible rfl
        rotate_left
        · simp only [Act.put, List.setIfInBounds_toArray, List.set_cons_zero, List.set_cons_succ, i64_w, i32_w]
          rfl
        refine pure_ (i := 14) (N := some 6) (v := ?_) (a' := ?_) #[true, true, true, true, true, true, true, true, true, true, true, true, true, true, true] rfl rfl (by kernel_rfl) (fun _ _ _ h => h) (Or.inl ⟨by rfl, ?_⟩) ?_ ?_
        rotate_left
        · intro w'
          go_simp
          with_reducible rfl
        rotate_left
        · simp only [Act.put, List.setIfInBounds_toArray, List.set_cons_zero, List.set_cons_succ, i64_w, i32_w]
          rfl
        refine done_ (by kernel_rfl) ?_
        go_wp2
        go_ret
        exact ⟨rfl, pw_below_drewN (below_then HB8.out HB8.out.size HB9.out) _⟩
      · have h4 : decide ((0 : Int) < (k : Int)) = true := decide_eq_true (by omega)
        have h4p : (0 : Int) < (k : Int) := by omega
        have h5p : 0 < k := by omega
        have h5 : decide (0 < k) = true := decide_eq_true h5p
        refine (tick_yes g _ _ 1 _ HK6.out (by simp) (by simp) (by have := HMIN.out; simp [dueB]; omega) HWL.out HWM.out).mono ?_
        rintro e w7 ⟨v7, rfl, hv7, -, hf7⟩
        obtain ⟨A7, c7, rfl⟩ := Kd.R_slice hv7
        have HX7 := Aside0.mk ((hf7.block rb (blk_lt HX6.out) HSR.out).trans HX6.out)
        have HB7 := Aside0.mk (Fr.below HB6.out HB6.out.size hf7 HS.out)
        have HC7 := Aside0.mk (Kd.R_reads' hv7).2.2
        clear hv7 hf7 HK6 HX6 HB6
        go_wp2_with fail
        have P8 := blk_new w7 (.cells #[.int .i64 0, .slice A7 (wordsL 0 (q)).length c7, .int .i64 0] 36)
        have HX8 := Aside0.mk (blk_alloc HX7.out (.cells #[.int .i64 0, .slice A7 (wordsL 0 (q)).length c7, .int .i64 0] 36))
        have HB8 := Aside0.mk (below_then HB7.out HB7.out.size (below_alloc (Below.refl _ _) (.cells #[.int .i64 0, .slice A7 (wordsL 0 (q)).length c7, .int .i64 0] 36)))
        have HC8 := Aside0.mk (Kd.C_below HC7.out (below_alloc (Below.refl _ _) (.cells #[.int .i64 0, .slice A7 (wordsL 0 (q)).length c7, .int .i64 0] 36)))
        generalize w7.heap.size = pb at P8 ⊢
        generalize w7.alloc _ = w8 at P8 HX8 HB8 HC8 ⊢
        have HP8 := Aside0.mk P8
        clear P8 HX7 HB7 HC7
        have hj := HJ.out.1
        have hj2 := HJ.out.2
        refine start_ (n := 15) (S := fun w' => w'.cell? ⟨pb, 1, none⟩ = some (.slice A7 (wordsL 0 (q)).length c7) ∧ w'.cell? ⟨rb, 0, none⟩ = some (.int .i64 mm)) (ds := []) #[false, false, false, false, false, false, false, false, false, false, false, false, false, false, false] (by kernel_rfl) rfl rfl ⟨blk_cell (blk_below HP8.out (below_drew (Below.refl _ _))) 1, blk_cell (blk_below HX8.out (below_drew (Below.refl _ _))) 0⟩ (fun hHeld => ?_)
        refine pure_ (i := 0) (N := some 82) (v := ?_) (a' := ?_) #[true, false, false, false, false, false, false, false, false, false, false, false, false, false, false] rfl rfl (by kernel_rfl) (fun _ _ _ h => h) (Or.inl ⟨by rfl, ?_⟩) ?_ ?_
        rotate_left
        · intro w'
          go_simp
          with_reducible rfl
        rotate_left
        · simp only [Act.put, List.setIfInBounds_toArray, List.set_cons_zero, List.set_cons_succ, i64_w, i32_w]
          rfl
        refine pure_ (i := 1) (N := some 83) (v := ?_) (a' := ?_) #[true, true, false, false, false, false, false, false, false, false, false, false, false, false, false] rfl rfl (by kernel_rfl) (fun _ _ _ h => h) (Or.inl ⟨by rfl, ?_⟩) ?_ ?_
        rotate_left
        · intro w'
          go_simp
          with_reducible rfl
        rotate_left
        · simp only [Act.put, List.setIfInBounds_toArray, List.set_cons_zero, List.set_cons_succ, i64_w, i32_w]
          rfl
        refine pure_ (i := 2) (N := some 84) (v := ?_) (a' := ?_) #[true, true, true, false, false, false, false, false, false, false, false, false, false, false, false] rfl rfl (by kernel_rfl) (fun _ _ _ h => h) (Or.inl ⟨by rfl, ?_⟩) ?_ ?_
        rotate_left
        · intro w'
          go_simp
          with_reducible rfl
        rotate_left
        · simp only [Act.put, List.setIfInBounds_toArray, List.set_cons_zero, List.set_cons_succ, i64_w, i32_w]
          rfl
        refine pure_ (i := 3) (N := some 85) (v := ?_) (a' := ?_) #[true, true, true, true, false, false, false, false, false, false, false, false, false, false, false] rfl rfl (by kernel_rfl) (fun _ _ _ h => h) (Or.inl ⟨by rfl, ?_⟩) ?_ ?_
        rotate_left
        · intro w'
          go_simp
          with_reducible rfl
        rotate_left
        · simp only [Act.put, List.setIfInBounds_toArray, List.set_cons_zero, List.set_cons_succ, i64_w, i32_w]
          rfl
        refine pure_ (i := 4) (N := some 86) (v := ?_) (a' := ?_) #[true, true, true, true, true, false, false, false, false, false, false, false, false, false, false] rfl rfl (by kernel_rfl) (fun _ _ _ h => h) (Or.inl ⟨by rfl, ?_⟩) ?_ ?_
        rotate_left
        · intro w'
          go_simp
          with_reducible rfl
        rotate_left
        · simp only [Act.put, List.setIfInBounds_toArray, List.set_cons_zero, List.set_cons_succ, i64_w, i32_w]
          rfl
        refine pure_ (i := 5) (N := some 87) (v := ?_) (a' := ?_) #[true, true, true, true, true, true, false, false, false, false, false, false, false, false, false] rfl rfl (by kernel_rfl) (fun _ _ _ h => h) (Or.inl ⟨by rfl, ?_⟩) ?_ ?_
        rotate_left
        · intro w'
          go_simp
          with_reducible rfl
        rotate_left
        · simp only [Act.put, List.setIfInBounds_toArray, List.set_cons_zero, List.set_cons_succ, i64_w, i32_w]
          rfl
        refine pure_ (i := 7) (N := some 89) (v := ?_) (a' := ?_) #[true, true, true, true, true, true, false, true, false, false, false, false, false, false, false] rfl rfl (by kernel_rfl) (fun _ _ _ h => h) (Or.inl ⟨by rfl, ?_⟩) ?_ ?_
        rotate_left
        · intro w'
          go_simp
          with_reducible rfl
        rotate_left
        · simp only [Act.put, List.setIfInBounds_toArray, List.set_cons_zero, List.set_cons_succ, i64_w, i32_w]
          rfl
        refine pure_ (i := 8) (N := some 90) (v := ?_) (a' := ?_) #[true, true, true, true, true, true, false, true, true, false, false, false, false, false, false] rfl rfl (by kernel_rfl) (fun _ _ _ h => h) (Or.inl ⟨by rfl, ?_⟩) ?_ ?_
        rotate_left
        · intro w'
          go_simp
          with_reducible rfl
        rotate_left
        · simp only [Act.put, List.setIfInBounds_toArray, List.set_cons_zero, List.set_cons_succ, i64_w, i32_w]
          rfl
        refine take_ (i := 6) (N := some 88) (v := ?_) (a' := ?_) #[true, true, true, true, true, true, true, true, true, false, false, false, false, false, false] rfl rfl (by kernel_rfl) (fun _ _ _ h => h) (Or.inl ⟨by rfl, ?_⟩) hHeld ?_ ?_
        rotate_left
        · rintro w' ⟨s0, s1⟩
          go_simp
          with_reducible rfl
        rotate_left
        · simp only [Act.put, List.setIfInBounds_toArray, List.set_cons_zero, List.set_cons_succ, i64_w, i32_w]
          rfl
        refine take_ (i := 9) (N := some 91) (v := ?_) (a' := ?_) #[true, true, true, true, true, true, true, true, true, true, false, false, false, false, false] rfl rfl (by kernel_rfl) (fun _ _ _ h => h) (Or.inl ⟨by rfl, ?_⟩) hHeld ?_ ?_
        rotate_left
        · rintro w' ⟨s0, s1⟩
          go_simp
          with_reducible rfl
        rotate_left
        · simp only [Act.put, List.setIfInBounds_toArray, List.set_cons_zero, List.set_cons_succ, i64_w, i32_w]
          rfl
        refine pure_ (i := 10) (N := some 92) (v := ?_) (a' := ?_) #[true, true, true, true, true, true, true, true, true, true, true, false, false, false, false] rfl rfl (by kernel_rfl) (fun _ _ _ h => h) (Or.inl ⟨by rfl, ?_⟩) ?_ ?_
        rotate_left
        · intro w'
          go_simp
          with_reducible rfl
        rotate_left
        · simp only [Act.put, List.setIfInBounds_toArray, List.set_cons_zero, List.set_cons_succ, i64_w, i32_w]
          rfl
        refine one_ (i := 11) (N := some 93) #[true, true, true, true, true, true, true, true, true, true, true, true, false, false, false] rfl rfl (by kernel_rfl) (by decide) (fun K hK => ?_)
        refine goes_ Try.func18 (by kernel_rfl) rfl #[.int .u8 0, .int .i64 (((q : Nat) : Int) : Int)] (by rfl) rfl rfl (by simp only [List.map_toArray, List.map_cons, List.map_nil]; rfl) ?_
        with_reducible refine (lists_ok 0 q HMIN.out.1 _).mono ?_
        rintro e w9 ⟨A9, c9, rfl, hC9, hb9⟩
        refine ⟨_, rfl, ?_⟩
        have HC9 := Aside0.mk hC9
        have HB9 : Aside0 (Below w8.heap.size w8 w9) := Aside0.mk (below_then (below_drew (Below.refl _ _)) (Nat.le_refl _) hb9)
        clear hC9 hb9
        refine hK.out _ _ ⟨blk_cell (blk_below HP8.out HB9.out) 1, blk_cell (blk_below HX8.out HB9.out) 0⟩ (fun hHeld => ?_)
        clear hK K
        refine norm_ (a' := ?_) ?_ ?_
        rotate_left
        · show Act.put _ (some 93) _ = _
          simp only [Act.put, List.setIfInBounds_toArray, List.set_cons_zero, List.set_cons_succ, i64_w, i32_w]
          rfl
        refine one_ (i := 12) (N := some 94) #[true, true, true, true, true, true, true, true, true, true, true, true, true, false, false] rfl rfl (by kernel_rfl) (by decide) (fun K hK => ?_)
        refine goes_ Try.func17 (by kernel_rfl) rfl #[.slice A7 (wordsL 0 (q)).length c7, .slice A9 (wordsL 0 (q)).length c9] (by rfl) rfl rfl (by simp only [List.map_toArray, List.map_cons, List.map_nil]; rfl) ?_
        with_reducible refine (same_any _ _ (wordsL 0 (q)) A9 c9 (wordsL 0 (q)) _ (Kd.C_below HC8.out HB9.out) HC9.out (by rw [wordsL_len]; have := HMIN.out; omega)).mono ?_
        rintro e w10 ⟨rfl, ⟨nd2, rfl⟩⟩
        refine ⟨_, rfl, ?_⟩
        rw [sameL_refl]
        refine hK.out _ _ ⟨blk_cell (blk_below HP8.out (pw_below_drewN HB9.out _)) 1, blk_cell (blk_below HX8.out (pw_below_drewN HB9.out _)) 0⟩ (fun hHeld => ?_)
        clear hK K
        refine norm_ (a' := ?_) ?_ ?_
        rotate_left
        · show Act.put _ (some 94) _ = _
          simp only [Act.put, List.setIfInBounds_toArray, List.set_cons_zero, List.set_cons_succ, i64_w, i32_w]
          rfl
        refine pure_ (i := 13) (N := some 95) (v := ?_) (a' := ?_) #[true, true, true, true, true, true, true, true, true, true, true, true, true, true, false] rfl rfl (by kernel_rfl) (fun _ _ _ h => h) (Or.inl ⟨by rfl, ?_⟩) ?_ ?_
        rotate_left
        · intro w'
          go_simp
          with_reducible rfl
        rotate_left
        · simp only [Act.put, List.setIfInBounds_toArray, List.set_cons_zero, List.set_cons_succ, i64_w, i32_w]
          rfl
        refine pure_ (i := 14) (N := some 6) (v := ?_) (a' := ?_) #[true, true, true, true, true, true, true, true, true, true, true, true, true, true, true] rfl rfl (by kernel_rfl) (fun _ _ _ h => h) (Or.inl ⟨by rfl, ?_⟩) ?_ ?_
        rotate_left
        · intro w'
          go_simp
          with_reducible rfl
        rotate_left
        · simp only [Act.put, List.setIfInBounds_toArray, List.set_cons_zero, List.set_cons_succ, i64_w, i32_w]
          rfl
        refine done_ (by kernel_rfl) ?_
        go_wp2
        go_ret
        exact ⟨rfl, pw_below_drewN (below_then HB8.out HB8.out.size HB9.out) _⟩
end Go.Proofs.Yteeljnlhgaljaaa
