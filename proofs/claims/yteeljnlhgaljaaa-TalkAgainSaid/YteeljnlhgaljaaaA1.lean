/- By hand: TalkAgain. -/
import Derived.Test.YteeljnlhgaljaaaG
import Derived.Test.YteeljnlhgaljaaaN0
namespace Go.Proofs.Yteeljnlhgaljaaa
set_option linter.unusedVariables false
set_option linter.unusedSimpArgs false
open Go.RowKit Go.Proofs.YteeljnlhgaljaaaW.PrintWords Go.Proofs.YteeljnlhgaljaaaW.PrintLast Go.Proofs.YteeljnlhgaljaaaW.PrintMore Go.Proofs.Yteeljnlhgaljaaa.P
attribute [local go_sem] min2_int min_two   -- for this text's walks alone
theorem one_row {w : World} {b1 : Nat} {fr' : Nat × Nat} {A : Option Addr} {m : List Int} {c : Nat} (h1 : w.heap[b1]? = some (.cells #[.slice A m.length c] 34 fr')) (hm : Kd.C (Kd.int .u8) w A m.length m) (hc : m.length ≤ c) : Kd.C kM w (some ⟨b1, 0, none⟩) 1 [m] := by
  refine ⟨rfl, by decide, fun _ => ⟨_, rfl, fun j p hp => ⟨[.slice A m.length c], rfl, ?_, fun i u hu => ?_⟩⟩⟩
  · have : j = 0 := by
      have := (List.getElem?_eq_some_iff.1 hp).1
      simpa using this
    subst this
    obtain rfl : m = p := by simpa using hp
    exact ⟨A, c, rfl, hc, hm⟩
  · have hj : j = 0 := by
      have := (List.getElem?_eq_some_iff.1 hp).1
      simpa using this
    have hi : i = 0 := by
      have := (List.getElem?_eq_some_iff.1 hu).1
      simpa using this
    subst hj hi
    obtain rfl : Value.slice A m.length c = u := by simpa using hu
    simp [World.cell?, Addr.add, h1]
theorem step_in (x : Int) : 0 ≤ wrap64 ((IntKind.u64.wrap x).tmod 700) ∧ wrap64 ((IntKind.u64.wrap x).tmod 700) < 700 := by
  have hu : 0 ≤ IntKind.u64.wrap x := Int.emod_nonneg x (by decide)
  have h2 := Int.tmod_nonneg 700 hu
  have h3 := Int.tmod_lt_of_pos (IntKind.u64.wrap x) (show (0 : Int) < 700 by omega)
  generalize (IntKind.u64.wrap x).tmod 700 = z at *
  unfold wrap64
  omega
set_option maxRecDepth 100000 in
set_option maxHeartbeats 2000000 in
theorem again_any (a b : Int) (Am : Option Addr) (m0 : List Int) (cm : Nat) (At : Option Addr) (ts : List Int) (ct : Nat) (w : World) (hm : Kd.C (Kd.int .u8) w Am m0.length m0) (hc : m0.length ≤ cm) (ht : Kd.C (Kd.int .i64) w At ts.length ts) :
    Calls Try.prog 6 #[.agg #[.int .i64 a, .int .i64 b], .slice Am m0.length cm, .slice At ts.length ct] w fun e w' => e = .returned (.bool true) ∧ Below w.heap.size w w' := by
  have HT := Aside0.mk ht
  have htl := ht.2.1
  obtain ⟨j, hj⟩ : ∃ j : Int, (if 4096 < (m0.length : Int) then 4096 else (m0.length : Int)) = j := ⟨_, rfl⟩
  have hj0 : 0 ≤ j ∧ j ≤ m0.length ∧ j ≤ 4096 := by rw [← hj]; split <;> omega
  obtain ⟨i0, hi, hz⟩ := Option.map_eq_some_iff.1 info5'
  simp only [Prod.mk.injEq] at hz
  obtain ⟨hrun, hrd, hcap⟩ := print_take_int (P := Try.prog) (k := .u8) 34 5 Try.underlying34 hi hz.2.1 Am cm m0 j hj0.1 hj0.2.1 hc
  have HC0 := Aside0.mk hcap
  have HM0 : Aside0 (Kd.C (Kd.int .u8) w Am (m0.take j.toNat).length (m0.take j.toNat)) := Aside0.mk (Kd.C_take hm (by omega))
  have HML : Aside0 ((m0.take j.toNat).length ≤ 4096) := Aside0.mk (by rw [List.length_take]; omega)
  have hml := hm.2.1
  generalize m0.take j.toNat = m at hrun HC0 HM0 HML
  clear hm hc ht hrd hcap hj0 hi hz
  go_enter Try.func6, Try.ntmps6
  go_wp2_with fail
  refine (begin_ok a b _).mono ?_
  rintro e w1 ⟨g, rfl, hk1, hg, hb1⟩
  have hcap64 := capOf_in 64 a (by omega) (by omega)
  have hcapn := capOf_in 1000 b (by omega) (by omega)
  generalize capOf 64 a = most at hk1 hcap64 ⊢
  generalize capOf 1000 b = again at hk1 hcapn ⊢
  have HA := Aside0.mk hcap64
  have HN := Aside0.mk hcapn
  have HB1 := Aside0.mk (below_then (below_alloc (Below.refl _ _) _) (below_alloc (Below.refl w.heap.size w) _).size hb1)
  have HK1 := Aside0.mk hk1
  have HG := Aside0.mk (show w.heap.size ≤ g from Nat.le_trans (below_alloc (Below.refl w.heap.size w) _).size hg)
  clear hk1 hcap64 hcapn hg hb1
  go_wp2_with fail
  clear hrun hj
  refine (told_any _).mono ?_
  rintro e w2 ⟨rfl, hb2⟩
  have hbx2 := blk_below (blk_new w1 _) hb2
  have HK2 := Aside0.mk ((HK1.out.below (below_alloc (Below.refl _ _) _)).below hb2)
  have HB2 := Aside0.mk (below_then (below_then HB1.out HB1.out.size (below_alloc (Below.refl _ _) _)) (by simp; have := HB1.out.size; omega) hb2)
  have HR := Aside0.mk (show w.heap.size ≤ w1.heap.size from HB1.out.size)
  have HGR := Aside0.mk (show g < w1.heap.size by obtain ⟨_, _, _, _, h⟩ := HK1.out; exact blk_lt h.blk)
  generalize w1.heap.size = rb at hbx2 HR HGR ⊢
  have HX2 := Aside0.mk hbx2
  clear hb2 hbx2 HK1 HB1
  go_wp2_with fail
  refine (say_ok g _ _ _ cm m _ HK2.out (Kd.C_below HM0.out HB2.out) HC0.out HML.out (by have := HA.out.1; simp; omega) (by simpa using HA.out.2) (by simp)).mono ?_
  rintro e w3 ⟨S3, rfl, hk3, hs3, hf3⟩
  have HK3 : Aside0 (IsTk w3 g S3 ⟨most, again, 1, 0, 0, 0, [m], [], 0, false, false⟩) := Aside0.mk hk3
  have HS3 := Aside0.mk (fun k (h : S3 k) => (hs3 k h).elim (fun e => Nat.le_trans HG.out (Nat.le_of_eq e.symm)) (fun e => Nat.le_trans HB2.out.size e))
  have HX3 := Aside0.mk ((hf3.block rb (blk_lt HX2.out) (fun e => Nat.ne_of_gt HGR.out e)).trans HX2.out)
  have HSR := Aside0.mk (fun (h : S3 rb) => (hs3 rb h).elim (fun e => Nat.ne_of_gt HGR.out e) (fun e => Nat.not_lt.2 e (blk_lt HX2.out)))
  have HB3 := Aside0.mk (Fr.below HB2.out HB2.out.size hf3 (fun k e => e.symm ▸ HG.out))
  clear hk3 hs3 hf3 HK2 HB2 HX2
  go_wp2_with fail
  go_loopw [9, 10, 11, 12] (fun v9 v10 v11 v12 wr => ∃ (k : Nat) (now last : Int) (went : Bool) (S : Nat → Prop), v9 = .int .i64 now ∧ v10 = .int .i64 last ∧ v11 = .bool went ∧ v12 = .int .i64 (k : Int) ∧ Aside0 (0 ≤ last ∧ last ≤ now ∧ now ≤ 700 * k ∧ k ≤ 60) ∧ Aside0 (IsTk wr g S ⟨most, again, 1, 0, if went then 1 else 0, 0, [m], [], last, went, false⟩) ∧ Aside0 (∀ k, S k → w.heap.size ≤ k) ∧ Aside0 (S rb → False) ∧ Aside0 (wr.heap[rb]? = some (.cells #[.int .i64 most, .int .i64 again, .slice none 0 0, .int .i64 0, .int .i64 0, .slice none 0 0, .int .i64 0, .int .i64 0, .bool false, .bool false] 27 (0, 0))) ∧ Aside0 (Below w.heap.size w wr)) (fun v9 v10 v11 v12 wr => 60 - (intOf v12).toNat)
  case atStart => exact ⟨0, 0, 0, false, S3, rfl, rfl, rfl, rfl, ⟨by decide⟩, HK3, HS3, HSR, HX3, HB3⟩
  case round =>
    clear HK3 HS3 HSR HX3 HB3
    obtain ⟨k, now, last, went, S, rfl, rfl, rfl, rfl, HI, HK, HS, HSR, HX, HB⟩ := hrel
    rename_i wr
    by_cases hlt : k < ts.length ∧ k < 60
    · have h1 : decide ((k : Int) < (ts.length : Int)) = true := decide_eq_true (by omega)
      have h2 : decide ((k : Int) < 60) = true := decide_eq_true (by omega)
      have hk0 : (0 : Int) ≤ (k : Int) := by omega
      have q1 : (k : Int) < (ts.length : Int) := by omega
      have q2 : (k : Int) < 60 := by omega
      obtain ⟨ad, rfl, hx⟩ := Kd.at_int HT.out (k : Int) hk0 q1
      have hx := pw_cell_below HB.out hx
      simp only [Int.toNat_natCast] at hx
      generalize rd ts (k : Int) = x at hx
      go_wp2_with fail
      have hz : 0 ≤ wrap64 ((IntKind.u64.wrap x).tmod 700) ∧ wrap64 ((IntKind.u64.wrap x).tmod 700) < 700 := step_in x
      generalize wrap64 ((IntKind.u64.wrap x).tmod 700) = z at hz ⊢
      have hnz : wrap64 (now + z) = now + z := by have := HI.out; unfold wrap64; omega
      rw [hnz]
      have HI2 := Aside0.mk (show 0 ≤ last ∧ last ≤ now + z ∧ now + z ≤ 700 * ((k + 1 : Nat) : Int) ∧ k < 60 by have := HI.out; omega)
      clear hnz hz HI hx h1 h2 hk0 q1 q2
      generalize now + z = nw at HI2 ⊢
      have hsub : wrap64 (nw - last) = nw - last := by have := HI2.out; unfold wrap64; omega
      by_cases hno : went = true ∧ ¬ again ≤ nw - last
      · obtain ⟨rfl, hlt2⟩ := hno
        have h3 : decide (again ≤ nw - last) = false := decide_eq_false hlt2
        have h4 : decide (again ≤ wrap64 (nw - last)) = false := by rw [hsub]; exact h3
        clear hlt2
        refine (tick_no g _ _ nw _ HK.out (by have := HI2.out; omega) (by have := HI2.out; simp; omega) (by simp [dueB, h3])).mono ?_
        rintro e w4 ⟨rfl, hb4⟩
        have HK4 := Aside0.mk (HK.out.below hb4)
        have HB4 := Aside0.mk (below_then HB.out HB.out.size hb4)
        have HX4 := Aside0.mk (blk_below HX.out hb4)
        have y1 : ∀ o, (w4.alloc o).cell? ⟨rb, 1, none⟩ = some (.int .i64 again) := fun o => blk_cell (blk_alloc HX4.out o) 1
        clear hb4 HK HX HB
        go_wp2_with fail
        go_roundw
        case rel => exact ⟨k + 1, nw, last, true, S, rfl, rfl, rfl, by go_num, ⟨by have := HI2.out; omega⟩, ⟨HK4.out.below (below_alloc (Below.refl _ _) _)⟩, HS, HSR, ⟨blk_alloc HX4.out _⟩, ⟨below_then HB4.out HB4.out.size (below_alloc (Below.refl _ _) _)⟩⟩
        case measure => simp [intOf]; have := HI2.out; omega
      · have hdue : dueB (⟨most, again, 1, 0, if went = true then 1 else 0, 0, [m], [], last, went, false⟩ : Tk) nw = true := by
          cases went
          · simp [dueB]
          · have : again ≤ nw - last := by simpa using hno
            simp [dueB, this]
        refine (tick_yes g _ _ nw _ HK.out (by have := HI2.out; omega) (by have := HI2.out; simp; omega) hdue (by simp) (by have := HML.out; simp; omega)).mono ?_
        rintro e w4 ⟨v4, rfl, hv4, hk4, hf4⟩
        have HK4 : Aside0 (IsTk w4 g (fun k => S k ∧ k < wr.heap.size) ⟨most, again, 1, 0, 1, 0, [m], [], nw, true, false⟩) := Aside0.mk hk4
        have HV4 := Aside0.mk hv4
        obtain ⟨A4, c4, rfl⟩ := Kd.R_slice hv4
        have HB4 := Aside0.mk (Fr.below HB.out HB.out.size hf4 HS.out)
        have HX4 := Aside0.mk ((hf4.block rb (blk_lt HX.out) HSR.out).trans HX.out)
        have y1 : ∀ o, (w4.alloc o).cell? ⟨rb, 1, none⟩ = some (.int .i64 again) := fun o => blk_cell (blk_alloc HX4.out o) 1
        have x0 : ∀ v, (w4.alloc (.cells #[.int .i64 0, v, .int .i64 0] 36)).cell? ⟨w4.heap.size, 0, none⟩ = some (.int .i64 0) := fun v => blk_cell (blk_new w4 _) 0
        have x1 : ∀ v, (w4.alloc (.cells #[.int .i64 0, v, .int .i64 0] 36)).cell? ⟨w4.heap.size, 1, none⟩ = some v := fun v => blk_cell (blk_new w4 _) 1
        have x2 : ∀ v, (w4.alloc (.cells #[.int .i64 0, v, .int .i64 0] 36)).cell? ⟨w4.heap.size, 2, none⟩ = some (.int .i64 0) := fun v => blk_cell (blk_new w4 _) 2
        clear hv4 hk4 hf4 HK HX HB hdue
        have hw2 : went = false ∨ (went = true ∧ decide (again ≤ nw - last) = true ∧ decide (again ≤ wrap64 (nw - last)) = true) := by
          cases went
          · exact .inl rfl
          · have : again ≤ nw - last := by simpa using hno
            exact .inr ⟨rfl, decide_eq_true this, decide_eq_true (by rw [hsub]; exact this)⟩
        clear hno
        rcases hw2 with rfl | ⟨rfl, h5, h6⟩
        all_goals
          go_wp2_with fail
          clear y1 x0 x1 x2
          generalize hz : (w4.alloc _).alloc _ = w5
          have hb5 : Below w4.heap.size w4 w5 := hz ▸ below_alloc (below_alloc (Below.refl _ _) _) _
          have L1 : w5.heap[w4.heap.size + 1]? = some (.cells #[.slice Am m.length cm] 34 (0, 0)) := by
            rw [← hz]
            have := blk_new (w4.alloc (Obj.cells #[Value.int IntKind.i64 0, Value.slice A4 1 c4, Value.int IntKind.i64 0] 36)) (Obj.cells #[.slice Am m.length cm] 34)
            simpa using this
          have HB5 := Aside0.mk (below_then HB4.out HB4.out.size hb5)
          refine (same_any _ c4 [m] _ 1 [m] w5 (Kd.R_reads' (Kd.R_below HV4.out hb5)).2.2 (one_row L1 (Kd.C_below HM0.out HB5.out) HC0.out) (by simp)).mono ?_
          rintro e w6 ⟨rfl, ⟨nd, rfl⟩⟩
          rw [sameL_refl]
          have HK6 := Aside0.mk (HK4.out.below (pw_below_drewN hb5 nd))
          have HX6 := Aside0.mk (blk_below HX4.out (pw_below_drewN hb5 nd))
          have HB6 := Aside0.mk (pw_below_drewN HB5.out nd)
          clear hz hb5 L1 HB5 HK4 HX4 HB4 HV4
          generalize w5.drewN nd = w6 at HK6 HX6 HB6 ⊢
          go_wp2
          go_roundw
          case rel => exact ⟨k + 1, nw, nw, true, _, rfl, rfl, rfl, by go_num, ⟨by have := HI2.out; omega⟩, HK6, ⟨fun k h => HS.out k h.1⟩, ⟨fun h => HSR.out h.1⟩, HX6, HB6⟩
          case measure => simp [intOf]; have := HI2.out; omega
    · have hex : decide ((k : Int) < (ts.length : Int)) = false ∧ ¬ (k : Int) < (ts.length : Int) ∨ decide ((k : Int) < (ts.length : Int)) = true ∧ decide ((k : Int) < 60) = false ∧ ¬ (k : Int) < 60 ∧ (60 : Int) ≤ (k : Int) := by
        simp only [decide_eq_false_iff_not, decide_eq_true_eq]
        omega
      clear hlt
      obtain ⟨Sw, Sg, vw, vg, hkk⟩ := HK.out
      obtain ⟨Aw, cw, rfl, -, -⟩ := Kd.R_reads hkk.wait
      have hx6 : wr.cell? ⟨g, 6, none⟩ = some (.slice Aw 1 cw) := blk_cell hkk.blk 6
      clear hkk
      rcases hex with ⟨h1, h1p⟩ | ⟨h1, h2, h2p, h2q⟩
      all_goals
        go_wp2
        all_goals (go_ret; exact ⟨rfl, HB.out⟩)
end Go.Proofs.Yteeljnlhgaljaaa
