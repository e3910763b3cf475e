/- By hand: TalkAll. -/
import Derived.Test.YteeljnlhgaljaaaP1
import Derived.Test.YteeljnlhgaljaaaV3
namespace Go.Proofs.Yteeljnlhgaljaaa
set_option linter.unusedVariables false
set_option linter.unusedSimpArgs false
open Go.RowKit Go.Proofs.YteeljnlhgaljaaaW.PrintWords Go.Proofs.YteeljnlhgaljaaaW.PrintLast Go.Proofs.Yteeljnlhgaljaaa.P
/-- Two boxes: what was said, what was got. -/
structure By (w0 w : World) (U : Nat → Prop) (b7 b8 : Nat) (na nb : Nat) (va vb : Value) : Prop where
  x7 : Blk w U b7 (.cells #[.int .i64 na, .int .i64 nb] 22 (0, 0))
  x8 : Blk w U b8 (.cells #[va, vb] 41 (0, 0))
  ne : b7 < b8
  ge : w0.heap.size ≤ b7
theorem By.went {w0 w w' : World} {U U' : Nat → Prop} {b7 b8 : Nat} {na nb : Nat} {va vb : Value} (h : By w0 w U b7 b8 na nb va vb) (hw : Went U U' w w') : By w0 w' U' b7 b8 na nb va vb := ⟨h.x7.went hw, h.x8.went hw, h.ne, h.ge⟩
section
variable {w0 w : World} {ga gb : Nat} {Sa Sb Ga Gb Wp : Nat → Prop} {ta tb : Tk} {va vb vw : Value} {la lb : List (List Int)} {ps : List S87}
/-- A tick, whatever comes of it. -/
theorem Pm.tick (h : Pm w0 w ga gb Sa Sb Ga Gb Wp ta tb va vb vw la lb ps) (now : Int) (hn : 0 ≤ now ∧ now < 2199023255552) (hl : 0 ≤ ta.last ∧ ta.last < 2199023255552) (hwl : ta.wait.length < 1000000) (hwm : ∀ m ∈ ta.wait, m.length < 140737488355328) (d : Bool) (hd : dueB ta now = d) :
    Calls Try.prog 19 #[.pointer (some ⟨ga, 0, none⟩), .int .i64 now] w fun e w' => ∃ A n c f hd ta' Sa', e = .returned (.tuple #[.agg #[.int .i64 f, .slice A n c, .int .i64 hd], .bool d]) ∧ Pm w0 w' ga gb Sa' Sb Ga Gb Wp ta' tb va vb vw la lb ps ∧ Went (U5 Sa Sb Ga Gb Wp) (U5 Sa' Sb Ga Gb Wp) w w' ∧ ((d = true ∧ ta' = ticked ta now ∧ f = ta.done ∧ hd = ta.heard ∧ n = ta.wait.length ∧ Free w' (Un Sa' Sb) (.slice A ta.wait.length c) ta.wait) ∨ (d = false ∧ ta' = ta)) := by
  cases d
  · refine (h.tick_no now hn hl hd).mono ?_
    rintro e w' ⟨rfl, h1, h2⟩
    exact ⟨none, 0, 0, 0, 0, ta, Sa, rfl, h1, h2, .inr ⟨rfl, rfl⟩⟩
  · refine (h.tick_yes now hn hl hd hwl hwm).mono ?_
    rintro e w' ⟨A, c, rfl, Sa', h1, h2, h3, h4⟩
    exact ⟨A, _, c, _, _, _, Sa', rfl, h1, h2, .inl ⟨rfl, rfl, rfl, rfl, rfl, _, h3, fun k hk => ⟨fun hu => by have := h4 k (.inl hu); omega, hk.2⟩⟩⟩
end
theorem lists_n (x : Int) (n : Nat) (hn : n < 1000000) (w : World) :
    Calls Try.prog 18 #[.int .u8 x, .int .i64 (n : Int)] w fun e w' => ∃ A c, e = .returned (.slice A n c) ∧ Kd.C kM w' A (wordsL x n).length (wordsL x n) ∧ Below w.heap.size w w' := by
  refine (lists_ok x n hn w).mono ?_
  rintro e w' ⟨A, c, rfl, h1, h2⟩
  exact ⟨A, c, by rw [wordsL_len], h1, h2⟩
theorem same_wn (A0 : Option Addr) (c0 : Nat) (A1 : Option Addr) (c1 : Nat) (x : Int) (n : Nat) (w : World) (h0 : Kd.C kM w A0 (wordsL x n).length (wordsL x n)) (h1 : Kd.C kM w A1 (wordsL x n).length (wordsL x n)) (hn : n < 1000000) :
    Calls Try.prog 17 #[.slice A0 n c0, .slice A1 n c1] w fun e w' => e = .returned (.bool true) ∧ Drawn0 w w' := by
  have := same_any A0 c0 (wordsL x n) A1 c1 (wordsL x n) w h0 h1 (by rw [wordsL_len]; omega)
  rw [sameL_refl, wordsL_len] at this
  exact this
set_option maxRecDepth 100000 in
set_option maxHeartbeats 40000000 in
theorem all_any (a b : Int) (Ad : Option Addr) (deeds : List S85) (cd : Nat) (w : World) (hd : Kd.C k85 w Ad deeds.length deeds) :
    Calls Try.prog 5 #[.agg #[.int .i64 a, .int .i64 b], .slice Ad deeds.length cd] w fun e w' => e = .returned (.bool true) ∧ Below w.heap.size w w' := by
  have HD := Aside0.mk hd
  clear hd
  go_enter Try.func5, Try.ntmps5
  go_wp2_with fail
  have HB0 := Aside0.mk (below_alloc (Below.refl w.heap.size w) (.cells #[.int .i64 a, .int .i64 b] 22))
  refine (play_any a b Ad deeds cd _ (Kd.C_below HD.out HB0.out)).mono ?_
  rintro e w1 ⟨M, A, hA1, hA2, g, g', na, nb, ta, tb, Sa, Sb, Ga, Gb, Wp, va, vb, vw, la, lb, ps, rfl, hI, hg, hg', hna, hnb, hP⟩
  generalize w.alloc (.cells #[.int .i64 a, .int .i64 b] 22) = w0 at hP HB0
  obtain ⟨Aa, ca, rfl⟩ := Kd.R_slice hP.ra
  obtain ⟨Ab, cb, rfl⟩ := Kd.R_slice hP.rb
  have HA := Aside0.mk hA2
  have HI := Aside0.mk hI
  have HGT := Aside0.mk (show ta.got = [] ∧ tb.got = [] from ⟨hg, hg'⟩)
  have HN := Aside0.mk (show na ≤ 120 ∧ nb ≤ 120 from ⟨hna, hnb⟩)
  have HP1 := Aside0.mk hP
  clear hI hg hg' hna hnb hP hA1 hA2
  go_wp2_with fail
  generalize hz : (w1.alloc _).alloc _ = w2
  have hb2 : Below w1.heap.size w1 w2 := hz ▸ below_alloc (below_alloc (Below.refl _ _) _) _
  have hx7 : w2.heap[w1.heap.size]? = some (.cells #[.int .i64 (na : Int), .int .i64 (nb : Int)] 22 (0, 0)) := hz ▸ blk_alloc (blk_new w1 _) _
  have hx8 : w2.heap[w1.heap.size + 1]? = some (.cells #[.slice Aa la.length ca, .slice Ab lb.length cb] 41 (0, 0)) := by
    rw [← hz]
    have := blk_new (w1.alloc (Obj.cells #[.int .i64 (na : Int), .int .i64 (nb : Int)] 22)) (Obj.cells #[.slice Aa la.length ca, .slice Ab lb.length cb] 41)
    simpa using this
  clear hz
  refine (told_any _).mono ?_
  rintro e w3 ⟨rfl, hb3⟩
  have hb13 := below_then hb2 hb2.size hb3
  have HP3 := Aside0.mk (HP1.out.below hb13)
  have HY3 : Aside0 (By w0 w3 (U5 Sa Sb Ga Gb Wp) w1.heap.size (w1.heap.size + 1) na nb (.slice Aa la.length ca) (.slice Ab lb.length cb)) := Aside0.mk ⟨⟨blk_below hx7 hb3, fun h => Nat.lt_irrefl _ (HP1.out.ltU _ h)⟩, ⟨blk_below hx8 hb3, fun h => Nat.lt_irrefl _ (Nat.lt_of_succ_lt (HP1.out.ltU _ h))⟩, Nat.lt_succ_self _, HP1.out.two.fr.size⟩
  clear hb13 hb3 hb2 hx7 hx8 HP1
  generalize w1.heap.size + 1 = b8 at HY3 ⊢
  generalize w1.heap.size = b7 at HY3 ⊢
  go_wp2_with fail
  go_loopw [9] (fun v9 wr => ∃ (i : Nat) (ta tb : Tk) (Sa Sb : Nat → Prop), v9 = .int .i64 (i : Int) ∧ Aside0 (i ≤ 3) ∧ Aside0 (Inv 0 1 true M A (2000 * i + 120) na nb ta tb la lb ps) ∧ Aside0 (Far i na nb ta tb) ∧ Aside0 (Pm w0 wr g g' Sa Sb Ga Gb Wp ta tb (.slice Aa la.length ca) (.slice Ab lb.length cb) vw la lb ps) ∧ Aside0 (By w0 wr (U5 Sa Sb Ga Gb Wp) b7 b8 na nb (.slice Aa la.length ca) (.slice Ab lb.length cb))) (fun v9 wr => 3 - (intOf v9).toNat)
  case atStart => exact ⟨0, ta, tb, Sa, Sb, rfl, ⟨by omega⟩, ⟨by simpa using HI.out⟩, ⟨⟨fun h => by omega, fun h => by omega⟩⟩, HP3, HY3⟩
  case round =>
    clear HP3 HY3 HI HGT
    obtain ⟨i, ta, tb, Sa, Sb, rfl, Hi, HI, HF, HP, HY⟩ := hrel
    by_cases hlt : i < 3
    · have h1 : decide ((i : Int) < 3) = true := decide_eq_true (by omega)
      have h1p : (i : Int) < 3 := by omega
      have h1q : i < 3 := hlt
      have hk1 : wrap64 ((i : Int) + 1) = (i : Int) + 1 := by unfold wrap64; omega
      have hk2 : IntKind.i64.wrap ((i : Int) + 1) = (i : Int) + 1 := IntWalk.i64_in _ (by omega)
      have hm1 : wrap64 (2000 * ((i : Int) + 1)) = 2000 * ((i : Int) + 1) := by unfold wrap64; omega
      have hm2 : IntKind.i64.wrap (2000 * ((i : Int) + 1)) = 2000 * ((i : Int) + 1) := IntWalk.i64_in _ (by omega)
      have HNW := Aside0.mk (show (0 : Int) ≤ 2000 * ((i : Int) + 1) ∧ 2000 * ((i : Int) + 1) < 2199023255552 ∧ 2000 * (i : Int) + 120 + 1000 ≤ 2000 * ((i : Int) + 1) ∧ 2000 * ((i : Int) + 1) ≤ 2000 * ((i + 1 : Nat) : Int) + 120 by omega)
      go_wp2_with fail
      generalize 2000 * ((i : Int) + 1) = now at HNW ⊢
      clear hm1 hm2
      have hsh0 := HI.out.ab.short
      have hwl0 : ta.wait.length < 1000000 := by have := HI.out.ab.most; have := HI.out.ab.most64; omega
      obtain ⟨d0, hd0⟩ : ∃ d, dueB ta now = d := ⟨_, rfl⟩
      refine (HP.out.tick now ⟨HNW.out.1, HNW.out.2.1⟩ (by have := HI.out.ca; have := HNW.out; omega) hwl0 (fun m hm => by rw [hsh0 m hm]; omega) d0 hd0).mono ?_
      rintro e w4 ⟨A4, n4, c4, f4, x4, t4, S4, rfl, h4, hw4, hcase⟩
      have hb4 := below_alloc (Below.refl w4.heap.size w4) (.cells #[.int .i64 f4, .slice A4 n4 c4, .int .i64 x4] 36)
      have HP5 := Aside0.mk (h4.below hb4)
      have HY5 := Aside0.mk ((HY.out.went hw4).went (Went.of_below hb4))
      have HCS := Aside0.mk hcase
      have HDD := Aside0.mk hd0
      have hx5 := blk_new w4 (.cells #[.int .i64 f4, .slice A4 n4 c4, .int .i64 x4] 36)
      have HB45 := Aside0.mk hb4
      clear h4 hw4 hcase hb4 hsh0 hwl0 hd0
      go_upto_if 46 with fail
      generalize w4.heap.size = pb at hx5 ⊢
      generalize w4.alloc (.cells #[.int .i64 f4, .slice A4 n4 c4, .int .i64 x4] 36) = w5 at hx5 HP5 HY5 HB45 ⊢
      have HX5 := Aside0.mk hx5
      clear hx5
      go_cut [] (fun wc => ∃ (ta1 tb1 : Tk) (Sa1 Sb1 : Nat → Prop), Aside0 (Inv 0 1 true M A now na nb ta1 tb1 la lb ps) ∧ Aside0 (Half na nb ta tb ta1 tb1) ∧ Aside0 (Pm w0 wc g g' Sa1 Sb1 Ga Gb Wp ta1 tb1 (.slice Aa la.length ca) (.slice Ab lb.length cb) vw la lb ps) ∧ Aside0 (By w0 wc (U5 Sa1 Sb1 Ga Gb Wp) b7 b8 na nb (.slice Aa la.length ca) (.slice Ab lb.length cb)))
      case first =>
        rcases HCS.out with ⟨rfl, rfl, rfl, rfl, rfl, hF4⟩ | ⟨rfl, ht4⟩
        · have hF := hF4.went (Went.of_below HB45.out)
          have hth := HI.out.through (now := now) HNW.out.1 (by have := HNW.out; omega)
          have hbad := HI.out.swap.badP ⟨ta.done, ta.wait, ta.heard⟩ hth.1
          have hack := HI.out.swap.ackd ⟨ta.done, ta.wait, ta.heard⟩ hth.1
          have hfit := HI.out.swap.fit (by have := HN.out; omega) (by have := HN.out; omega)
          have hnr : ¬ tb.heard < ta.done := Int.not_lt.2 hth.1.le
          have HZ := Aside0.mk (show Free w5 _ _ _ ∧ badP ta.done ta.heard ta.wait = false ∧ ta.heard ≤ tb.said ∧ Fit tb ∧ ta.done ≤ tb.heard from ⟨hF.swap, hbad, hack, hfit, hth.1.le⟩)
          have HT1 := Aside0.mk (show Inv 0 1 true M A now na nb (ticked ta now) (heardT tb ta.done ta.heard ta.wait) la lb ps from hth.2.1)
          have HT2 := Aside0.mk hth.2.2
          clear hF hF4 hth hbad hack hfit hnr
          have y0 := blk_cell HX5.out 0
          have y1 := blk_cell HX5.out 1
          have y2 := blk_cell HX5.out 2
          go_wp2_with fail
          clear y0 y1 y2
          refine (HP5.out.swap.hear ta.done ta.heard A4 c4 ta.wait HZ.out.1 HZ.out.2.1 HZ.out.2.2.1 HZ.out.2.2.2.1 (Int.not_lt.2 HZ.out.2.2.2.2)).mono ?_
          rintro e w6 ⟨rfl, S6, h6, hw6⟩
          have HP6 := Aside0.mk (h6.swap)
          have HY6 := Aside0.mk (HY5.out.went (Went.sw0 hw6))
          clear h6 hw6
          go_wp2
          go_meet
          exact ⟨ticked ta now, heardT tb ta.done ta.heard ta.wait, _, _, HT1, HT2, HP6, HY6⟩
        · rw [ht4] at HP5
          have HT2 := Aside0.mk (HI.out.quiet HA.out (by have := HI.out.ca; have := HNW.out; omega) HDD.out)
          have HT1 := Aside0.mk (HI.out.later (T' := now) (by have := HNW.out; omega))
          go_wp2
          go_meet
          exact ⟨ta, tb, _, _, HT1, HT2, HP5, HY5⟩
      case rest =>
        obtain ⟨ta1, tb1, Sa1, Sb1, HI1, HH1, HP1, HY1⟩ := hcut
        clear HCS HDD HP5 HY5 HX5 HB45
        go_wp2_with fail
        have hsh1 := HI1.out.swap.ab.short
        have hwl1 : tb1.wait.length < 1000000 := by have := HI1.out.swap.ab.most; have := HI1.out.swap.ab.most64; omega
        obtain ⟨d1, hd1⟩ : ∃ d, dueB tb1 now = d := ⟨_, rfl⟩
        refine (HP1.out.swap.tick now ⟨HNW.out.1, HNW.out.2.1⟩ (by have := HI1.out.swap.ca; have := HNW.out; have := HI1.out.cb; omega) hwl1 (fun m hm => by rw [hsh1 m hm]; omega) d1 hd1).mono ?_
        rintro e w4 ⟨A4, n4, c4, f4, x4, t4, S4, rfl, h4, hw4, hcase⟩
        have hb4 := below_alloc (Below.refl w4.heap.size w4) (.cells #[.int .i64 f4, .slice A4 n4 c4, .int .i64 x4] 36)
        have HP5 := Aside0.mk (h4.swap.below hb4)
        have HY5 := Aside0.mk ((HY1.out.went (Went.sw0 hw4)).went (Went.of_below hb4))
        have HCS := Aside0.mk hcase
        have HDD := Aside0.mk hd1
        have hx5 := blk_new w4 (.cells #[.int .i64 f4, .slice A4 n4 c4, .int .i64 x4] 36)
        have HB45 := Aside0.mk hb4
        clear h4 hw4 hcase hb4 hsh1 hwl1 hd1
        go_upto_if 56 with fail
        generalize w4.heap.size = pb at hx5 ⊢
        generalize w4.alloc (.cells #[.int .i64 f4, .slice A4 n4 c4, .int .i64 x4] 36) = w5 at hx5 HP5 HY5 HB45 ⊢
        have HX5 := Aside0.mk hx5
        clear hx5
        rcases HCS.out with ⟨rfl, rfl, rfl, rfl, rfl, hF4⟩ | ⟨rfl, ht4⟩
        · have hF := hF4.went (Went.of_below HB45.out)
          have hth := HI1.out.swap.through (now := now) HNW.out.1 (Int.le_refl _)
          have hbad := HI1.out.badP ⟨tb1.done, tb1.wait, tb1.heard⟩ hth.1
          have hack := HI1.out.ackd ⟨tb1.done, tb1.wait, tb1.heard⟩ hth.1
          have hfit := HI1.out.fit (by have := HN.out; omega) (by have := HN.out; omega)
          have hnr : ¬ ta1.heard < tb1.done := Int.not_lt.2 hth.1.le
          have HZ := Aside0.mk (show Free w5 _ _ _ ∧ badP tb1.done tb1.heard tb1.wait = false ∧ tb1.heard ≤ ta1.said ∧ Fit ta1 ∧ tb1.done ≤ ta1.heard from ⟨hF.swap, hbad, hack, hfit, hth.1.le⟩)
          have HT1 := Aside0.mk (show Inv 0 1 true M A now na nb (heardT ta1 tb1.done tb1.heard tb1.wait) (ticked tb1 now) la lb ps from (by simpa using hth.2.1.swap))
          have HT2 := Aside0.mk hth.2.2
          clear hF hF4 hth hbad hack hfit hnr
          have y0 := blk_cell HX5.out 0
          have y1 := blk_cell HX5.out 1
          have y2 := blk_cell HX5.out 2
          go_wp2_with fail
          clear y0 y1 y2
          refine (HP5.out.hear tb1.done tb1.heard A4 c4 tb1.wait HZ.out.1 HZ.out.2.1 HZ.out.2.2.1 HZ.out.2.2.2.1 (Int.not_lt.2 HZ.out.2.2.2.2)).mono ?_
          rintro e w6 ⟨rfl, S6, h6, hw6⟩
          have HP6 := Aside0.mk (h6)
          have HY6 := Aside0.mk (HY5.out.went hw6)
          clear h6 hw6
          have HI3 := Aside0.mk (HT1.out.later HNW.out.2.2.2)
          have HF3 := Aside0.mk (HF.out.next HH1.out HT2.out)
          go_wp2
          go_roundw
          case rel => exact ⟨i + 1, heardT ta1 tb1.done tb1.heard tb1.wait, ticked tb1 now, _, _, by go_num, ⟨by omega⟩, HI3, HF3, HP6, HY6⟩
          case measure => simp [intOf]; omega
        · rw [ht4] at HP5
          have HT2 := Aside0.mk (HI1.out.swap.quiet HA.out (by have := HH1.out.last; have := HI.out.cb; have := HNW.out; omega) HDD.out)
          have HT1 := Aside0.mk (HI1.out)
          have HI3 := Aside0.mk (HT1.out.later HNW.out.2.2.2)
          have HF3 := Aside0.mk (HF.out.next HH1.out HT2.out)
          go_wp2
          go_roundw
          case rel => exact ⟨i + 1, ta1, tb1, _, _, by go_num, ⟨by omega⟩, HI3, HF3, HP5, HY5⟩
          case measure => simp [intOf]; omega
    · have hi3 : i = 3 := by have := Hi.out; omega
      have h1 : decide ((i : Int) < 3) = false := decide_eq_false (by omega)
      have h1p : ¬ (i : Int) < 3 := by omega
      clear hlt
      obtain ⟨hwa, -, hha, hhb⟩ := HF.out.one (by omega)
      have HWA := Aside0.mk hwa
      have HWB := Aside0.mk (HF.out.two (by omega))
      have HEA := Aside0.mk (show la ++ ta.got = wordsL 1 nb by
        have := HI.out.ba.all
        rw [hha, wordsL_take 1 nb _ (by omega)] at this
        simpa using this)
      have HEB := Aside0.mk (show lb ++ tb.got = wordsL 0 na by
        have := HI.out.ab.all
        rw [hhb, wordsL_take 0 na _ (by omega)] at this
        simpa using this)
      have HLla := Aside0.mk (show (la.length + ta.got.length) * 24 ≤ 140737488355328 by
        have := congrArg List.length HEA.out
        rw [List.length_append, wordsL_len] at this
        have := HN.out; omega)
      have HLlb := Aside0.mk (show (lb.length + tb.got.length) * 24 ≤ 140737488355328 by
        have := congrArg List.length HEB.out
        rw [List.length_append, wordsL_len] at this
        have := HN.out; omega)
      clear hwa hha hhb
      go_upto_region 14 with fail
      clear h1 h1p hi3 HI HF

      refine start_ (n := 7) (S := fun w' => w'.cell? ⟨b8, 0, none⟩ = some (.slice Aa la.length ca)) (ds := [6]) #[false, false, false, false, false, false, false] (by kernel_rfl) rfl rfl (blk_cell (blk_below HY.out.x8.at_ (below_drew (Below.refl _ _))) 0) (fun hHeld => ?_)
      refine pure_ (i := 0) (N := some 60) (v := ?_) (a' := ?_) #[true, false, false, false, false, false, false] rfl rfl (by kernel_rfl) (fun _ _ _ h => h) (Or.inl ⟨by rfl, ?_⟩) ?_ ?_
      rotate_left
      · intro w'
        go_simp
        with_reducible rfl
      rotate_left
      · simp only [Act.put, List.setIfInBounds_toArray, List.set_cons_zero, List.set_cons_succ, i64_w, i32_w]
        rfl
      refine pure_ (i := 2) (N := some 62) (v := ?_) (a' := ?_) #[true, false, true, false, false, false, false] rfl rfl (by kernel_rfl) (fun _ _ _ h => h) (Or.inl ⟨by rfl, ?_⟩) ?_ ?_
      rotate_left
      · intro w'
        go_simp
        with_reducible rfl
      rotate_left
      · simp only [Act.put, List.setIfInBounds_toArray, List.set_cons_zero, List.set_cons_succ, i64_w, i32_w]
        rfl
      refine take_ (i := 1) (N := some 61) (v := ?_) (a' := ?_) #[true, true, true, false, false, false, false] rfl rfl (by kernel_rfl) (fun _ _ _ h => h) (Or.inl ⟨by rfl, ?_⟩) hHeld ?_ ?_
      rotate_left
      · intro w' s0
        go_simp
        with_reducible rfl
      rotate_left
      · simp only [Act.put, List.setIfInBounds_toArray, List.set_cons_zero, List.set_cons_succ, i64_w, i32_w]
        rfl
      refine one_ (i := 3) (N := some 63) #[true, true, true, true, false, false, false] rfl rfl (by kernel_rfl) (by decide) (fun K hK => ?_)
      refine goes_ Try.func21 (by kernel_rfl) rfl #[.pointer (some ⟨g, 0, none⟩)] (by rfl) rfl rfl (by simp only [List.map_toArray, List.map_cons, List.map_nil]; rfl) ?_
      with_reducible refine ((HP.out.below (below_drew (Below.refl _ _))).got).mono ?_
      rintro e w3 ⟨A3, c3, rfl, Sa3, So, h3, hv3, hso3, hw3⟩
      refine ⟨_, rfl, ?_⟩
      obtain ⟨A3_, c3_, he3, -, hrow3⟩ := hv3.2.reads
      injection he3 with e31 e32 e33
      subst e31 e33
      clear e32
      have HP3 := Aside0.mk h3
      have HSO3 := Aside0.mk hso3
      have HRow3 := Aside0.mk hrow3
      have HV3 := Aside0.mk hv3
      have HF3 := Aside0.mk (show Below 0 wr w3 from ⟨hw3.fr.os, hw3.fr.tape, hw3.fr.output, hw3.fr.size, fun k hk => by omega⟩)
      have HB3 := Aside0.mk ((HY.out.went (Went.of_below (below_drew (Below.refl _ _)))).went hw3)
      clear h3 hso3 hrow3 hv3 hw3
      refine hK.out _ _ (blk_cell HB3.out.x8.at_ 0) (fun hHeld => ?_)
      clear hK K
      refine norm_ (a' := ?_) ?_ ?_
      rotate_left
      · show Act.put _ (some 63) _ = _
        simp only [Act.put, List.setIfInBounds_toArray, List.set_cons_zero, List.set_cons_succ, i64_w, i32_w]
        rfl
      refine one_ (i := 4) (N := some 64) #[true, true, true, true, true, false, false] rfl rfl (by kernel_rfl) (by decide) (fun K hK => ?_)
      refine Kd.R_append_rows_step kM (w0 := wr) 0 (by rfl) (.tmp 61) (.tmp 63) 25 34 (.slice none 0 0) 24 (by rfl) Try.underlying25 info34' rfl (by decide) (by omega) (.slice Aa la.length ca) la ta.got A3 ta.got.length c3 (fun k => Ga k ∨ So k ∨ w3.heap.size ≤ k) _ (by rfl) (by rfl) (Kd.R_mono HP3.out.ra (fun _ h => .inl h)) HRow3.out (fun _ _ h => h) (fun k hk => ⟨.inr (.inl hk.1), fun e => (HSO3.out k hk.1).1 (.inr (.inl (HP3.out.ra.1 k e.symm)))⟩) (fun k hk => .inr (.inr hk)) HF3.out (Nat.zero_le _) (by have := HLla.out; omega) ?_
      intro v1 w4 ho hb1 hg hat
      obtain ⟨A4, c4, rfl⟩ := Kd.R_slice ho
      have h4 := HP3.out.addG HSO3.out (Fr.of_grown hg (fun k hk => HP3.out.ra.1 k hk)) ho (fun k hk => hk)
      have HP4 := Aside0.mk h4.1
      have HB4 := Aside0.mk (HB3.out.went h4.2)
      have hfz : w4.frozen? ⟨b8, 0, none⟩ = false := blk_frozen HB4.out.x8.at_ 0
      have hcz : w4.cell? ⟨b8, 0, none⟩ = some (.slice Aa la.length ca) := blk_cell HB4.out.x8.at_ 0
      clear ho hb1 hg hat h4
      refine hK.out _ _ (blk_cell HB4.out.x8.at_ 0) (fun hHeld => ?_)
      clear hK K
      refine norm_ (a' := ?_) ?_ ?_
      rotate_left
      · show Act.put _ (some 64) _ = _
        simp only [Act.put, List.setIfInBounds_toArray, List.set_cons_zero, List.set_cons_succ, i64_w, i32_w]
        rfl
      refine pure_ (i := 5) (N := some 65) (v := ?_) (a' := ?_) #[true, true, true, true, true, true, false] rfl rfl (by kernel_rfl) (fun _ _ _ h => h) (Or.inl ⟨by rfl, ?_⟩) ?_ ?_
      rotate_left
      · intro w'
        go_simp
        with_reducible rfl
      rotate_left
      · simp only [Act.put, List.setIfInBounds_toArray, List.set_cons_zero, List.set_cons_succ, i64_w, i32_w]
        rfl
      refine last_ (i := 6) (N := none) #[true, true, true, true, true, true, true] rfl rfl (by kernel_rfl) (by decide) (fun K hK => ?_)
      refine skip_ (w1 := ?_) (by rfl) rfl ?_ ?_
      rotate_left
      · go_simp
        rfl
      refine hK.out _ _ ?_
      clear hK K
      refine done_ (by kernel_rfl) ?_
      have hP4 := HP4.out
      rw [List.length_append] at hP4
      have hf5 : Fr (fun k => k = b8) w4 (w4.setCell ⟨b8, 0, none⟩ (.slice A4 (la.length + ta.got.length) c4)) := Fr.setCell (S := fun k => k = b8) _ rfl _
      have hne := HB4.out.ne
      have hx8 := HB4.out.x8.put 0 (.slice A4 (la.length + ta.got.length) c4) rfl
      have hP5 := hP4.far HB4.out.x8.far (by have := HB4.out.ge; omega) hf5
      have hB5 : By w0 _ _ b7 b8 na nb (.slice A4 (la.length + ta.got.length) c4) (.slice Ab lb.length cb) := ⟨HB4.out.x7.other hf5 (by omega), hx8, hne, HB4.out.ge⟩
      obtain ⟨Ga5, HP5, HY5⟩ : ∃ Ga5, Aside0 (Pm w0 (w4.setCell ⟨b8, 0, none⟩ (.slice A4 (la.length + ta.got.length) c4)) g g' Sa3 Sb Ga5 Gb Wp { ta with got := [] } tb (.slice A4 (la.length + ta.got.length) c4) (.slice Ab lb.length cb) vw (la ++ ta.got) lb ps) ∧ Aside0 (By w0 (w4.setCell ⟨b8, 0, none⟩ (.slice A4 (la.length + ta.got.length) c4)) (U5 Sa3 Sb Ga5 Gb Wp) b7 b8 na nb (.slice A4 (la.length + ta.got.length) c4) (.slice Ab lb.length cb)) := ⟨_, ⟨hP5⟩, ⟨hB5⟩⟩
      clear hP5 hB5 hP4 hf5 hne hx8 HP4 HB4 HP3 HB3 HSO3 HF3 HRow3 HV3 hfz hcz
      generalize w4.setCell ⟨b8, 0, none⟩ (.slice A4 (la.length + ta.got.length) c4) = w5 at HP5 HY5 ⊢
      go_upto_region 15 with fail
      refine start_ (n := 7) (S := fun w' => w'.cell? ⟨b8, 1, none⟩ = some (.slice Ab lb.length cb)) (ds := [6]) #[false, false, false, false, false, false, false] (by kernel_rfl) rfl rfl (blk_cell (blk_below HY5.out.x8.at_ (below_drew (Below.refl _ _))) 1) (fun hHeld => ?_)
      refine pure_ (i := 0) (N := some 66) (v := ?_) (a' := ?_) #[true, false, false, false, false, false, false] rfl rfl (by kernel_rfl) (fun _ _ _ h => h) (Or.inl ⟨by rfl, ?_⟩) ?_ ?_
      rotate_left
      · intro w'
        go_simp
        with_reducible rfl
      rotate_left
      · simp only [Act.put, List.setIfInBounds_toArray, List.set_cons_zero, List.set_cons_succ, i64_w, i32_w]
        rfl
      refine pure_ (i := 2) (N := some 68) (v := ?_) (a' := ?_) #[true, false, true, false, false, false, false] rfl rfl (by kernel_rfl) (fun _ _ _ h => h) (Or.inl ⟨by rfl, ?_⟩) ?_ ?_
      rotate_left
      · intro w'
        go_simp
        with_reducible rfl
      rotate_left
      · simp only [Act.put, List.setIfInBounds_toArray, List.set_cons_zero, List.set_cons_succ, i64_w, i32_w]
        rfl
      refine take_ (i := 1) (N := some 67) (v := ?_) (a' := ?_) #[true, true, true, false, false, false, false] rfl rfl (by kernel_rfl) (fun _ _ _ h => h) (Or.inl ⟨by rfl, ?_⟩) hHeld ?_ ?_
      rotate_left
      · intro w' s0
        go_simp
        with_reducible rfl
      rotate_left
      · simp only [Act.put, List.setIfInBounds_toArray, List.set_cons_zero, List.set_cons_succ, i64_w, i32_w]
        rfl
      refine one_ (i := 3) (N := some 69) #[true, true, true, true, false, false, false] rfl rfl (by kernel_rfl) (by decide) (fun K hK => ?_)
      refine goes_ Try.func21 (by kernel_rfl) rfl #[.pointer (some ⟨g', 0, none⟩)] (by rfl) rfl rfl (by simp only [List.map_toArray, List.map_cons, List.map_nil]; rfl) ?_
      with_reducible refine ((HP5.out.swap.below (below_drew (Below.refl _ _))).got).mono ?_
      rintro e w3 ⟨A3, c3, rfl, Sa3, So, h3, hv3, hso3, hw3⟩
      refine ⟨_, rfl, ?_⟩
      obtain ⟨A3_, c3_, he3, -, hrow3⟩ := hv3.2.reads
      injection he3 with e31 e32 e33
      subst e31 e33
      clear e32
      have HP3 := Aside0.mk h3
      have HSO3 := Aside0.mk hso3
      have HRow3 := Aside0.mk hrow3
      have HV3 := Aside0.mk hv3
      have HF3 := Aside0.mk (show Below 0 w5 w3 from ⟨hw3.fr.os, hw3.fr.tape, hw3.fr.output, hw3.fr.size, fun k hk => by omega⟩)
      have HB3 := Aside0.mk ((HY5.out.went (Went.of_below (below_drew (Below.refl _ _)))).went (Went.sw1 hw3))
      clear h3 hso3 hrow3 hv3 hw3
      refine hK.out _ _ (blk_cell HB3.out.x8.at_ 1) (fun hHeld => ?_)
      clear hK K
      refine norm_ (a' := ?_) ?_ ?_
      rotate_left
      · show Act.put _ (some 69) _ = _
        simp only [Act.put, List.setIfInBounds_toArray, List.set_cons_zero, List.set_cons_succ, i64_w, i32_w]
        rfl
      refine one_ (i := 4) (N := some 70) #[true, true, true, true, true, false, false] rfl rfl (by kernel_rfl) (by decide) (fun K hK => ?_)
      refine Kd.R_append_rows_step kM (w0 := w5) 0 (by rfl) (.tmp 67) (.tmp 69) 25 34 (.slice none 0 0) 24 (by rfl) Try.underlying25 info34' rfl (by decide) (by omega) (.slice Ab lb.length cb) lb tb.got A3 tb.got.length c3 (fun k => Gb k ∨ So k ∨ w3.heap.size ≤ k) _ (by rfl) (by rfl) (Kd.R_mono HP3.out.ra (fun _ h => .inl h)) HRow3.out (fun _ _ h => h) (fun k hk => ⟨.inr (.inl hk.1), fun e => (HSO3.out k hk.1).1 (.inr (.inl (HP3.out.ra.1 k e.symm)))⟩) (fun k hk => .inr (.inr hk)) HF3.out (Nat.zero_le _) (by have := HLlb.out; omega) ?_
      intro v1 w4 ho hb1 hg hat
      obtain ⟨A7, c7, rfl⟩ := Kd.R_slice ho
      have h4 := HP3.out.addG HSO3.out (Fr.of_grown hg (fun k hk => HP3.out.ra.1 k hk)) ho (fun k hk => hk)
      have HP4 := Aside0.mk h4.1
      have HB4 := Aside0.mk (HB3.out.went (Went.sw2 h4.2))
      have hfz : w4.frozen? ⟨b8, 1, none⟩ = false := blk_frozen HB4.out.x8.at_ 1
      have hcz : w4.cell? ⟨b8, 1, none⟩ = some (.slice Ab lb.length cb) := blk_cell HB4.out.x8.at_ 1
      clear ho hb1 hg hat h4
      refine hK.out _ _ (blk_cell HB4.out.x8.at_ 1) (fun hHeld => ?_)
      clear hK K
      refine norm_ (a' := ?_) ?_ ?_
      rotate_left
      · show Act.put _ (some 70) _ = _
        simp only [Act.put, List.setIfInBounds_toArray, List.set_cons_zero, List.set_cons_succ, i64_w, i32_w]
        rfl
      refine pure_ (i := 5) (N := some 71) (v := ?_) (a' := ?_) #[true, true, true, true, true, true, false] rfl rfl (by kernel_rfl) (fun _ _ _ h => h) (Or.inl ⟨by rfl, ?_⟩) ?_ ?_
      rotate_left
      · intro w'
        go_simp
        with_reducible rfl
      rotate_left
      · simp only [Act.put, List.setIfInBounds_toArray, List.set_cons_zero, List.set_cons_succ, i64_w, i32_w]
        rfl
      refine last_ (i := 6) (N := none) #[true, true, true, true, true, true, true] rfl rfl (by kernel_rfl) (by decide) (fun K hK => ?_)
      refine skip_ (w1 := ?_) (by rfl) rfl ?_ ?_
      rotate_left
      · go_simp
        rfl
      refine hK.out _ _ ?_
      clear hK K
      refine done_ (by kernel_rfl) ?_
      have hP4 := HP4.out.swap
      rw [List.length_append] at hP4
      have hf6 : Fr (fun k => k = b8) w4 (w4.setCell ⟨b8, 1, none⟩ (.slice A7 (lb.length + tb.got.length) c7)) := Fr.setCell (S := fun k => k = b8) _ rfl _
      have hne := HB4.out.ne
      have hx8 := HB4.out.x8.put 1 (.slice A7 (lb.length + tb.got.length) c7) rfl
      have HP6 := Aside0.mk (hP4.far HB4.out.x8.far (by have := HB4.out.ge; omega) hf6)
      have HY6 : Aside0 (By w0 _ _ b7 b8 na nb (.slice A4 (la.length + ta.got.length) c4) (.slice A7 (lb.length + tb.got.length) c7)) := Aside0.mk ⟨HB4.out.x7.other hf6 (by omega), hx8, hne, HB4.out.ge⟩
      clear hP4 hf6 hne hx8 HP4 HB4 HP3 HB3 HSO3 HF3 HRow3 HV3 hfz hcz HP5 HY5
      have hla : la.length + ta.got.length = nb := by
        have := congrArg List.length HEA.out
        rwa [List.length_append, wordsL_len] at this
      have hlb : lb.length + tb.got.length = na := by
        have := congrArg List.length HEB.out
        rwa [List.length_append, wordsL_len] at this
      rw [hla, hlb, HEA.out, HEB.out] at HP6
      rw [hla, hlb] at HY6
      rw [hlb]
      generalize w4.setCell ⟨b8, 1, none⟩ (.slice A7 na c7) = w6 at HP6 HY6 ⊢
      clear hla hlb
      go_upto_region 16 with fail
      have HCa := Aside0.mk (Kd.R_reads' HP6.out.ra).2.2
      have HCb := Aside0.mk (Kd.R_reads' HP6.out.rb).2.2
      refine start_ (n := 23) (S := fun w' => w'.cell? ⟨b8, 0, none⟩ = some (.slice A4 nb c4) ∧ w'.cell? ⟨b8, 1, none⟩ = some (.slice A7 na c7) ∧ w'.cell? ⟨b7, 0, none⟩ = some (.int .i64 (na : Int)) ∧ w'.cell? ⟨b7, 1, none⟩ = some (.int .i64 (nb : Int))) (ds := []) #[false, false, false, false, false, false, false, false, false, false, false, false, false, false, false, false, false, false, false, false, false, false, false] (by kernel_rfl) rfl rfl ⟨blk_cell (blk_below HY6.out.x8.at_ (below_drew (Below.refl _ _))) 0, blk_cell (blk_below HY6.out.x8.at_ (below_drew (Below.refl _ _))) 1, blk_cell (blk_below HY6.out.x7.at_ (below_drew (Below.refl _ _))) 0, blk_cell (blk_below HY6.out.x7.at_ (below_drew (Below.refl _ _))) 1⟩ (fun hHeld => ?_)
      refine pure_ (i := 0) (N := some 72) (v := ?_) (a' := ?_) #[true, false, false, false, false, false, false, false, false, false, false, false, false, false, false, false, false, false, false, false, false, false, false] rfl rfl (by kernel_rfl) (fun _ _ _ h => h) (Or.inl ⟨by rfl, ?_⟩) ?_ ?_
      rotate_left
      · intro w'
        go_simp
        with_reducible rfl
      rotate_left
      · simp only [Act.put, List.setIfInBounds_toArray, List.set_cons_zero, List.set_cons_succ, i64_w, i32_w]
        rfl
      refine pure_ (i := 2) (N := some 74) (v := ?_) (a' := ?_) #[true, false, true, false, false, false, false, false, false, false, false, false, false, false, false, false, false, false, false, false, false, false, false] rfl rfl (by kernel_rfl) (fun _ _ _ h => h) (Or.inl ⟨by rfl, ?_⟩) ?_ ?_
      rotate_left
      · intro w'
        go_simp
        with_reducible rfl
      rotate_left
      · simp only [Act.put, List.setIfInBounds_toArray, List.set_cons_zero, List.set_cons_succ, i64_w, i32_w]
        rfl
      refine take_ (i := 1) (N := some 73) (v := ?_) (a' := ?_) #[true, true, true, false, false, false, false, false, false, false, false, false, false, false, false, false, false, false, false, false, false, false, false] rfl rfl (by kernel_rfl) (fun _ _ _ h => h) (Or.inl ⟨by rfl, ?_⟩) hHeld ?_ ?_
      rotate_left
      · rintro w' ⟨s0, s1, s2, s3⟩
        go_simp
        with_reducible rfl
      rotate_left
      · simp only [Act.put, List.setIfInBounds_toArray, List.set_cons_zero, List.set_cons_succ, i64_w, i32_w]
        rfl
      refine take_ (i := 3) (N := some 75) (v := ?_) (a' := ?_) #[true, true, true, true, false, false, false, false, false, false, false, false, false, false, false, false, false, false, false, false, false, false, false] rfl rfl (by kernel_rfl) (fun _ _ _ h => h) (Or.inl ⟨by rfl, ?_⟩) hHeld ?_ ?_
      rotate_left
      · rintro w' ⟨s0, s1, s2, s3⟩
        go_simp
        with_reducible rfl
      rotate_left
      · simp only [Act.put, List.setIfInBounds_toArray, List.set_cons_zero, List.set_cons_succ, i64_w, i32_w]
        rfl
      refine one_ (i := 4) (N := some 76) #[true, true, true, true, true, false, false, false, false, false, false, false, false, false, false, false, false, false, false, false, false, false, false] rfl rfl (by kernel_rfl) (by decide) (fun K hK => ?_)
      refine goes_ Try.func18 (by kernel_rfl) rfl #[.int .u8 1, .int .i64 (nb : Int)] (by rfl) rfl rfl (by simp only [List.map_toArray, List.map_cons, List.map_nil]; rfl) ?_
      with_reducible refine (lists_n 1 nb (by have := HN.out; omega) _).mono ?_
      rintro e w7 ⟨A8, c8, rfl, hC8, hb8⟩
      refine ⟨_, rfl, ?_⟩
      have HC8 := Aside0.mk hC8
      have HB7 := Aside0.mk (show Below w6.heap.size w6 w7 from below_then (below_drew (Below.refl _ _)) (Nat.le_refl _) hb8)
      clear hC8 hb8
      refine hK.out _ _ ⟨blk_cell (blk_below HY6.out.x8.at_ HB7.out) 0, blk_cell (blk_below HY6.out.x8.at_ HB7.out) 1, blk_cell (blk_below HY6.out.x7.at_ HB7.out) 0, blk_cell (blk_below HY6.out.x7.at_ HB7.out) 1⟩ (fun hHeld => ?_)
      clear hK K
      refine norm_ (a' := ?_) ?_ ?_
      rotate_left
      · show Act.put _ (some 76) _ = _
        simp only [Act.put, List.setIfInBounds_toArray, List.set_cons_zero, List.set_cons_succ, i64_w, i32_w]
        rfl
      refine one_ (i := 5) (N := some 77) #[true, true, true, true, true, true, false, false, false, false, false, false, false, false, false, false, false, false, false, false, false, false, false] rfl rfl (by kernel_rfl) (by decide) (fun K hK => ?_)
      refine goes_ Try.func17 (by kernel_rfl) rfl #[.slice A4 nb c4, .slice A8 nb c8] (by rfl) rfl rfl (by simp only [List.map_toArray, List.map_cons, List.map_nil]; rfl) ?_
      with_reducible refine (same_wn A4 c4 A8 c8 1 nb _ (Kd.C_below HCa.out HB7.out) HC8.out (by have := HN.out; omega)).mono ?_
      rintro e w8 ⟨rfl, ⟨nd, rfl⟩⟩
      refine ⟨_, rfl, ?_⟩
      have HB8 := Aside0.mk (pw_below_drewN HB7.out nd)
      refine hK.out _ _ ⟨blk_cell (blk_below HY6.out.x8.at_ HB8.out) 0, blk_cell (blk_below HY6.out.x8.at_ HB8.out) 1, blk_cell (blk_below HY6.out.x7.at_ HB8.out) 0, blk_cell (blk_below HY6.out.x7.at_ HB8.out) 1⟩ (fun hHeld => ?_)
      clear hK K
      refine norm_ (a' := ?_) ?_ ?_
      rotate_left
      · show Act.put _ (some 77) _ = _
        simp only [Act.put, List.setIfInBounds_toArray, List.set_cons_zero, List.set_cons_succ, i64_w, i32_w]
        rfl
      refine pure_ (i := 6) (N := some 78) (v := ?_) (a' := ?_) #[true, true, true, true, true, true, true, false, false, false, false, false, false, false, false, false, false, false, false, false, false, false, false] rfl rfl (by kernel_rfl) (fun _ _ _ h => h) (Or.inl ⟨by rfl, ?_⟩) ?_ ?_
      rotate_left
      · intro w'
        go_simp
        with_reducible rfl
      rotate_left
      · simp only [Act.put, List.setIfInBounds_toArray, List.set_cons_zero, List.set_cons_succ, i64_w, i32_w]
        rfl
      refine pure_ (i := 7) (N := some 79) (v := ?_) (a' := ?_) #[true, true, true, true, true, true, true, true, false, false, false, false, false, false, false, false, false, false, false, false, false, false, false] rfl rfl (by kernel_rfl) (fun _ _ _ h => h) (Or.inl ⟨by rfl, ?_⟩) ?_ ?_
      rotate_left
      · intro w'
        go_simp
        with_reducible rfl
      rotate_left
      · simp only [Act.put, List.setIfInBounds_toArray, List.set_cons_zero, List.set_cons_succ, i64_w, i32_w]
        rfl
      refine pure_ (i := 9) (N := some 81) (v := ?_) (a' := ?_) #[true, true, true, true, true, true, true, true, false, true, false, false, false, false, false, false, false, false, false, false, false, false, false] rfl rfl (by kernel_rfl) (fun _ _ _ h => h) (Or.inl ⟨by rfl, ?_⟩) ?_ ?_
      rotate_left
      · intro w'
        go_simp
        with_reducible rfl
      rotate_left
      · simp only [Act.put, List.setIfInBounds_toArray, List.set_cons_zero, List.set_cons_succ, i64_w, i32_w]
        rfl
      refine take_ (i := 8) (N := some 80) (v := ?_) (a' := ?_) #[true, true, true, true, true, true, true, true, true, true, false, false, false, false, false, false, false, false, false, false, false, false, false] rfl rfl (by kernel_rfl) (fun _ _ _ h => h) (Or.inl ⟨by rfl, ?_⟩) hHeld ?_ ?_
      rotate_left
      · rintro w' ⟨s0, s1, s2, s3⟩
        go_simp
        with_reducible rfl
      rotate_left
      · simp only [Act.put, List.setIfInBounds_toArray, List.set_cons_zero, List.set_cons_succ, i64_w, i32_w]
        rfl
      refine take_ (i := 10) (N := some 82) (v := ?_) (a' := ?_) #[true, true, true, true, true, true, true, true, true, true, true, false, false, false, false, false, false, false, false, false, false, false, false] rfl rfl (by kernel_rfl) (fun _ _ _ h => h) (Or.inl ⟨by rfl, ?_⟩) hHeld ?_ ?_
      rotate_left
      · rintro w' ⟨s0, s1, s2, s3⟩
        go_simp
        with_reducible rfl
      rotate_left
      · simp only [Act.put, List.setIfInBounds_toArray, List.set_cons_zero, List.set_cons_succ, i64_w, i32_w]
        rfl
      refine one_ (i := 11) (N := some 83) #[true, true, true, true, true, true, true, true, true, true, true, true, false, false, false, false, false, false, false, false, false, false, false] rfl rfl (by kernel_rfl) (by decide) (fun K hK => ?_)
      refine goes_ Try.func18 (by kernel_rfl) rfl #[.int .u8 0, .int .i64 (na : Int)] (by rfl) rfl rfl (by simp only [List.map_toArray, List.map_cons, List.map_nil]; rfl) ?_
      with_reducible refine (lists_n 0 na (by have := HN.out; omega) _).mono ?_
      rintro e w9 ⟨A9, c9, rfl, hC9, hb9⟩
      refine ⟨_, rfl, ?_⟩
      have HC9 := Aside0.mk hC9
      have HB9 := Aside0.mk (below_then HB8.out HB8.out.size hb9)
      clear hC9 hb9
      refine hK.out _ _ ⟨blk_cell (blk_below HY6.out.x8.at_ HB9.out) 0, blk_cell (blk_below HY6.out.x8.at_ HB9.out) 1, blk_cell (blk_below HY6.out.x7.at_ HB9.out) 0, blk_cell (blk_below HY6.out.x7.at_ HB9.out) 1⟩ (fun hHeld => ?_)
      clear hK K
      refine norm_ (a' := ?_) ?_ ?_
      rotate_left
      · show Act.put _ (some 83) _ = _
        simp only [Act.put, List.setIfInBounds_toArray, List.set_cons_zero, List.set_cons_succ, i64_w, i32_w]
        rfl
      refine one_ (i := 12) (N := some 84) #[true, true, true, true, true, true, true, true, true, true, true, true, true, false, false, false, false, false, false, false, false, false, false] rfl rfl (by kernel_rfl) (by decide) (fun K hK => ?_)
      refine goes_ Try.func17 (by kernel_rfl) rfl #[.slice A7 na c7, .slice A9 na c9] (by rfl) rfl rfl (by simp only [List.map_toArray, List.map_cons, List.map_nil]; rfl) ?_
      with_reducible refine (same_wn A7 c7 A9 c9 0 na _ (Kd.C_below HCb.out HB9.out) HC9.out (by have := HN.out; omega)).mono ?_
      rintro e w10 ⟨rfl, ⟨nd2, rfl⟩⟩
      refine ⟨_, rfl, ?_⟩
      have HB10 := Aside0.mk (pw_below_drewN HB9.out nd2)
      refine hK.out _ _ ⟨blk_cell (blk_below HY6.out.x8.at_ HB10.out) 0, blk_cell (blk_below HY6.out.x8.at_ HB10.out) 1, blk_cell (blk_below HY6.out.x7.at_ HB10.out) 0, blk_cell (blk_below HY6.out.x7.at_ HB10.out) 1⟩ (fun hHeld => ?_)
      clear hK K
      refine norm_ (a' := ?_) ?_ ?_
      rotate_left
      · show Act.put _ (some 84) _ = _
        simp only [Act.put, List.setIfInBounds_toArray, List.set_cons_zero, List.set_cons_succ, i64_w, i32_w]
        rfl
      refine pure_ (i := 13) (N := some 85) (v := ?_) (a' := ?_) #[true, true, true, true, true, true, true, true, true, true, true, true, true, true, false, false, false, false, false, false, false, false, false] rfl rfl (by kernel_rfl) (fun _ _ _ h => h) (Or.inl ⟨by rfl, ?_⟩) ?_ ?_
      rotate_left
      · intro w'
        go_simp
        with_reducible rfl
      rotate_left
      · simp only [Act.put, List.setIfInBounds_toArray, List.set_cons_zero, List.set_cons_succ, i64_w, i32_w]
        rfl
      refine pure_ (i := 14) (N := some 86) (v := ?_) (a' := ?_) #[true, true, true, true, true, true, true, true, true, true, true, true, true, true, true, false, false, false, false, false, false, false, false] rfl rfl (by kernel_rfl) (fun _ _ _ h => h) (Or.inl ⟨by rfl, ?_⟩) ?_ ?_
      rotate_left
      · intro w'
        go_simp
        with_reducible rfl
      rotate_left
      · simp only [Act.put, List.setIfInBounds_toArray, List.set_cons_zero, List.set_cons_succ, i64_w, i32_w]
        rfl
      refine pure_ (i := 15) (N := some 87) (v := ?_) (a' := ?_) #[true, true, true, true, true, true, true, true, true, true, true, true, true, true, true, true, false, false, false, false, false, false, false] rfl rfl (by kernel_rfl) (fun _ _ _ h => h) (Or.inl ⟨by rfl, ?_⟩) ?_ ?_
      rotate_left
      · intro w'
        go_simp
        with_reducible rfl
      rotate_left
      · simp only [Act.put, List.setIfInBounds_toArray, List.set_cons_zero, List.set_cons_succ, i64_w, i32_w]
        rfl
      refine one_ (i := 16) (N := some 88) #[true, true, true, true, true, true, true, true, true, true, true, true, true, true, true, true, true, false, false, false, false, false, false] rfl rfl (by kernel_rfl) (by decide) (fun K hK => ?_)
      refine goes_ Try.func15 (by kernel_rfl) rfl #[.pointer (some ⟨g, 0, none⟩)] (by rfl) rfl rfl (by simp only [List.map_toArray, List.map_cons, List.map_nil]; rfl) ?_
      with_reducible refine (idle_is g _ _ _ (HP6.out.two.a.below HB10.out) (b := true) (by simp [HWA.out])).mono ?_
      rintro e w11 ⟨rfl, rfl⟩
      refine ⟨_, rfl, ?_⟩
      refine hK.out _ _ ⟨blk_cell (blk_below HY6.out.x8.at_ HB10.out) 0, blk_cell (blk_below HY6.out.x8.at_ HB10.out) 1, blk_cell (blk_below HY6.out.x7.at_ HB10.out) 0, blk_cell (blk_below HY6.out.x7.at_ HB10.out) 1⟩ (fun hHeld => ?_)
      clear hK K
      refine norm_ (a' := ?_) ?_ ?_
      rotate_left
      · show Act.put _ (some 88) _ = _
        simp only [Act.put, List.setIfInBounds_toArray, List.set_cons_zero, List.set_cons_succ, i64_w, i32_w]
        rfl
      refine pure_ (i := 17) (N := some 89) (v := ?_) (a' := ?_) #[true, true, true, true, true, true, true, true, true, true, true, true, true, true, true, true, true, true, false, false, false, false, false] rfl rfl (by kernel_rfl) (fun _ _ _ h => h) (Or.inl ⟨by rfl, ?_⟩) ?_ ?_
      rotate_left
      · intro w'
        go_simp
        with_reducible rfl
      rotate_left
      · simp only [Act.put, List.setIfInBounds_toArray, List.set_cons_zero, List.set_cons_succ, i64_w, i32_w]
        rfl
      refine pure_ (i := 18) (N := some 90) (v := ?_) (a' := ?_) #[true, true, true, true, true, true, true, true, true, true, true, true, true, true, true, true, true, true, true, false, false, false, false] rfl rfl (by kernel_rfl) (fun _ _ _ h => h) (Or.inl ⟨by rfl, ?_⟩) ?_ ?_
      rotate_left
      · intro w'
        go_simp
        with_reducible rfl
      rotate_left
      · simp only [Act.put, List.setIfInBounds_toArray, List.set_cons_zero, List.set_cons_succ, i64_w, i32_w]
        rfl
      refine pure_ (i := 19) (N := some 91) (v := ?_) (a' := ?_) #[true, true, true, true, true, true, true, true, true, true, true, true, true, true, true, true, true, true, true, true, false, false, false] rfl rfl (by kernel_rfl) (fun _ _ _ h => h) (Or.inl ⟨by rfl, ?_⟩) ?_ ?_
      rotate_left
      · intro w'
        go_simp
        with_reducible rfl
      rotate_left
      · simp only [Act.put, List.setIfInBounds_toArray, List.set_cons_zero, List.set_cons_succ, i64_w, i32_w]
        rfl
      refine one_ (i := 20) (N := some 92) #[true, true, true, true, true, true, true, true, true, true, true, true, true, true, true, true, true, true, true, true, true, false, false] rfl rfl (by kernel_rfl) (by decide) (fun K hK => ?_)
      refine goes_ Try.func15 (by kernel_rfl) rfl #[.pointer (some ⟨g', 0, none⟩)] (by rfl) rfl rfl (by simp only [List.map_toArray, List.map_cons, List.map_nil]; rfl) ?_
      with_reducible refine (idle_is g' _ _ _ (HP6.out.two.b.below HB10.out) (b := true) (by simp [HWB.out])).mono ?_
      rintro e w11 ⟨rfl, rfl⟩
      refine ⟨_, rfl, ?_⟩
      refine hK.out _ _ ⟨blk_cell (blk_below HY6.out.x8.at_ HB10.out) 0, blk_cell (blk_below HY6.out.x8.at_ HB10.out) 1, blk_cell (blk_below HY6.out.x7.at_ HB10.out) 0, blk_cell (blk_below HY6.out.x7.at_ HB10.out) 1⟩ (fun hHeld => ?_)
      clear hK K
      refine norm_ (a' := ?_) ?_ ?_
      rotate_left
      · show Act.put _ (some 92) _ = _
        simp only [Act.put, List.setIfInBounds_toArray, List.set_cons_zero, List.set_cons_succ, i64_w, i32_w]
        rfl
      refine pure_ (i := 21) (N := some 93) (v := ?_) (a' := ?_) #[true, true, true, true, true, true, true, true, true, true, true, true, true, true, true, true, true, true, true, true, true, true, false] rfl rfl (by kernel_rfl) (fun _ _ _ h => h) (Or.inl ⟨by rfl, ?_⟩) ?_ ?_
      rotate_left
      · intro w'
        go_simp
        with_reducible rfl
      rotate_left
      · simp only [Act.put, List.setIfInBounds_toArray, List.set_cons_zero, List.set_cons_succ, i64_w, i32_w]
        rfl
      refine pure_ (i := 22) (N := some 4) (v := ?_) (a' := ?_) #[true, true, true, true, true, true, true, true, true, true, true, true, true, true, true, true, true, true, true, true, true, true, true] rfl rfl (by kernel_rfl) (fun _ _ _ h => h) (Or.inl ⟨by rfl, ?_⟩) ?_ ?_
      rotate_left
      · intro w'
        go_simp
        with_reducible rfl
      rotate_left
      · simp only [Act.put, List.setIfInBounds_toArray, List.set_cons_zero, List.set_cons_succ, i64_w, i32_w]
        rfl
      refine done_ (by kernel_rfl) ?_
      go_wp2
      go_ret
      exact ⟨rfl, below_then HB0.out HB0.out.size (below_then HP6.out.two.fr HP6.out.two.fr.size HB10.out)⟩
end Go.Proofs.Yteeljnlhgaljaaa
