/- By hand: TalkClones. (The drawing regions' rows are printed by rwt.py.) -/
import Derived.Test.YteeljnlhgaljaaaR8
import Derived.LaidEqlPtr
namespace Go.Proofs.Yteeljnlhgaljaaa
set_option linter.unusedVariables false
set_option linter.unusedSimpArgs false
open Go.RowKit Go.Proofs.YteeljnlhgaljaaaW.PrintWords Go.Proofs.YteeljnlhgaljaaaW.PrintLast Go.Proofs.YteeljnlhgaljaaaW.PrintMore Go.Proofs.Yteeljnlhgaljaaa.P
attribute [local go_sem] min2_int min_two   -- for this text's walks alone

theorem rd38_mem (l : List S38) (k : Nat) (hk : k < l.length) : rd_T38 l (k : Int) ∈ l := by
  have : rd_T38 l (k : Int) = l[k] := by simp [rd_T38, List.getD, hk]
  rw [this]
  exact List.getElem_mem hk
/-- An op that is of bytes. -/
def ByteOp (x : S38) : Prop := ByteL x.f1 ∧ ∀ m ∈ x.f3.f1, ByteL m
/-- Two ends are not one. -/
theorem ptr_ne (w : World) (g g' : Nat) (S S' : Nat → Prop) (t t' : Tk) (h : IsTk w g S t) (h' : IsTk w g' S' t') (hne : g' ≠ g) : (binOp .eql 24 (.pointer (some ⟨g', 0, none⟩)) (.pointer (some ⟨g, 0, none⟩))).run Try.prog w = .ok (.bool false) w := by
  obtain ⟨_, _, _, _, h⟩ := h
  obtain ⟨_, _, _, _, h'⟩ := h'
  have hi : (Try.prog.info? 82).map (fun i => i.size) = some 11 := by kernel_rfl
  obtain ⟨j, hj, hs⟩ := Option.map_eq_some_iff.1 hi
  exact run_eql_ptr_other w Try.underlying24 hj (by omega) (by simp [hne]) h'.blk h.blk
theorem alikeR_refl (r : Rf) : alikeR r r = true := by simp [alikeR, sameL_refl]
section
variable {ws w W : World} {S0 Ps0 S Ps Sc : Nat → Prop} {g g' : Nat} {r r' : Rf} {vs vt : Value}
/-- A copy stands beside. -/
theorem Mv.clone (h : Mv ws S0 Ps0 w g S Ps r r' vs vt) (hb : Below w.heap.size w W) (hk : IsTk W g' (fun k => w.heap.size ≤ k) (tkOf r)) : Mv ws S0 Ps0 W g' (fun k => w.heap.size ≤ k ∧ k < W.heap.size) Ps r r' vs vt := by
  obtain ⟨_, _, _, _, hk⟩ := hk
  have hb' := h.below hb
  exact ⟨⟨_, _, _, _, hk.tight⟩, hb'.rv, fun k hk hs => Nat.not_lt.2 hs.1 (h.ltP k hk), fun k hk => hk.2, hb'.ltP, fun k hk => .inr (Nat.le_trans h.fr.size hk.1), h.nP, hb'.fr⟩
/-- Another end has done something. -/
theorem Mv.keep (h : Mv ws S0 Ps0 w g S Ps r r' vs vt) (hf : Fr Sc w W) (hd : ∀ k, Sc k → ¬ S k ∧ ¬ Ps k) (hn : ∀ k, Sc k → S0 k ∨ ws.heap.size ≤ k) : Mv ws S0 Ps0 W g S Ps r r' vs vt :=
  ⟨h.tk.frame hf (fun k hk hc => (hd k hc).1 hk), h.rv.fr hf (fun k hk hc => (hd k hc).2 hk), h.dis, fun k hk => Nat.lt_of_lt_of_le (h.ltS k hk) hf.size, fun k hk => Nat.lt_of_lt_of_le (h.ltP k hk) hf.size, h.nS, h.nP, h.fr.trans hf hn⟩
end
set_option maxRecDepth 100000 in
set_option maxHeartbeats 4000000 in
theorem clones_any (a b : Int) (A : Option Addr) (c : Nat) (l : List S38) (A2 : Option Addr) (c2 : Nat) (l2 : List S38) (w : World) (hl : Kd.C k38 w A l.length l) (hc : l.length ≤ c) (hl2 : Kd.C k38 w A2 l2.length l2) (hc2 : l2.length ≤ c2) (hby : ∀ x ∈ l, ByteOp x) (hby2 : ∀ x ∈ l2, ByteOp x) :
    Calls Try.prog 9 #[.agg #[.int .i64 a, .int .i64 b], .slice A l.length c, .slice A2 l2.length c2] w fun e w' => e = .returned (.bool true) ∧ Below w.heap.size w w' := by
  have HL0 := Aside0.mk hl
  have HC0 := Aside0.mk hc
  have HL20 := Aside0.mk hl2
  have HC20 := Aside0.mk hc2
  have HBYA := Aside0.mk hby
  have HBYB := Aside0.mk hby2
  clear hl hc hl2 hc2 hby hby2
  go_enter Try.func9, Try.ntmps9
  go_wp2_with fail
  refine (begin_ok a b _).mono ?_
  rintro e w1 ⟨g, rfl, hk1, hg, hb1⟩
  have hcap64 := capOf_in 64 a (by omega) (by omega)
  have hcapn := capOf_in 1000 b (by omega) (by omega)
  generalize capOf 64 a = most at hk1 hcap64 ⊢
  generalize capOf 1000 b = again at hk1 hcapn ⊢
  have HO0 := Aside0.mk (ok0 most again hcap64 hcapn)
  have HB1 := Aside0.mk (below_then (below_alloc (Below.refl _ _) _) (below_alloc (Below.refl w.heap.size w) _).size hb1)
  have HK1 := Aside0.mk hk1
  have HG := Aside0.mk (show w.heap.size ≤ g from Nat.le_trans (below_alloc (Below.refl w.heap.size w) _).size hg)
  clear hk1 hcap64 hcapn hg hb1
  go_upto_region 2 with fail
  generalize hz : w1.alloc _ = w2
  obtain ⟨hb2, hx2⟩ : Below w1.heap.size w1 w2 ∧ w2.heap[w1.heap.size]? = some (.cells (rfC (rf0 most again) (.slice none ([] : List (List Int)).length 0) (.slice none ([] : List (List Int)).length 0)) 27 (0, 0)) := hz ▸ ⟨below_alloc (Below.refl _ _) _, blk_new w1 _⟩
  clear hz
  have HK2 := Aside0.mk (HK1.out.below hb2)
  have HB2 := Aside0.mk (below_then HB1.out HB1.out.size hb2)
  have HRG := Aside0.mk (show w.heap.size ≤ w1.heap.size from HB1.out.size)
  have HGR := Aside0.mk (show g < w1.heap.size by obtain ⟨_, _, _, _, h⟩ := HK1.out; exact blk_lt h.blk)
  generalize w1.heap.size = rb at hx2 HRG HGR ⊢
  have HX2 := Aside0.mk hx2
  clear hb2 hx2 HK1 HB1
  obtain ⟨jn1, hj1⟩ : ∃ jn : Nat, (if (30 : Int) < (l.length : Int) then (30 : Int) else (l.length : Int)) = (jn : Int) := ⟨if 30 < l.length then 30 else l.length, by split <;> split <;> omega⟩
  have hk1 : jn1 ≤ l.length ∧ jn1 ≤ 30 := by split at hj1 <;> omega
  have hrun1 := fun W => run_take23 A c l.length jn1 hk1.1 (Nat.le_trans hk1.1 HC0.out) W
  obtain ⟨q1, hq1⟩ : ∃ l0, l.take jn1 = l0 := ⟨_, rfl⟩
  have hlen1 : q1.length = jn1 := by rw [← hq1, List.length_take]; omega
  have HLN1 := Aside0.mk hlen1
  have HL1 := Aside0.mk (show Kd.C k38 w A q1.length q1 from hq1 ▸ Kd.C_take HL0.out hk1.1)
  have HJ1 := Aside0.mk (show jn1 ≤ c ∧ jn1 ≤ 30 from ⟨Nat.le_trans hk1.1 HC0.out, hk1.2⟩)
  have HY1 := Aside0.mk (show ∀ x ∈ q1, ByteOp x from fun x hx => HBYA.out x (List.mem_of_mem_take (hq1 ▸ hx)))
  clear hk1 hq1 hlen1 HL0 HC0 HBYA
  obtain ⟨jn2, hj2⟩ : ∃ jn : Nat, (if (30 : Int) < (l2.length : Int) then (30 : Int) else (l2.length : Int)) = (jn : Int) := ⟨if 30 < l2.length then 30 else l2.length, by split <;> split <;> omega⟩
  have hk2 : jn2 ≤ l2.length ∧ jn2 ≤ 30 := by split at hj2 <;> omega
  have hrun2 := fun W => run_take23 A2 c2 l2.length jn2 hk2.1 (Nat.le_trans hk2.1 HC20.out) W
  obtain ⟨q2, hq2⟩ : ∃ l0, l2.take jn2 = l0 := ⟨_, rfl⟩
  have hlen2 : q2.length = jn2 := by rw [← hq2, List.length_take]; omega
  have HLN2 := Aside0.mk hlen2
  have HL2 := Aside0.mk (show Kd.C k38 w A2 q2.length q2 from hq2 ▸ Kd.C_take HL20.out hk2.1)
  have HJ2 := Aside0.mk (show jn2 ≤ c2 ∧ jn2 ≤ 30 from ⟨Nat.le_trans hk2.1 HC20.out, hk2.2⟩)
  have HY2 := Aside0.mk (show ∀ x ∈ q2, ByteOp x from fun x hx => HBYB.out x (List.mem_of_mem_take (hq2 ▸ hx)))
  clear hk2 hq2 hlen2 HL20 HC20 HBYB
  go_quiet (fail)
  clear hrun1 hj1 hrun2 hj2
  generalize hz : World.drewN w2 _ = w3
  have hb3 : Below w2.heap.size w2 w3 := hz ▸ pw_below_drewN (Below.refl _ _) _
  have HK3 := Aside0.mk (HK2.out.below hb3)
  have HB3 := Aside0.mk (below_then HB2.out HB2.out.size hb3)
  have HX3 := Aside0.mk (blk_below HX2.out hb3)
  clear hz hb3 HK2 HB2 HX2
  go_wp2_with fail
  refine (told_any _).mono ?_
  rintro e w4 ⟨rfl, hb4⟩
  have HK4 := Aside0.mk (HK3.out.below hb4)
  have HB4 := Aside0.mk (below_then HB3.out HB3.out.size hb4)
  have HX4 := Aside0.mk (blk_below HX3.out hb4)
  clear hb4 HK3 HB3 HX3
  go_wp2_with fail
  refine (small_l A c jn1 q1 HLN1.out _ (Kd.C_below HL1.out HB4.out) HJ1.out.1 (Nat.le_trans HJ1.out.2 (by decide))).mono ?_
  rintro e w5 ⟨z1, rfl, hd5⟩
  have HK5 := Aside0.mk (HK4.out.below hd5.below)
  have HB5 := Aside0.mk (below_then HB4.out HB4.out.size hd5.below)
  have HX5 := Aside0.mk (blk_below HX4.out hd5.below)
  clear hd5 HK4 HB4 HX4
  cases z1
  · go_wp2
    go_ret
    exact ⟨rfl, HB5.out⟩
  go_wp2_with fail
  refine (small_l A2 c2 jn2 q2 HLN2.out _ (Kd.C_below HL2.out HB5.out) HJ2.out.1 (Nat.le_trans HJ2.out.2 (by decide))).mono ?_
  rintro e w6 ⟨z2, rfl, hd6⟩
  have HK6 := Aside0.mk (HK5.out.below hd6.below)
  have HB6 := Aside0.mk (below_then HB5.out HB5.out.size hd6.below)
  have HX6 := Aside0.mk (blk_below HX5.out hd6.below)
  clear hd6 HK5 HB5 HX5
  cases z2
  · go_wp2
    go_ret
    exact ⟨rfl, HB6.out⟩
  have HV := Aside0.mk (show Mv w (fun _ => False) (fun _ => False) w6 g (fun k => k = g) (fun _ => False) (rf0 most again) (rf0 most again) (.slice none ([] : List (List Int)).length 0) (.slice none ([] : List (List Int)).length 0) from
    ⟨HK6.out, ⟨Kd.V_nil _ _ _ _ _, Kd.V_nil _ _ _ _ _⟩, fun k h => h.elim, fun k e => e ▸ Nat.lt_trans HGR.out (blk_lt HX6.out), fun k h => h.elim, fun k e => .inr (e ▸ HG.out), fun k h => h.elim, Fr.of_below HB6.out⟩)
  have HRB := Aside0.mk (show ¬ (rb = g) ∧ ¬ False from ⟨fun e => Nat.ne_of_gt HGR.out e, id⟩)
  have HOB := Aside0.mk (okB0 most again)
  clear HK6 HB6
  go_wp2_with fail
  go_loopw [9] (fun v9 wr => ∃ (k : Nat) (S Ps : Nat → Prop) (r : Rf) (As : Option Addr) (cs : Nat) (At : Option Addr) (ct : Nat), v9 = .int .i64 (k : Int) ∧ Aside0 (k ≤ jn1) ∧ Aside0 (OkR k r) ∧ Aside0 (OkB r) ∧ Aside0 (Mv w (fun _ => False) (fun _ => False) wr g S Ps r r (.slice As r.said.length cs) (.slice At r.took.length ct)) ∧ Aside0 (wr.heap[rb]? = some (.cells (rfC r (.slice As r.said.length cs) (.slice At r.took.length ct)) 27 (0, 0))) ∧ Aside0 (¬ S rb ∧ ¬ Ps rb)) (fun v9 wr => jn1 - (intOf v9).toNat)
  case atStart => exact ⟨0, _, _, _, _, _, _, _, rfl, ⟨Nat.zero_le _⟩, HO0, HOB, HV, HX6, HRB⟩
  case round =>
    clear HV HX6 HRB HO0 HOB
    obtain ⟨k, S, Ps, r, As, cs, At, ct, rfl, HI, HOK, HOB, HV, HX, HRB⟩ := hrel
    by_cases hlt : k < jn1
    · have h1 : decide ((k : Int) < (jn1 : Int)) = true := decide_eq_true (by omega)
      have h1p : (k : Int) < (jn1 : Int) := by omega
      have HKN := Aside0.mk hlt
      have HK80 := Aside0.mk (show k < 80 by have := HJ1.out.2; omega)
      have HB := Aside0.mk HV.out.fr.none
      have HGS := Aside0.mk (show ∀ k, S k → w.heap.size ≤ k from fun k h => (HV.out.nS k h).elim (fun h => h.elim) id)
      have hk0 : (0 : Int) ≤ (k : Int) := by omega
      obtain ⟨ad, Am, cm, Al, cl, rfl, he0, he1, he2, he3, he4, he5, hcm, hCm, hcl, hCl⟩ := at_T38 HL1.out (k : Int) hk0 (by have := HLN1.out; omega)
      have hby := HY1.out (rd_T38 q1 (k : Int)) (rd38_mem q1 k (by have := HLN1.out; omega))
      simp only [Int.toNat_natCast] at he0 he1 he2 he3 he4 he5
      generalize rd_T38 q1 (k : Int) = xo at he0 he1 he2 he3 he4 he5 hcm hCm hcl hCl hby
      obtain ⟨Ko, m, now, f, lr, h⟩ := xo
      simp only at he0 he1 he2 he3 he4 he5 hcm hCm hcl hCl hby
      have HBY := Aside0.mk hby
      have HCm := Aside0.mk hCm
      have HCl := Aside0.mk hCl
      have HCM := Aside0.mk hcm
      have HCLL := Aside0.mk hcl
      have HE0 := Aside0.mk (pw_cell_below HB.out he0)
      have HF0 := Aside0.mk he0
      have HE1 := Aside0.mk (pw_cell_below HB.out he1)
      have HF1 := Aside0.mk he1
      have HE2 := Aside0.mk (pw_cell_below HB.out he2)
      have HF2 := Aside0.mk he2
      have HE3 := Aside0.mk (pw_cell_below HB.out he3)
      have HF3 := Aside0.mk he3
      have HE4 := Aside0.mk (pw_cell_below HB.out he4)
      have HF4 := Aside0.mk he4
      have HE5 := Aside0.mk (pw_cell_below HB.out he5)
      have HF5 := Aside0.mk he5
      clear he0 he1 he2 he3 he4 he5 hcm hCm hcl hCl hby hlt
      go_upto_region 10 with fail
      refine start_ (n := 11) (S := fun w' => w'.cell? ⟨rb, 0, none⟩ = some (.int .i64 r.most) ∧ w'.cell? ⟨rb, 1, none⟩ = some (.int .i64 r.again) ∧ w'.cell? ⟨rb, 2, none⟩ = some (.slice As r.said.length cs) ∧ w'.cell? ⟨rb, 3, none⟩ = some (.int .i64 r.heard) ∧ w'.cell? ⟨rb, 4, none⟩ = some (.int .i64 r.out) ∧ w'.cell? ⟨rb, 5, none⟩ = some (.slice At r.took.length ct) ∧ w'.cell? ⟨rb, 6, none⟩ = some (.int .i64 r.gave) ∧ w'.cell? ⟨rb, 7, none⟩ = some (.int .i64 r.last) ∧ w'.cell? ⟨rb, 8, none⟩ = some (.bool r.went) ∧ w'.cell? ⟨rb, 9, none⟩ = some (.bool r.owes) ∧ w'.cell? (ad.add (k * 6)) = some (.int .i64 Ko) ∧ w'.cell? ⟨(ad.add (k * 6)).block, (ad.add (k * 6)).off + 1, none⟩ = some (.slice Am m.length cm) ∧ w'.cell? ⟨(ad.add (k * 6)).block, (ad.add (k * 6)).off + 2, none⟩ = some (.int .i64 now) ∧ w'.cell? ⟨(ad.add (k * 6)).block, (ad.add (k * 6)).off + 3, none⟩ = some (.int .i64 f) ∧ w'.cell? ⟨(ad.add (k * 6)).block, (ad.add (k * 6)).off + 4, none⟩ = some (.slice Al lr.length cl) ∧ w'.cell? ⟨(ad.add (k * 6)).block, (ad.add (k * 6)).off + 5, none⟩ = some (.int .i64 h)) (ds := [10]) #[false, false, false, false, false, false, false, false, false, false, false] (by kernel_rfl) rfl rfl ⟨blk_cell (blk_below HX.out (below_drew (Below.refl _ _))) 0, blk_cell (blk_below HX.out (below_drew (Below.refl _ _))) 1, blk_cell (blk_below HX.out (below_drew (Below.refl _ _))) 2, blk_cell (blk_below HX.out (below_drew (Below.refl _ _))) 3, blk_cell (blk_below HX.out (below_drew (Below.refl _ _))) 4, blk_cell (blk_below HX.out (below_drew (Below.refl _ _))) 5, blk_cell (blk_below HX.out (below_drew (Below.refl _ _))) 6, blk_cell (blk_below HX.out (below_drew (Below.refl _ _))) 7, blk_cell (blk_below HX.out (below_drew (Below.refl _ _))) 8, blk_cell (blk_below HX.out (below_drew (Below.refl _ _))) 9, pw_cell_below (below_drew (Below.refl _ _)) HE0.out, pw_cell_below (below_drew (Below.refl _ _)) HE1.out, pw_cell_below (below_drew (Below.refl _ _)) HE2.out, pw_cell_below (below_drew (Below.refl _ _)) HE3.out, pw_cell_below (below_drew (Below.refl _ _)) HE4.out, pw_cell_below (below_drew (Below.refl _ _)) HE5.out⟩ (fun hHeld => ?_)
      refine pure_ (i := 0) (N := some 51) (v := ?_) (a' := ?_) #[true, false, false, false, false, false, false, false, false, false, false] rfl rfl (by kernel_rfl) (fun _ _ _ h => h) (Or.inl ⟨by rfl, ?_⟩) ?_ ?_
      rotate_left
      · intro w'
        go_simp
        with_reducible rfl
      rotate_left
      · simp only [Act.put, List.setIfInBounds_toArray, List.set_cons_zero, List.set_cons_succ, i64_w, i32_w]
        rfl
      refine pure_ (i := 2) (N := some 53) (v := ?_) (a' := ?_) #[true, false, true, false, false, false, false, false, false, false, false] rfl rfl (by kernel_rfl) (fun _ _ _ h => h) (Or.inl ⟨by rfl, ?_⟩) ?_ ?_
      rotate_left
      · intro w'
        go_simp
        with_reducible rfl
      rotate_left
      · simp only [Act.put, List.setIfInBounds_toArray, List.set_cons_zero, List.set_cons_succ, i64_w, i32_w]
        rfl
      refine pure_ (i := 3) (N := some 54) (v := ?_) (a' := ?_) #[true, false, true, true, false, false, false, false, false, false, false] rfl rfl (by kernel_rfl) (fun _ _ _ h => h) (Or.inl ⟨by rfl, ?_⟩) ?_ ?_
      rotate_left
      · intro w'
        go_simp
        with_reducible rfl
      rotate_left
      · simp only [Act.put, List.setIfInBounds_toArray, List.set_cons_zero, List.set_cons_succ, i64_w, i32_w]
        rfl
      refine pure_ (i := 4) (N := some 55) (v := ?_) (a' := ?_) #[true, false, true, true, true, false, false, false, false, false, false] rfl rfl (by kernel_rfl) (fun _ _ _ h => h) (Or.inl ⟨by rfl, ?_⟩) ?_ ?_
      rotate_left
      · intro w'
        go_simp
        with_reducible rfl
      rotate_left
      · simp only [Act.put, List.setIfInBounds_toArray, List.set_cons_zero, List.set_cons_succ, i64_w, i32_w]
        rfl
      refine take_ (i := 1) (N := some 52) (v := ?_) (a' := ?_) #[true, true, true, true, true, false, false, false, false, false, false] rfl rfl (by kernel_rfl) (fun _ _ _ h => h) (Or.inl ⟨by rfl, ?_⟩) hHeld ?_ ?_
      rotate_left
      · rintro w' ⟨s0, s1, s2, s3, s4, s5, s6, s7, s8, s9, s10, s11, s12, s13, s14, s15⟩
        go_simp
        with_reducible rfl
      rotate_left
      · simp only [Act.put, List.setIfInBounds_toArray, List.set_cons_zero, List.set_cons_succ, i64_w, i32_w]
        rfl
      refine take_ (i := 5) (N := some 56) (v := ?_) (a' := ?_) #[true, true, true, true, true, true, false, false, false, false, false] rfl rfl (by kernel_rfl) (fun _ _ _ h => h) (Or.inl ⟨by rfl, ?_⟩) hHeld ?_ ?_
      rotate_left
      · rintro w' ⟨s0, s1, s2, s3, s4, s5, s6, s7, s8, s9, s10, s11, s12, s13, s14, s15⟩
        go_simp
        with_reducible rfl
      rotate_left
      · simp only [Act.put, List.setIfInBounds_toArray, List.set_cons_zero, List.set_cons_succ, i64_w, i32_w]
        rfl
      refine one_ (i := 6) (N := some 57) #[true, true, true, true, true, true, true, false, false, false, false] rfl rfl (by kernel_rfl) (by decide) (fun K hK => ?_)
      refine goes_ Try.func14 (by kernel_rfl) rfl #[.pointer (some ⟨g, 0, none⟩), .agg #[.int .i64 r.most, .int .i64 r.again, .slice As r.said.length cs, .int .i64 r.heard, .int .i64 r.out, .slice At r.took.length ct, .int .i64 r.gave, .int .i64 r.last, .bool r.went, .bool r.owes], .agg #[.int .i64 Ko, .slice Am m.length cm, .int .i64 now, .int .i64 f, .slice Al lr.length cl, .int .i64 h]] (by rfl) rfl rfl (by simp only [List.map_toArray, List.map_cons, List.map_nil]; rfl) ?_
      with_reducible refine (do_ok k HK80.out _ _ S Ps S Ps (fun k => k < w.heap.size) g r _ _ Ko Am cm m now f h Al cl lr (HV.out.below (below_drew (Below.refl wr.heap.size wr))).start HOK.out (Kd.F_step (Kd.C_F (Kd.heap_int _) HCm.out) (fun k hk _ => (below_then HB.out HB.out.size (below_drew (Below.refl wr.heap.size wr))).block k hk)) HCM.out (Kd.F_step (Kd.C_F (Kd.heap_slice _ (Kd.heap_int _)) HCl.out) (fun k hk _ => (below_then HB.out HB.out.size (below_drew (Below.refl wr.heap.size wr))).block k hk)) HCLL.out (fun k hk => ⟨fun hs => absurd hk (Nat.not_lt.2 (HGS.out k hs)), Nat.lt_of_lt_of_le hk (below_then HB.out HB.out.size (below_drew (Below.refl wr.heap.size wr))).size⟩)).mono ?_
      rintro e w4 ⟨S', Ps', r', vs', vt', rfl, hr', hm4⟩
      refine ⟨_, rfl, ?_⟩
      obtain ⟨As', cs', rfl⟩ := Kd.V_slice hm4.rv.1
      obtain ⟨At', ct', rfl⟩ := Kd.V_slice hm4.rv.2
      have HR := Aside0.mk hr'
      have HT4 := Aside0.mk ((HV.out.below (below_drew (Below.refl wr.heap.size wr))).trans hm4)
      have HX4 := Aside0.mk ((hm4.fr.block rb (blk_lt (blk_below HX.out (below_drew (Below.refl wr.heap.size wr)))) HRB.out.1).trans (blk_below HX.out (below_drew (Below.refl wr.heap.size wr))))
      have HB04 := Aside0.mk HT4.out.fr.none
      have HN4 := Aside0.mk (show ¬ S' rb ∧ ¬ Ps' rb from ⟨fun h => (hm4.nS _ h).elim HRB.out.1 (fun h' => Nat.not_lt.2 h' (blk_lt (blk_below HX.out (below_drew (Below.refl wr.heap.size wr))))), fun h => (hm4.nP _ h).elim HRB.out.2 (fun h' => Nat.not_lt.2 h' (blk_lt (blk_below HX.out (below_drew (Below.refl wr.heap.size wr)))))⟩)
      clear hr' hm4
      have zf0 : w4.frozen? ⟨rb, 0, none⟩ = false := blk_frozen HX4.out 0
      have zf1 : w4.frozen? ⟨rb, 1, none⟩ = false := blk_frozen HX4.out 1
      have zf2 : w4.frozen? ⟨rb, 2, none⟩ = false := blk_frozen HX4.out 2
      have zf3 : w4.frozen? ⟨rb, 3, none⟩ = false := blk_frozen HX4.out 3
      have zf4 : w4.frozen? ⟨rb, 4, none⟩ = false := blk_frozen HX4.out 4
      have zf5 : w4.frozen? ⟨rb, 5, none⟩ = false := blk_frozen HX4.out 5
      have zf6 : w4.frozen? ⟨rb, 6, none⟩ = false := blk_frozen HX4.out 6
      have zf7 : w4.frozen? ⟨rb, 7, none⟩ = false := blk_frozen HX4.out 7
      have zf8 : w4.frozen? ⟨rb, 8, none⟩ = false := blk_frozen HX4.out 8
      have zf9 : w4.frozen? ⟨rb, 9, none⟩ = false := blk_frozen HX4.out 9
      have zc0 := blk_cell HX4.out 0
      have zc1 := blk_cell HX4.out 1
      have zc2 := blk_cell HX4.out 2
      have zc3 := blk_cell HX4.out 3
      have zc4 := blk_cell HX4.out 4
      have zc5 := blk_cell HX4.out 5
      have zc6 := blk_cell HX4.out 6
      have zc7 := blk_cell HX4.out 7
      have zc8 := blk_cell HX4.out 8
      have zc9 := blk_cell HX4.out 9
      refine hK.out _ _ ⟨blk_cell HX4.out 0, blk_cell HX4.out 1, blk_cell HX4.out 2, blk_cell HX4.out 3, blk_cell HX4.out 4, blk_cell HX4.out 5, blk_cell HX4.out 6, blk_cell HX4.out 7, blk_cell HX4.out 8, blk_cell HX4.out 9, pw_cell_below HB04.out HF0.out, pw_cell_below HB04.out HF1.out, pw_cell_below HB04.out HF2.out, pw_cell_below HB04.out HF3.out, pw_cell_below HB04.out HF4.out, pw_cell_below HB04.out HF5.out⟩ (fun hHeld => ?_)
      clear hK K
      refine norm_ (a' := ?_) ?_ ?_
      rotate_left
      · show Act.put _ (some 57) _ = _
        simp only [Act.put, List.setIfInBounds_toArray, List.set_cons_zero, List.set_cons_succ, i64_w, i32_w]
        rfl
      refine pure_ (i := 7) (N := some 50) (v := ?_) (a' := ?_) #[true, true, true, true, true, true, true, true, false, false, false] rfl rfl (by kernel_rfl) (fun _ _ _ h => h) (Or.inl ⟨by rfl, ?_⟩) ?_ ?_
      rotate_left
      · intro w'
        go_simp
        with_reducible rfl
      rotate_left
      · simp only [Act.put, List.setIfInBounds_toArray, List.set_cons_zero, List.set_cons_succ, i64_w, i32_w]
        rfl
      refine pure_ (i := 8) (N := some 58) (v := ?_) (a' := ?_) #[true, true, true, true, true, true, true, true, true, false, false] rfl rfl (by kernel_rfl) (fun _ _ _ h => h) (Or.inl ⟨by rfl, ?_⟩) ?_ ?_
      rotate_left
      · intro w'
        go_simp
        with_reducible rfl
      rotate_left
      · simp only [Act.put, List.setIfInBounds_toArray, List.set_cons_zero, List.set_cons_succ, i64_w, i32_w]
        rfl
      refine pure_ (i := 9) (N := some 59) (v := ?_) (a' := ?_) #[true, true, true, true, true, true, true, true, true, true, false] rfl rfl (by kernel_rfl) (fun _ _ _ h => h) (Or.inl ⟨by rfl, ?_⟩) ?_ ?_
      rotate_left
      · intro w'
        go_simp
        with_reducible rfl
      rotate_left
      · simp only [Act.put, List.setIfInBounds_toArray, List.set_cons_zero, List.set_cons_succ, i64_w, i32_w]
        rfl
      refine last_ (i := 10) (N := none) #[true, true, true, true, true, true, true, true, true, true, true] rfl rfl (by kernel_rfl) (by decide) (fun K hK => ?_)
      refine skip_ (w1 := ?_) (by rfl) rfl ?_ ?_
      rotate_left
      · go_simp
        rfl
      refine hK.out _ _ ?_
      clear hK K
      refine done_ (by kernel_rfl) ?_
      have h65 := put10 HX4.out (.int .i64 r'.most) (.int .i64 r'.again) (.slice As' r'.said.length cs') (.int .i64 r'.heard) (.int .i64 r'.out) (.slice At' r'.took.length ct') (.int .i64 r'.gave) (.int .i64 r'.last) (.bool r'.went) (.bool r'.owes)
      have hm5 := HT4.out.far (b := rb) HN4.out.1 HN4.out.2 (.inr HRG.out) (fr_set10 w4 rb (.int .i64 r'.most) (.int .i64 r'.again) (.slice As' r'.said.length cs') (.int .i64 r'.heard) (.int .i64 r'.out) (.slice At' r'.took.length ct') (.int .i64 r'.gave) (.int .i64 r'.last) (.bool r'.went) (.bool r'.owes))
      generalize (((((((((w4.setCell ⟨rb, 0, none⟩ (.int .i64 r'.most)).setCell ⟨rb, 1, none⟩ (.int .i64 r'.again)).setCell ⟨rb, 2, none⟩ (.slice As' r'.said.length cs')).setCell ⟨rb, 3, none⟩ (.int .i64 r'.heard)).setCell ⟨rb, 4, none⟩ (.int .i64 r'.out)).setCell ⟨rb, 5, none⟩ (.slice At' r'.took.length ct')).setCell ⟨rb, 6, none⟩ (.int .i64 r'.gave)).setCell ⟨rb, 7, none⟩ (.int .i64 r'.last)).setCell ⟨rb, 8, none⟩ (.bool r'.went)).setCell ⟨rb, 9, none⟩ (.bool r'.owes) = w5 at h65 hm5 ⊢
      have HX5 := Aside0.mk h65
      have HM5 := Aside0.mk hm5
      have HOK5 := Aside0.mk (show OkR (k + 1) r' from by rw [HR.out]; exact HOK.out.step _ _ _ _ _ _)
      have HOB5 := Aside0.mk (show OkB r' from by rw [HR.out]; exact HOB.out.step _ _ _ _ _ _ HBY.out.1 HBY.out.2)
      clear h65 hm5 zf0 zc0 zf1 zc1 zf2 zc2 zf3 zc3 zf4 zc4 zf5 zc5 zf6 zc6 zf7 zc7 zf8 zc8 zf9 zc9
      have hkw : wrap64 ((k : Int) + 1) = (k : Int) + 1 := by have := HK80.out; unfold wrap64; omega
      have hkw2 : IntKind.i64.wrap ((k : Int) + 1) = (k : Int) + 1 := IntWalk.i64_in _ (by have := HK80.out; omega)
      go_wp2
      go_roundw
      case rel => exact ⟨k + 1, S', Ps', r', As', cs', At', ct', by go_num, ⟨HKN.out⟩, HOK5, HOB5, HM5, HX5, HN4⟩
      case measure => simp [intOf]; have := HKN.out; omega
    · obtain rfl : k = jn1 := by have := HI.out; omega
      have h1 : decide ((k : Int) < (k : Int)) = false := decide_eq_false (by omega)
      have h1p : ¬ (k : Int) < (k : Int) := by omega
      clear hlt
      have HW := Aside0.mk (waits_ok k r HOK.out (by have := HJ1.out.2; omega) HOB.out)
      go_wp2_with fail
      refine (clone_ok g S _ _ HV.out.tk HW.out.1 HW.out.2.1 HW.out.2.2.1 HW.out.2.2.2).mono ?_
      rintro e w7 ⟨g', rfl, hg', hk7, hb7⟩
      have hgl : g < wr.heap.size := by obtain ⟨_, _, _, _, h⟩ := HV.out.tk; exact blk_lt h.blk
      have hne1 : ¬ g' = g := by omega
      have HV7 := Aside0.mk (HV.out.below hb7)
      have HC7 := Aside0.mk (HV.out.clone hb7 hk7)
      have HX7 := Aside0.mk (blk_below HX.out hb7)
      have HSC := Aside0.mk (show ∀ j, (wr.heap.size ≤ j ∧ j < w7.heap.size) → ¬ S j ∧ ¬ Ps j from fun j hj => ⟨fun h => Nat.not_lt.2 hj.1 (HV.out.ltS j h), fun h => Nat.not_lt.2 hj.1 (HV.out.ltP j h)⟩)
      have HCR := Aside0.mk (show ¬ (wr.heap.size ≤ rb ∧ rb < w7.heap.size) from fun h => Nat.not_lt.2 h.1 (blk_lt HX.out))
      generalize wr.heap.size = ws at HC7 HSC HCR
      have HKN1 := Aside0.mk (show k ≤ 80 by have := HJ1.out.2; omega)
      have hpe := ptr_ne w7 g g' _ _ _ _ HV7.out.tk HC7.out.tk hne1
      clear hg' hk7 hb7 hgl HW HV HX
      go_wp2_with fail
      refine (same_kt k k g g' _ _ r r true (alikeR_refl r) HOK.out HOK.out HKN1.out HKN1.out HOB.out HOB.out _ HV7.out.tk HC7.out.tk).mono ?_
      rintro e w8 ⟨rfl, hd8⟩
      have HV8 := Aside0.mk (HV7.out.below hd8.below)
      have HC8 := Aside0.mk (HC7.out.below hd8.below)
      have HX8 := Aside0.mk (blk_below HX7.out hd8.below)
      clear hd8 HV7 HC7 HX7
      go_wp2_with fail
      refine (same_tk k k g g' _ _ r r true (alikeR_refl r) HOK.out HOK.out HKN1.out HKN1.out HOB.out HOB.out _ HV8.out.tk HC8.out.tk).mono ?_
      rintro e w9 ⟨rfl, hd9⟩
      have HV9 := Aside0.mk (HV8.out.below hd9.below)
      have HC9 := Aside0.mk (HC8.out.below hd9.below)
      have HX9 := Aside0.mk (blk_below HX8.out hd9.below)
      clear hd9 HV8 HC8 HX8
      go_wp2_with fail
      refine (same_tn g _).mono ?_
      rintro e w10 ⟨rfl, rfl⟩
      have t0 : w9.cell? ⟨rb, 0, none⟩ = some (.int .i64 r.most) := blk_cell HX9.out 0
      have t1 : w9.cell? ⟨rb, 1, none⟩ = some (.int .i64 r.again) := blk_cell HX9.out 1
      have t2 : w9.cell? ⟨rb, 2, none⟩ = some (.slice As r.said.length cs) := blk_cell HX9.out 2
      have t3 : w9.cell? ⟨rb, 3, none⟩ = some (.int .i64 r.heard) := blk_cell HX9.out 3
      have t4 : w9.cell? ⟨rb, 4, none⟩ = some (.int .i64 r.out) := blk_cell HX9.out 4
      have t5 : w9.cell? ⟨rb, 5, none⟩ = some (.slice At r.took.length ct) := blk_cell HX9.out 5
      have t6 : w9.cell? ⟨rb, 6, none⟩ = some (.int .i64 r.gave) := blk_cell HX9.out 6
      have t7 : w9.cell? ⟨rb, 7, none⟩ = some (.int .i64 r.last) := blk_cell HX9.out 7
      have t8 : w9.cell? ⟨rb, 8, none⟩ = some (.bool r.went) := blk_cell HX9.out 8
      have t9 : w9.cell? ⟨rb, 9, none⟩ = some (.bool r.owes) := blk_cell HX9.out 9
      go_upto_block 2 with fail
      generalize hz : w9.alloc _ = wA
      obtain ⟨hbA, hxx⟩ : Below w9.heap.size w9 wA ∧ wA.heap[w9.heap.size]? = some (.cells (rfC r (.slice As r.said.length cs) (.slice At r.took.length ct)) 27 (0, 0)) := hz ▸ ⟨below_alloc (Below.refl _ _) _, blk_new w9 _⟩
      clear hz t0 t1 t2 t3 t4 t5 t6 t7 t8 t9 hpe hne1
      have HVA := Aside0.mk (HV9.out.below hbA)
      have HCA := Aside0.mk (HC9.out.below hbA)
      have HXA := Aside0.mk (blk_below HX9.out hbA)
      have HXN := Aside0.mk (show ¬ S w9.heap.size ∧ ¬ Ps w9.heap.size from ⟨fun h => Nat.lt_irrefl _ (HV9.out.ltS _ h), fun h => Nat.lt_irrefl _ (HV9.out.ltP _ h)⟩)
      have HXC := Aside0.mk (show ¬ (ws ≤ w9.heap.size ∧ w9.heap.size < w7.heap.size) from fun h => Nat.lt_irrefl _ (HC9.out.ltS _ h))
      have HRX := Aside0.mk (show rb < w9.heap.size from blk_lt HX9.out)
      have HWX := Aside0.mk (show w.heap.size ≤ w9.heap.size from HV9.out.fr.size)
      generalize w9.heap.size = xb at hxx hbA HXN HXC HRX HWX ⊢
      have HXXA := Aside0.mk hxx
      clear hxx hbA HV9 HC9 HX9
      go_wp2_with fail
      go_loopw [12] (fun v12 wr => ∃ (i : Nat) (Sc Pc : Nat → Prop) (x : Rf) (Asx : Option Addr) (csx : Nat) (Atx : Option Addr) (ctx : Nat), v12 = .int .i64 (i : Int) ∧ Aside0 (i ≤ jn2) ∧ Aside0 (OkR (k + i) x) ∧ Aside0 (OkB x) ∧ Aside0 (Mv w (fun _ => False) (fun _ => False) wr g S Ps r r (.slice As r.said.length cs) (.slice At r.took.length ct)) ∧ Aside0 (Mv w (fun _ => False) (fun _ => False) wr g' Sc Pc x x (.slice Asx x.said.length csx) (.slice Atx x.took.length ctx)) ∧ Aside0 (wr.heap[rb]? = some (.cells (rfC r (.slice As r.said.length cs) (.slice At r.took.length ct)) 27 (0, 0))) ∧ Aside0 (wr.heap[xb]? = some (.cells (rfC x (.slice Asx x.said.length csx) (.slice Atx x.took.length ctx)) 27 (0, 0))) ∧ Aside0 (∀ j, Sc j → ¬ S j ∧ ¬ Ps j) ∧ Aside0 (¬ Sc rb ∧ ¬ Pc rb ∧ ¬ Sc xb ∧ ¬ Pc xb)) (fun v12 wr => jn2 - (intOf v12).toNat)
      case atStart => exact ⟨0, _, _, _, _, _, _, _, rfl, ⟨Nat.zero_le _⟩, HOK, HOB, HVA, HCA, HXA, HXXA, HSC, ⟨⟨HCR.out, HRB.out.2, HXC.out, HXN.out.2⟩⟩⟩
      case round =>
        clear HVA HCA HXA HXXA HSC HCR HXC
        obtain ⟨i, Sc, Pc, x, Asx, csx, Atx, ctx, rfl, HI2, HOX, HBX, HV, HC, HX, HXX, HDJ, HSN⟩ := hrel
        by_cases hlt : i < jn2
        · have h2 : decide ((i : Int) < (jn2 : Int)) = true := decide_eq_true (by omega)
          have h2p : (i : Int) < (jn2 : Int) := by omega
          have HKN := Aside0.mk hlt
          have HKI80 := Aside0.mk (show k + i < 80 by have h3 := HJ1.out.2; have h4 := HJ2.out.2; omega)
          have HKI2 := Aside0.mk (show k + (i + 1) ≤ 80 by have h3 := HJ1.out.2; have h4 := HJ2.out.2; omega)
          have HB := Aside0.mk HV.out.fr.none
          have HGC := Aside0.mk (show ∀ j, Sc j → w.heap.size ≤ j from fun j h => (HC.out.nS j h).elim (fun h => h.elim) id)
          have hk0 : (0 : Int) ≤ (i : Int) := by omega
          obtain ⟨ad, Am, cm, Al, cl, rfl, he0, he1, he2, he3, he4, he5, hcm, hCm, hcl, hCl⟩ := at_T38 HL2.out (i : Int) hk0 (by have := HLN2.out; omega)
          have hby := HY2.out (rd_T38 q2 (i : Int)) (rd38_mem q2 i (by have := HLN2.out; omega))
          simp only [Int.toNat_natCast] at he0 he1 he2 he3 he4 he5
          generalize rd_T38 q2 (i : Int) = xo at he0 he1 he2 he3 he4 he5 hcm hCm hcl hCl hby
          obtain ⟨Ko, m, now, f, lr, h⟩ := xo
          simp only at he0 he1 he2 he3 he4 he5 hcm hCm hcl hCl hby
          have HBY := Aside0.mk hby
          have HCm := Aside0.mk hCm
          have HCl := Aside0.mk hCl
          have HCM := Aside0.mk hcm
          have HCLL := Aside0.mk hcl
          have HE0 := Aside0.mk (pw_cell_below HB.out he0)
          have HF0 := Aside0.mk he0
          have HE1 := Aside0.mk (pw_cell_below HB.out he1)
          have HF1 := Aside0.mk he1
          have HE2 := Aside0.mk (pw_cell_below HB.out he2)
          have HF2 := Aside0.mk he2
          have HE3 := Aside0.mk (pw_cell_below HB.out he3)
          have HF3 := Aside0.mk he3
          have HE4 := Aside0.mk (pw_cell_below HB.out he4)
          have HF4 := Aside0.mk he4
          have HE5 := Aside0.mk (pw_cell_below HB.out he5)
          have HF5 := Aside0.mk he5
          clear he0 he1 he2 he3 he4 he5 hcm hCm hcl hCl hby hlt
          go_upto_region 18 with fail
          refine start_ (n := 13) (S := fun w' => w'.cell? ⟨xb, 0, none⟩ = some (.int .i64 x.most) ∧ w'.cell? ⟨xb, 1, none⟩ = some (.int .i64 x.again) ∧ w'.cell? ⟨xb, 2, none⟩ = some (.slice Asx x.said.length csx) ∧ w'.cell? ⟨xb, 3, none⟩ = some (.int .i64 x.heard) ∧ w'.cell? ⟨xb, 4, none⟩ = some (.int .i64 x.out) ∧ w'.cell? ⟨xb, 5, none⟩ = some (.slice Atx x.took.length ctx) ∧ w'.cell? ⟨xb, 6, none⟩ = some (.int .i64 x.gave) ∧ w'.cell? ⟨xb, 7, none⟩ = some (.int .i64 x.last) ∧ w'.cell? ⟨xb, 8, none⟩ = some (.bool x.went) ∧ w'.cell? ⟨xb, 9, none⟩ = some (.bool x.owes) ∧ w'.cell? (ad.add (i * 6)) = some (.int .i64 Ko) ∧ w'.cell? ⟨(ad.add (i * 6)).block, (ad.add (i * 6)).off + 1, none⟩ = some (.slice Am m.length cm) ∧ w'.cell? ⟨(ad.add (i * 6)).block, (ad.add (i * 6)).off + 2, none⟩ = some (.int .i64 now) ∧ w'.cell? ⟨(ad.add (i * 6)).block, (ad.add (i * 6)).off + 3, none⟩ = some (.int .i64 f) ∧ w'.cell? ⟨(ad.add (i * 6)).block, (ad.add (i * 6)).off + 4, none⟩ = some (.slice Al lr.length cl) ∧ w'.cell? ⟨(ad.add (i * 6)).block, (ad.add (i * 6)).off + 5, none⟩ = some (.int .i64 h)) (ds := [11]) #[false, false, false, false, false, false, false, false, false, false, false, false, false] (by kernel_rfl) rfl rfl ⟨blk_cell (blk_below HXX.out (below_drew (Below.refl _ _))) 0, blk_cell (blk_below HXX.out (below_drew (Below.refl _ _))) 1, blk_cell (blk_below HXX.out (below_drew (Below.refl _ _))) 2, blk_cell (blk_below HXX.out (below_drew (Below.refl _ _))) 3, blk_cell (blk_below HXX.out (below_drew (Below.refl _ _))) 4, blk_cell (blk_below HXX.out (below_drew (Below.refl _ _))) 5, blk_cell (blk_below HXX.out (below_drew (Below.refl _ _))) 6, blk_cell (blk_below HXX.out (below_drew (Below.refl _ _))) 7, blk_cell (blk_below HXX.out (below_drew (Below.refl _ _))) 8, blk_cell (blk_below HXX.out (below_drew (Below.refl _ _))) 9, pw_cell_below (below_drew (Below.refl _ _)) HE0.out, pw_cell_below (below_drew (Below.refl _ _)) HE1.out, pw_cell_below (below_drew (Below.refl _ _)) HE2.out, pw_cell_below (below_drew (Below.refl _ _)) HE3.out, pw_cell_below (below_drew (Below.refl _ _)) HE4.out, pw_cell_below (below_drew (Below.refl _ _)) HE5.out⟩ (fun hHeld => ?_)
          refine pure_ (i := 0) (N := some 93) (v := ?_) (a' := ?_) #[true, false, false, false, false, false, false, false, false, false, false, false, false] rfl rfl (by kernel_rfl) (fun _ _ _ h => h) (Or.inl ⟨by rfl, ?_⟩) ?_ ?_
          rotate_left
          · intro w'
            go_simp
            with_reducible rfl
          rotate_left
          · simp only [Act.put, List.setIfInBounds_toArray, List.set_cons_zero, List.set_cons_succ, i64_w, i32_w]
            rfl
          refine pure_ (i := 2) (N := some 95) (v := ?_) (a' := ?_) #[true, false, true, false, false, false, false, false, false, false, false, false, false] rfl rfl (by kernel_rfl) (fun _ _ _ h => h) (Or.inl ⟨by rfl, ?_⟩) ?_ ?_
          rotate_left
          · intro w'
            go_simp
            with_reducible rfl
          rotate_left
          · simp only [Act.put, List.setIfInBounds_toArray, List.set_cons_zero, List.set_cons_succ, i64_w, i32_w]
            rfl
          refine pure_ (i := 3) (N := some 96) (v := ?_) (a' := ?_) #[true, false, true, true, false, false, false, false, false, false, false, false, false] rfl rfl (by kernel_rfl) (fun _ _ _ h => h) (Or.inl ⟨by rfl, ?_⟩) ?_ ?_
          rotate_left
          · intro w'
            go_simp
            with_reducible rfl
          rotate_left
          · simp only [Act.put, List.setIfInBounds_toArray, List.set_cons_zero, List.set_cons_succ, i64_w, i32_w]
            rfl
          refine pure_ (i := 4) (N := some 97) (v := ?_) (a' := ?_) #[true, false, true, true, true, false, false, false, false, false, false, false, false] rfl rfl (by kernel_rfl) (fun _ _ _ h => h) (Or.inl ⟨by rfl, ?_⟩) ?_ ?_
          rotate_left
          · intro w'
            go_simp
            with_reducible rfl
          rotate_left
          · simp only [Act.put, List.setIfInBounds_toArray, List.set_cons_zero, List.set_cons_succ, i64_w, i32_w]
            rfl
          refine take_ (i := 1) (N := some 94) (v := ?_) (a' := ?_) #[true, true, true, true, true, false, false, false, false, false, false, false, false] rfl rfl (by kernel_rfl) (fun _ _ _ h => h) (Or.inl ⟨by rfl, ?_⟩) hHeld ?_ ?_
          rotate_left
          · rintro w' ⟨s0, s1, s2, s3, s4, s5, s6, s7, s8, s9, s10, s11, s12, s13, s14, s15⟩
            go_simp
            with_reducible rfl
          rotate_left
          · simp only [Act.put, List.setIfInBounds_toArray, List.set_cons_zero, List.set_cons_succ, i64_w, i32_w]
            rfl
          refine take_ (i := 5) (N := some 98) (v := ?_) (a' := ?_) #[true, true, true, true, true, true, false, false, false, false, false, false, false] rfl rfl (by kernel_rfl) (fun _ _ _ h => h) (Or.inl ⟨by rfl, ?_⟩) hHeld ?_ ?_
          rotate_left
          · rintro w' ⟨s0, s1, s2, s3, s4, s5, s6, s7, s8, s9, s10, s11, s12, s13, s14, s15⟩
            go_simp
            with_reducible rfl
          rotate_left
          · simp only [Act.put, List.setIfInBounds_toArray, List.set_cons_zero, List.set_cons_succ, i64_w, i32_w]
            rfl
          refine join_ (σ := Rf × (Option Addr × Nat) × (Option Addr × Nat) × Nat) 2 #[true, true, true, true, true, true, true, true, true, true, true, false, false] (fun s => [(99, Value.tuple #[Value.agg (rfC s.1 (.slice s.2.1.1 s.1.said.length s.2.1.2) (.slice s.2.2.1.1 s.1.took.length s.2.2.1.2)), .bool true]), (92, Value.tuple #[Value.agg (rfC s.1 (.slice s.2.1.1 s.1.said.length s.2.1.2) (.slice s.2.2.1.1 s.1.took.length s.2.2.1.2)), .bool true]), (100, Value.agg (rfC s.1 (.slice s.2.1.1 s.1.said.length s.2.1.2) (.slice s.2.2.1.1 s.1.took.length s.2.2.1.2))), (101, Value.bool true), (13, Value.pointer (some ⟨s.2.2.2, 0, none⟩))]) (fun s w' => s.1 = stepR x Ko m now f lr h ∧ (∃ S' Ps', Mv w (fun _ => False) (fun _ => False) w' g' S' Ps' s.1 s.1 (.slice s.2.1.1 s.1.said.length s.2.1.2) (.slice s.2.2.1.1 s.1.took.length s.2.2.1.2) ∧ Fr Sc wr w' ∧ (∀ j, S' j → Sc j ∨ wr.heap.size ≤ j) ∧ (∀ j, Ps' j → Pc j ∨ wr.heap.size ≤ j) ∧ ¬ S' s.2.2.2 ∧ ¬ Ps' s.2.2.2) ∧ w'.heap[s.2.2.2]? = some (.cells #[.int .i64 0, .int .i64 0, .slice none 0 0, .int .i64 0, .int .i64 0, .slice none 0 0, .int .i64 0, .int .i64 0, .bool false, .bool false] 27 (0, 0)) ∧ wr.heap.size ≤ s.2.2.2) ?_ ?_
          rotate_left
          · intro hCont
            refine two_ (i := 6) (j := 10) (Ni := some 99) (Nj := some 13) #[true, true, true, true, true, true, true, false, false, false, false, false, false] #[true, true, true, true, true, true, false, false, false, false, true, false, false] rfl rfl rfl rfl (by kernel_rfl) (by decide) (by decide) (fun K hK => ?_) (fun K hK => ?_)
            · skip
              refine goes_ Try.func14 (by kernel_rfl) rfl #[.pointer (some ⟨g', 0, none⟩), .agg #[.int .i64 x.most, .int .i64 x.again, .slice Asx x.said.length csx, .int .i64 x.heard, .int .i64 x.out, .slice Atx x.took.length ctx, .int .i64 x.gave, .int .i64 x.last, .bool x.went, .bool x.owes], .agg #[.int .i64 Ko, .slice Am m.length cm, .int .i64 now, .int .i64 f, .slice Al lr.length cl, .int .i64 h]] (by rfl) rfl rfl (by simp only [List.map_toArray, List.map_cons, List.map_nil]; rfl) ?_
              with_reducible refine (do_ok (k + i) HKI80.out _ _ Sc Pc Sc Pc (fun k => k < w.heap.size) g' x _ _ Ko Am cm m now f h Al cl lr (HC.out.below (below_drew (Below.refl wr.heap.size wr))).start HOX.out (Kd.F_step (Kd.C_F (Kd.heap_int _) HCm.out) (fun k hk _ => (below_then HB.out HB.out.size (below_drew (Below.refl wr.heap.size wr))).block k hk)) HCM.out (Kd.F_step (Kd.C_F (Kd.heap_slice _ (Kd.heap_int _)) HCl.out) (fun k hk _ => (below_then HB.out HB.out.size (below_drew (Below.refl wr.heap.size wr))).block k hk)) HCLL.out (fun k hk => ⟨fun hs => absurd hk (Nat.not_lt.2 (HGC.out k hs)), Nat.lt_of_lt_of_le hk (below_then HB.out HB.out.size (below_drew (Below.refl wr.heap.size wr))).size⟩)).mono ?_
              rintro e w4 ⟨S', Ps', x', vs', vt', rfl, hr', hm4⟩
              refine ⟨_, rfl, ?_⟩
              obtain ⟨Asx', csx', rfl⟩ := Kd.V_slice hm4.rv.1
              obtain ⟨Atx', ctx', rfl⟩ := Kd.V_slice hm4.rv.2
              have HR := Aside0.mk hr'
              have HT4 := Aside0.mk ((HC.out.below (below_drew (Below.refl wr.heap.size wr))).trans hm4)
              have HXX4 := Aside0.mk ((hm4.fr.block xb (blk_lt (blk_below HXX.out (below_drew (Below.refl wr.heap.size wr)))) HSN.out.2.2.1).trans (blk_below HXX.out (below_drew (Below.refl wr.heap.size wr))))
              have HB04 := Aside0.mk HT4.out.fr.none
              have HFR4 := Aside0.mk ((Fr.of_below (S := Sc) (below_drew (Below.refl wr.heap.size wr))).trans hm4.fr (fun k h => .inl h))
              have HNS4 := Aside0.mk (show (∀ j, S' j → Sc j ∨ wr.heap.size ≤ j) ∧ ∀ j, Ps' j → Pc j ∨ wr.heap.size ≤ j from ⟨fun j h => (hm4.nS j h).imp id (fun e => Nat.le_trans (below_drew (Below.refl wr.heap.size wr)).size e), fun j h => (hm4.nP j h).imp id (fun e => Nat.le_trans (below_drew (Below.refl wr.heap.size wr)).size e)⟩)
              clear hr' hm4
              refine hK.out _ _ ⟨blk_cell HXX4.out 0, blk_cell HXX4.out 1, blk_cell HXX4.out 2, blk_cell HXX4.out 3, blk_cell HXX4.out 4, blk_cell HXX4.out 5, blk_cell HXX4.out 6, blk_cell HXX4.out 7, blk_cell HXX4.out 8, blk_cell HXX4.out 9, pw_cell_below HB04.out HF0.out, pw_cell_below HB04.out HF1.out, pw_cell_below HB04.out HF2.out, pw_cell_below HB04.out HF3.out, pw_cell_below HB04.out HF4.out, pw_cell_below HB04.out HF5.out⟩ (fun hHeld => ?_)
              clear hK K
              refine norm_ (a' := ?_) ?_ ?_
              rotate_left
              · show Act.put _ (some 99) _ = _
                simp only [Act.put, List.setIfInBounds_toArray, List.set_cons_zero, List.set_cons_succ, i64_w, i32_w]
                rfl
              refine pure_ (i := 7) (N := some 92) (v := ?_) (a' := ?_) #[true, true, true, true, true, true, true, true, false, false, false, false, false] rfl rfl (by kernel_rfl) (fun _ _ _ h => h) (Or.inl ⟨by rfl, ?_⟩) ?_ ?_
              rotate_left
              · intro w'
                go_simp
                with_reducible rfl
              rotate_left
              · simp only [Act.put, List.setIfInBounds_toArray, List.set_cons_zero, List.set_cons_succ, i64_w, i32_w]
                rfl
              refine pure_ (i := 8) (N := some 100) (v := ?_) (a' := ?_) #[true, true, true, true, true, true, true, true, true, false, false, false, false] rfl rfl (by kernel_rfl) (fun _ _ _ h => h) (Or.inl ⟨by rfl, ?_⟩) ?_ ?_
              rotate_left
              · intro w'
                go_simp
                with_reducible rfl
              rotate_left
              · simp only [Act.put, List.setIfInBounds_toArray, List.set_cons_zero, List.set_cons_succ, i64_w, i32_w]
                rfl
              refine pure_ (i := 9) (N := some 101) (v := ?_) (a' := ?_) #[true, true, true, true, true, true, true, true, true, true, false, false, false] rfl rfl (by kernel_rfl) (fun _ _ _ h => h) (Or.inl ⟨by rfl, ?_⟩) ?_ ?_
              rotate_left
              · intro w'
                go_simp
                with_reducible rfl
              rotate_left
              · simp only [Act.put, List.setIfInBounds_toArray, List.set_cons_zero, List.set_cons_succ, i64_w, i32_w]
                rfl
              refine one_ (i := 10) (N := some 13) #[true, true, true, true, true, true, true, true, true, true, true, false, false] rfl rfl (by kernel_rfl) (by decide) (fun K hK => ?_)
              refine value_ (w1 := ?_) (v := ?_) (by rfl) rfl ?_ ?_
              rotate_left 2
              · go_simp
                constructor
                · rfl
                · rfl
              refine hK.out _ _ ⟨blk_cell (blk_alloc HXX4.out _) 0, blk_cell (blk_alloc HXX4.out _) 1, blk_cell (blk_alloc HXX4.out _) 2, blk_cell (blk_alloc HXX4.out _) 3, blk_cell (blk_alloc HXX4.out _) 4, blk_cell (blk_alloc HXX4.out _) 5, blk_cell (blk_alloc HXX4.out _) 6, blk_cell (blk_alloc HXX4.out _) 7, blk_cell (blk_alloc HXX4.out _) 8, blk_cell (blk_alloc HXX4.out _) 9, pw_cell_below (below_then HB04.out HB04.out.size (below_alloc (Below.refl _ _) _)) HF0.out, pw_cell_below (below_then HB04.out HB04.out.size (below_alloc (Below.refl _ _) _)) HF1.out, pw_cell_below (below_then HB04.out HB04.out.size (below_alloc (Below.refl _ _) _)) HF2.out, pw_cell_below (below_then HB04.out HB04.out.size (below_alloc (Below.refl _ _) _)) HF3.out, pw_cell_below (below_then HB04.out HB04.out.size (below_alloc (Below.refl _ _) _)) HF4.out, pw_cell_below (below_then HB04.out HB04.out.size (below_alloc (Below.refl _ _) _)) HF5.out⟩ (fun hHeld => ?_)
              clear hK K
              refine norm_ (a' := ?_) ?_ ?_
              rotate_left
              · show Act.put _ (some 13) _ = _
                simp only [Act.put, List.setIfInBounds_toArray, List.set_cons_zero, List.set_cons_succ, i64_w, i32_w]
                rfl
              exact norm_ (by simp only [putAll, Act.put, List.setIfInBounds_toArray, List.set_cons_zero, List.set_cons_succ]) (hCont (x', (Asx', csx'), (Atx', ctx'), w4.heap.size) _ ⟨HR.out, ⟨S', Ps', HT4.out.below (below_alloc (Below.refl _ _) _), HFR4.out.trans (Fr.alloc (S := fun _ => False) w4 _) (fun k h => h.elim), HNS4.out.1, HNS4.out.2, fun h => Nat.lt_irrefl _ (HT4.out.ltS _ h), fun h => Nat.lt_irrefl _ (HT4.out.ltP _ h)⟩, blk_new w4 _, HFR4.out.size⟩)
            · skip
              refine value_ (w1 := ?_) (v := ?_) (by rfl) rfl ?_ ?_
              rotate_left 2
              · go_simp
                constructor
                · rfl
                · rfl
              refine hK.out _ _ ⟨blk_cell (blk_below HXX.out (below_alloc (below_drew (Below.refl wr.heap.size wr)) _)) 0, blk_cell (blk_below HXX.out (below_alloc (below_drew (Below.refl wr.heap.size wr)) _)) 1, blk_cell (blk_below HXX.out (below_alloc (below_drew (Below.refl wr.heap.size wr)) _)) 2, blk_cell (blk_below HXX.out (below_alloc (below_drew (Below.refl wr.heap.size wr)) _)) 3, blk_cell (blk_below HXX.out (below_alloc (below_drew (Below.refl wr.heap.size wr)) _)) 4, blk_cell (blk_below HXX.out (below_alloc (below_drew (Below.refl wr.heap.size wr)) _)) 5, blk_cell (blk_below HXX.out (below_alloc (below_drew (Below.refl wr.heap.size wr)) _)) 6, blk_cell (blk_below HXX.out (below_alloc (below_drew (Below.refl wr.heap.size wr)) _)) 7, blk_cell (blk_below HXX.out (below_alloc (below_drew (Below.refl wr.heap.size wr)) _)) 8, blk_cell (blk_below HXX.out (below_alloc (below_drew (Below.refl wr.heap.size wr)) _)) 9, pw_cell_below (below_alloc (below_drew (Below.refl wr.heap.size wr)) _) HE0.out, pw_cell_below (below_alloc (below_drew (Below.refl wr.heap.size wr)) _) HE1.out, pw_cell_below (below_alloc (below_drew (Below.refl wr.heap.size wr)) _) HE2.out, pw_cell_below (below_alloc (below_drew (Below.refl wr.heap.size wr)) _) HE3.out, pw_cell_below (below_alloc (below_drew (Below.refl wr.heap.size wr)) _) HE4.out, pw_cell_below (below_alloc (below_drew (Below.refl wr.heap.size wr)) _) HE5.out⟩ (fun hHeld => ?_)
              clear hK K
              refine norm_ (a' := ?_) ?_ ?_
              rotate_left
              · show Act.put _ (some 13) _ = _
                simp only [Act.put, List.setIfInBounds_toArray, List.set_cons_zero, List.set_cons_succ, i64_w, i32_w]
                rfl
              refine one_ (i := 6) (N := some 99) #[true, true, true, true, true, true, true, false, false, false, true, false, false] rfl rfl (by kernel_rfl) (by decide) (fun K hK => ?_)
              refine goes_ Try.func14 (by kernel_rfl) rfl #[.pointer (some ⟨g', 0, none⟩), .agg #[.int .i64 x.most, .int .i64 x.again, .slice Asx x.said.length csx, .int .i64 x.heard, .int .i64 x.out, .slice Atx x.took.length ctx, .int .i64 x.gave, .int .i64 x.last, .bool x.went, .bool x.owes], .agg #[.int .i64 Ko, .slice Am m.length cm, .int .i64 now, .int .i64 f, .slice Al lr.length cl, .int .i64 h]] (by rfl) rfl rfl (by simp only [List.map_toArray, List.map_cons, List.map_nil]; rfl) ?_
              with_reducible refine (do_ok (k + i) HKI80.out _ _ Sc Pc Sc Pc (fun k => k < w.heap.size) g' x _ _ Ko Am cm m now f h Al cl lr (HC.out.below (below_drew (below_alloc (Below.refl wr.heap.size wr) (.cells #[.int .i64 0, .int .i64 0, .slice none 0 0, .int .i64 0, .int .i64 0, .slice none 0 0, .int .i64 0, .int .i64 0, .bool false, .bool false] 27)))).start HOX.out (Kd.F_step (Kd.C_F (Kd.heap_int _) HCm.out) (fun k hk _ => (below_then HB.out HB.out.size (below_drew (below_alloc (Below.refl wr.heap.size wr) (.cells #[.int .i64 0, .int .i64 0, .slice none 0 0, .int .i64 0, .int .i64 0, .slice none 0 0, .int .i64 0, .int .i64 0, .bool false, .bool false] 27)))).block k hk)) HCM.out (Kd.F_step (Kd.C_F (Kd.heap_slice _ (Kd.heap_int _)) HCl.out) (fun k hk _ => (below_then HB.out HB.out.size (below_drew (below_alloc (Below.refl wr.heap.size wr) (.cells #[.int .i64 0, .int .i64 0, .slice none 0 0, .int .i64 0, .int .i64 0, .slice none 0 0, .int .i64 0, .int .i64 0, .bool false, .bool false] 27)))).block k hk)) HCLL.out (fun k hk => ⟨fun hs => absurd hk (Nat.not_lt.2 (HGC.out k hs)), Nat.lt_of_lt_of_le hk (below_then HB.out HB.out.size (below_drew (below_alloc (Below.refl wr.heap.size wr) (.cells #[.int .i64 0, .int .i64 0, .slice none 0 0, .int .i64 0, .int .i64 0, .slice none 0 0, .int .i64 0, .int .i64 0, .bool false, .bool false] 27)))).size⟩)).mono ?_
              rintro e w4 ⟨S', Ps', x', vs', vt', rfl, hr', hm4⟩
              refine ⟨_, rfl, ?_⟩
              obtain ⟨Asx', csx', rfl⟩ := Kd.V_slice hm4.rv.1
              obtain ⟨Atx', ctx', rfl⟩ := Kd.V_slice hm4.rv.2
              have HR := Aside0.mk hr'
              have HT4 := Aside0.mk ((HC.out.below (below_drew (below_alloc (Below.refl wr.heap.size wr) (.cells #[.int .i64 0, .int .i64 0, .slice none 0 0, .int .i64 0, .int .i64 0, .slice none 0 0, .int .i64 0, .int .i64 0, .bool false, .bool false] 27)))).trans hm4)
              have HXX4 := Aside0.mk ((hm4.fr.block xb (blk_lt (blk_below HXX.out (below_drew (below_alloc (Below.refl wr.heap.size wr) (.cells #[.int .i64 0, .int .i64 0, .slice none 0 0, .int .i64 0, .int .i64 0, .slice none 0 0, .int .i64 0, .int .i64 0, .bool false, .bool false] 27))))) HSN.out.2.2.1).trans (blk_below HXX.out (below_drew (below_alloc (Below.refl wr.heap.size wr) (.cells #[.int .i64 0, .int .i64 0, .slice none 0 0, .int .i64 0, .int .i64 0, .slice none 0 0, .int .i64 0, .int .i64 0, .bool false, .bool false] 27)))))
              have HB04 := Aside0.mk HT4.out.fr.none
              have HFR4 := Aside0.mk ((Fr.of_below (S := Sc) (below_drew (below_alloc (Below.refl wr.heap.size wr) (.cells #[.int .i64 0, .int .i64 0, .slice none 0 0, .int .i64 0, .int .i64 0, .slice none 0 0, .int .i64 0, .int .i64 0, .bool false, .bool false] 27)))).trans hm4.fr (fun k h => .inl h))
              have HNS4 := Aside0.mk (show (∀ j, S' j → Sc j ∨ wr.heap.size ≤ j) ∧ ∀ j, Ps' j → Pc j ∨ wr.heap.size ≤ j from ⟨fun j h => (hm4.nS j h).imp id (fun e => Nat.le_trans (below_drew (below_alloc (Below.refl wr.heap.size wr) (.cells #[.int .i64 0, .int .i64 0, .slice none 0 0, .int .i64 0, .int .i64 0, .slice none 0 0, .int .i64 0, .int .i64 0, .bool false, .bool false] 27))).size e), fun j h => (hm4.nP j h).imp id (fun e => Nat.le_trans (below_drew (below_alloc (Below.refl wr.heap.size wr) (.cells #[.int .i64 0, .int .i64 0, .slice none 0 0, .int .i64 0, .int .i64 0, .slice none 0 0, .int .i64 0, .int .i64 0, .bool false, .bool false] 27))).size e)⟩)
              have HZ4 := Aside0.mk ((hm4.fr.block wr.heap.size (blk_lt (blk_below (blk_new wr (.cells #[.int .i64 0, .int .i64 0, .slice none 0 0, .int .i64 0, .int .i64 0, .slice none 0 0, .int .i64 0, .int .i64 0, .bool false, .bool false] 27)) (below_drew (Below.refl _ _)))) (fun h => Nat.lt_irrefl _ (HC.out.ltS _ h))).trans (blk_below (blk_new wr (.cells #[.int .i64 0, .int .i64 0, .slice none 0 0, .int .i64 0, .int .i64 0, .slice none 0 0, .int .i64 0, .int .i64 0, .bool false, .bool false] 27)) (below_drew (Below.refl _ _))))
              have HN8 := Aside0.mk (show ¬ S' wr.heap.size ∧ ¬ Ps' wr.heap.size from ⟨fun h => (hm4.nS _ h).elim (fun h' => Nat.lt_irrefl _ (HC.out.ltS _ h')) (fun h' => Nat.not_lt.2 h' (blk_lt (blk_below (blk_new wr (.cells #[.int .i64 0, .int .i64 0, .slice none 0 0, .int .i64 0, .int .i64 0, .slice none 0 0, .int .i64 0, .int .i64 0, .bool false, .bool false] 27)) (below_drew (Below.refl _ _))))), fun h => (hm4.nP _ h).elim (fun h' => Nat.lt_irrefl _ (HC.out.ltP _ h')) (fun h' => Nat.not_lt.2 h' (blk_lt (blk_below (blk_new wr (.cells #[.int .i64 0, .int .i64 0, .slice none 0 0, .int .i64 0, .int .i64 0, .slice none 0 0, .int .i64 0, .int .i64 0, .bool false, .bool false] 27)) (below_drew (Below.refl _ _)))))⟩)
              clear hr' hm4
              refine hK.out _ _ ⟨blk_cell HXX4.out 0, blk_cell HXX4.out 1, blk_cell HXX4.out 2, blk_cell HXX4.out 3, blk_cell HXX4.out 4, blk_cell HXX4.out 5, blk_cell HXX4.out 6, blk_cell HXX4.out 7, blk_cell HXX4.out 8, blk_cell HXX4.out 9, pw_cell_below HB04.out HF0.out, pw_cell_below HB04.out HF1.out, pw_cell_below HB04.out HF2.out, pw_cell_below HB04.out HF3.out, pw_cell_below HB04.out HF4.out, pw_cell_below HB04.out HF5.out⟩ (fun hHeld => ?_)
              clear hK K
              refine norm_ (a' := ?_) ?_ ?_
              rotate_left
              · show Act.put _ (some 99) _ = _
                simp only [Act.put, List.setIfInBounds_toArray, List.set_cons_zero, List.set_cons_succ, i64_w, i32_w]
                rfl
              refine pure_ (i := 7) (N := some 92) (v := ?_) (a' := ?_) #[true, true, true, true, true, true, true, true, false, false, true, false, false] rfl rfl (by kernel_rfl) (fun _ _ _ h => h) (Or.inl ⟨by rfl, ?_⟩) ?_ ?_
              rotate_left
              · intro w'
                go_simp
                with_reducible rfl
              rotate_left
              · simp only [Act.put, List.setIfInBounds_toArray, List.set_cons_zero, List.set_cons_succ, i64_w, i32_w]
                rfl
              refine pure_ (i := 8) (N := some 100) (v := ?_) (a' := ?_) #[true, true, true, true, true, true, true, true, true, false, true, false, false] rfl rfl (by kernel_rfl) (fun _ _ _ h => h) (Or.inl ⟨by rfl, ?_⟩) ?_ ?_
              rotate_left
              · intro w'
                go_simp
                with_reducible rfl
              rotate_left
              · simp only [Act.put, List.setIfInBounds_toArray, List.set_cons_zero, List.set_cons_succ, i64_w, i32_w]
                rfl
              refine pure_ (i := 9) (N := some 101) (v := ?_) (a' := ?_) #[true, true, true, true, true, true, true, true, true, true, true, false, false] rfl rfl (by kernel_rfl) (fun _ _ _ h => h) (Or.inl ⟨by rfl, ?_⟩) ?_ ?_
              rotate_left
              · intro w'
                go_simp
                with_reducible rfl
              rotate_left
              · simp only [Act.put, List.setIfInBounds_toArray, List.set_cons_zero, List.set_cons_succ, i64_w, i32_w]
                rfl
              exact norm_ (by simp only [putAll, Act.put, List.setIfInBounds_toArray, List.set_cons_zero, List.set_cons_succ]) (hCont (x', (Asx', csx'), (Atx', ctx'), wr.heap.size) _ ⟨HR.out, ⟨S', Ps', HT4.out, HFR4.out, HNS4.out.1, HNS4.out.2, HN8.out.1, HN8.out.2⟩, HZ4.out, Nat.le_refl _⟩)
          rintro ⟨x', ⟨Asx', csx'⟩, ⟨Atx', ctx'⟩, b13⟩ w4 ⟨hx4, ⟨S', Ps', hm4, hf4, hns, hnp, hs13, hp13⟩, h13, hge13⟩
          have hHeld : True := trivial
          refine norm_ (a' := ?_) ?_ ?_
          rotate_left
          · simp only [putAll, Act.put, List.setIfInBounds_toArray, List.set_cons_zero, List.set_cons_succ]
            rfl
          refine last_ (i := 11) (N := none) #[true, true, true, true, true, true, true, true, true, true, true, true, false] rfl rfl (by kernel_rfl) (by decide) (fun K hK => ?_)
          skip
          have zf0 : w4.frozen? ⟨b13, 0, none⟩ = false := blk_frozen h13 0
          have zf1 : w4.frozen? ⟨b13, 1, none⟩ = false := blk_frozen h13 1
          have zf2 : w4.frozen? ⟨b13, 2, none⟩ = false := blk_frozen h13 2
          have zf3 : w4.frozen? ⟨b13, 3, none⟩ = false := blk_frozen h13 3
          have zf4 : w4.frozen? ⟨b13, 4, none⟩ = false := blk_frozen h13 4
          have zf5 : w4.frozen? ⟨b13, 5, none⟩ = false := blk_frozen h13 5
          have zf6 : w4.frozen? ⟨b13, 6, none⟩ = false := blk_frozen h13 6
          have zf7 : w4.frozen? ⟨b13, 7, none⟩ = false := blk_frozen h13 7
          have zf8 : w4.frozen? ⟨b13, 8, none⟩ = false := blk_frozen h13 8
          have zf9 : w4.frozen? ⟨b13, 9, none⟩ = false := blk_frozen h13 9
          have zc0 := blk_cell h13 0
          have zc1 := blk_cell h13 1
          have zc2 := blk_cell h13 2
          have zc3 := blk_cell h13 3
          have zc4 := blk_cell h13 4
          have zc5 := blk_cell h13 5
          have zc6 := blk_cell h13 6
          have zc7 := blk_cell h13 7
          have zc8 := blk_cell h13 8
          have zc9 := blk_cell h13 9
          refine skip_ (w1 := ?_) (by rfl) rfl ?_ ?_
          rotate_left
          · go_simp
            rfl
          refine hK.out _ _ ?_
          clear hK K
          refine pure_ (i := 12) (N := some 14) (v := ?_) (a' := ?_) #[true, true, true, true, true, true, true, true, true, true, true, true, true] rfl rfl (by kernel_rfl) (fun _ _ _ h => h) (Or.inl ⟨by rfl, ?_⟩) ?_ ?_
          rotate_left
          · intro w'
            go_simp
            with_reducible rfl
          rotate_left
          · simp only [Act.put, List.setIfInBounds_toArray, List.set_cons_zero, List.set_cons_succ, i64_w, i32_w]
            rfl
          refine done_ (by kernel_rfl) ?_
          have HN13 := Aside0.mk (show ¬ S b13 ∧ ¬ Ps b13 from ⟨fun h => Nat.not_lt.2 hge13 (HV.out.ltS _ h), fun h => Nat.not_lt.2 hge13 (HV.out.ltP _ h)⟩)
          have hw13 : w.heap.size ≤ b13 := Nat.le_trans HB.out.size hge13
          have hv4 := HV.out.keep hf4 HDJ.out (fun j hj => .inr (HGC.out j hj))
          have hrb4 := (hf4.block rb (blk_lt HX.out) HSN.out.1).trans HX.out
          have hxb4 := (hf4.block xb (blk_lt HXX.out) HSN.out.2.2.1).trans HXX.out
          have hner : rb ≠ b13 := Nat.ne_of_lt (Nat.lt_of_lt_of_le (blk_lt HX.out) hge13)
          have hnex : xb ≠ b13 := Nat.ne_of_lt (Nat.lt_of_lt_of_le (blk_lt HXX.out) hge13)
          have HDJ5 := Aside0.mk (show ∀ j, S' j → ¬ S j ∧ ¬ Ps j from fun j hj => (hns j hj).elim (HDJ.out j) (fun e => ⟨fun h => Nat.not_lt.2 e (HV.out.ltS _ h), fun h => Nat.not_lt.2 e (HV.out.ltP _ h)⟩))
          have HSN5 := Aside0.mk (show ¬ S' rb ∧ ¬ Ps' rb ∧ ¬ S' xb ∧ ¬ Ps' xb from ⟨fun h => (hns _ h).elim HSN.out.1 (fun e => Nat.not_lt.2 e (blk_lt HX.out)), fun h => (hnp _ h).elim HSN.out.2.1 (fun e => Nat.not_lt.2 e (blk_lt HX.out)), fun h => (hns _ h).elim HSN.out.2.2.1 (fun e => Nat.not_lt.2 e (blk_lt HXX.out)), fun h => (hnp _ h).elim HSN.out.2.2.2 (fun e => Nat.not_lt.2 e (blk_lt HXX.out))⟩)
          have HR5 := Aside0.mk (show x' = stepR x Ko m now f lr h from hx4)
          have hF13 := fr_set10 w4 b13 (.int .i64 x'.most) (.int .i64 x'.again) (.slice Asx' x'.said.length csx') (.int .i64 x'.heard) (.int .i64 x'.out) (.slice Atx' x'.took.length ctx') (.int .i64 x'.gave) (.int .i64 x'.last) (.bool x'.went) (.bool x'.owes)
          have h135 := put10 h13 (.int .i64 x'.most) (.int .i64 x'.again) (.slice Asx' x'.said.length csx') (.int .i64 x'.heard) (.int .i64 x'.out) (.slice Atx' x'.took.length ctx') (.int .i64 x'.gave) (.int .i64 x'.last) (.bool x'.went) (.bool x'.owes)
          have hv5 := hv4.far (b := b13) HN13.out.1 HN13.out.2 (.inr hw13) hF13
          have hc5 := hm4.far (b := b13) hs13 hp13 (.inr hw13) hF13
          have hrb5 := (hF13.block rb (blk_lt hrb4) hner).trans hrb4
          have hxb5 := (hF13.block xb (blk_lt hxb4) hnex).trans hxb4
          generalize (((((((((w4.setCell ⟨b13, 0, none⟩ (.int .i64 x'.most)).setCell ⟨b13, 1, none⟩ (.int .i64 x'.again)).setCell ⟨b13, 2, none⟩ (.slice Asx' x'.said.length csx')).setCell ⟨b13, 3, none⟩ (.int .i64 x'.heard)).setCell ⟨b13, 4, none⟩ (.int .i64 x'.out)).setCell ⟨b13, 5, none⟩ (.slice Atx' x'.took.length ctx')).setCell ⟨b13, 6, none⟩ (.int .i64 x'.gave)).setCell ⟨b13, 7, none⟩ (.int .i64 x'.last)).setCell ⟨b13, 8, none⟩ (.bool x'.went)).setCell ⟨b13, 9, none⟩ (.bool x'.owes) = w5 at h135 hv5 hc5 hrb5 hxb5 ⊢
          have HV5 := Aside0.mk hv5
          have HC5 := Aside0.mk hc5
          have HX5 := Aside0.mk hrb5
          have HXX5 := Aside0.mk hxb5
          have e0 : w5.cell? ⟨b13, 0, none⟩ = some (.int .i64 x'.most) := blk_cell h135 0
          have e1 : w5.cell? ⟨b13, 1, none⟩ = some (.int .i64 x'.again) := blk_cell h135 1
          have e2 : w5.cell? ⟨b13, 2, none⟩ = some (.slice Asx' x'.said.length csx') := blk_cell h135 2
          have e3 : w5.cell? ⟨b13, 3, none⟩ = some (.int .i64 x'.heard) := blk_cell h135 3
          have e4 : w5.cell? ⟨b13, 4, none⟩ = some (.int .i64 x'.out) := blk_cell h135 4
          have e5 : w5.cell? ⟨b13, 5, none⟩ = some (.slice Atx' x'.took.length ctx') := blk_cell h135 5
          have e6 : w5.cell? ⟨b13, 6, none⟩ = some (.int .i64 x'.gave) := blk_cell h135 6
          have e7 : w5.cell? ⟨b13, 7, none⟩ = some (.int .i64 x'.last) := blk_cell h135 7
          have e8 : w5.cell? ⟨b13, 8, none⟩ = some (.bool x'.went) := blk_cell h135 8
          have e9 : w5.cell? ⟨b13, 9, none⟩ = some (.bool x'.owes) := blk_cell h135 9
          have qf0 : w5.frozen? ⟨xb, 0, none⟩ = false := blk_frozen hxb5 0
          have qf1 : w5.frozen? ⟨xb, 1, none⟩ = false := blk_frozen hxb5 1
          have qf2 : w5.frozen? ⟨xb, 2, none⟩ = false := blk_frozen hxb5 2
          have qf3 : w5.frozen? ⟨xb, 3, none⟩ = false := blk_frozen hxb5 3
          have qf4 : w5.frozen? ⟨xb, 4, none⟩ = false := blk_frozen hxb5 4
          have qf5 : w5.frozen? ⟨xb, 5, none⟩ = false := blk_frozen hxb5 5
          have qf6 : w5.frozen? ⟨xb, 6, none⟩ = false := blk_frozen hxb5 6
          have qf7 : w5.frozen? ⟨xb, 7, none⟩ = false := blk_frozen hxb5 7
          have qf8 : w5.frozen? ⟨xb, 8, none⟩ = false := blk_frozen hxb5 8
          have qf9 : w5.frozen? ⟨xb, 9, none⟩ = false := blk_frozen hxb5 9
          have qc0 := blk_cell hxb5 0
          have qc1 := blk_cell hxb5 1
          have qc2 := blk_cell hxb5 2
          have qc3 := blk_cell hxb5 3
          have qc4 := blk_cell hxb5 4
          have qc5 := blk_cell hxb5 5
          have qc6 := blk_cell hxb5 6
          have qc7 := blk_cell hxb5 7
          have qc8 := blk_cell hxb5 8
          have qc9 := blk_cell hxb5 9
          clear hF13 h13 h135 hm4 hf4 hns hnp hs13 hp13 hge13 hw13 hv4 hrb4 hxb4 hner hnex hv5 hc5 hrb5 hxb5 hx4 zf0 zc0 zf1 zc1 zf2 zc2 zf3 zc3 zf4 zc4 zf5 zc5 zf6 zc6 zf7 zc7 zf8 zc8 zf9 zc9
          go_upto_region 20 with fail
          have hFx := fr_set10 w5 xb (.int .i64 x'.most) (.int .i64 x'.again) (.slice Asx' x'.said.length csx') (.int .i64 x'.heard) (.int .i64 x'.out) (.slice Atx' x'.took.length ctx') (.int .i64 x'.gave) (.int .i64 x'.last) (.bool x'.went) (.bool x'.owes)
          have h166 := put10 HXX5.out (.int .i64 x'.most) (.int .i64 x'.again) (.slice Asx' x'.said.length csx') (.int .i64 x'.heard) (.int .i64 x'.out) (.slice Atx' x'.took.length ctx') (.int .i64 x'.gave) (.int .i64 x'.last) (.bool x'.went) (.bool x'.owes)
          have hv6 := HV5.out.far (b := xb) HXN.out.1 HXN.out.2 (.inr HWX.out) hFx
          have hc6 := HC5.out.far (b := xb) HSN5.out.2.2.1 HSN5.out.2.2.2 (.inr HWX.out) hFx
          have hrb6 := (hFx.block rb (blk_lt HX5.out) (Nat.ne_of_lt HRX.out)).trans HX5.out
          generalize (((((((((w5.setCell ⟨xb, 0, none⟩ (.int .i64 x'.most)).setCell ⟨xb, 1, none⟩ (.int .i64 x'.again)).setCell ⟨xb, 2, none⟩ (.slice Asx' x'.said.length csx')).setCell ⟨xb, 3, none⟩ (.int .i64 x'.heard)).setCell ⟨xb, 4, none⟩ (.int .i64 x'.out)).setCell ⟨xb, 5, none⟩ (.slice Atx' x'.took.length ctx')).setCell ⟨xb, 6, none⟩ (.int .i64 x'.gave)).setCell ⟨xb, 7, none⟩ (.int .i64 x'.last)).setCell ⟨xb, 8, none⟩ (.bool x'.went)).setCell ⟨xb, 9, none⟩ (.bool x'.owes) = w6 at h166 hv6 hc6 hrb6 ⊢
          have HV6 := Aside0.mk hv6
          have HC6 := Aside0.mk hc6
          have HX6 := Aside0.mk hrb6
          have HXX6 := Aside0.mk h166
          have HOX6 := Aside0.mk (show OkR (k + (i + 1)) x' from by rw [HR5.out]; exact HOX.out.step _ _ _ _ _ _)
          have HBX6 := Aside0.mk (show OkB x' from by rw [HR5.out]; exact HBX.out.step _ _ _ _ _ _ HBY.out.1 HBY.out.2)
          clear hFx h166 hv6 hc6 hrb6 e0 qf0 qc0 e1 qf1 qc1 e2 qf2 qc2 e3 qf3 qc3 e4 qf4 qc4 e5 qf5 qc5 e6 qf6 qc6 e7 qf7 qc7 e8 qf8 qc8 e9 qf9 qc9
          obtain ⟨q, hq⟩ : ∃ q, alikeR r x' = q := ⟨_, rfl⟩
          have HQ := Aside0.mk hq
          have hbb : (q == q) = true := by cases q <;> rfl
          have hbn : (q != q) = false := by cases q <;> rfl
          clear hq
          refine start_ (n := 20) (S := fun w' => w'.cell? ⟨rb, 0, none⟩ = some (.int .i64 r.most) ∧ w'.cell? ⟨rb, 1, none⟩ = some (.int .i64 r.again) ∧ w'.cell? ⟨rb, 2, none⟩ = some (.slice As r.said.length cs) ∧ w'.cell? ⟨rb, 3, none⟩ = some (.int .i64 r.heard) ∧ w'.cell? ⟨rb, 4, none⟩ = some (.int .i64 r.out) ∧ w'.cell? ⟨rb, 5, none⟩ = some (.slice At r.took.length ct) ∧ w'.cell? ⟨rb, 6, none⟩ = some (.int .i64 r.gave) ∧ w'.cell? ⟨rb, 7, none⟩ = some (.int .i64 r.last) ∧ w'.cell? ⟨rb, 8, none⟩ = some (.bool r.went) ∧ w'.cell? ⟨rb, 9, none⟩ = some (.bool r.owes) ∧ w'.cell? ⟨xb, 0, none⟩ = some (.int .i64 x'.most) ∧ w'.cell? ⟨xb, 1, none⟩ = some (.int .i64 x'.again) ∧ w'.cell? ⟨xb, 2, none⟩ = some (.slice Asx' x'.said.length csx') ∧ w'.cell? ⟨xb, 3, none⟩ = some (.int .i64 x'.heard) ∧ w'.cell? ⟨xb, 4, none⟩ = some (.int .i64 x'.out) ∧ w'.cell? ⟨xb, 5, none⟩ = some (.slice Atx' x'.took.length ctx') ∧ w'.cell? ⟨xb, 6, none⟩ = some (.int .i64 x'.gave) ∧ w'.cell? ⟨xb, 7, none⟩ = some (.int .i64 x'.last) ∧ w'.cell? ⟨xb, 8, none⟩ = some (.bool x'.went) ∧ w'.cell? ⟨xb, 9, none⟩ = some (.bool x'.owes)) (ds := []) #[false, false, false, false, false, false, false, false, false, false, false, false, false, false, false, false, false, false, false, false] (by kernel_rfl) rfl rfl ⟨blk_cell (blk_below HX6.out (below_drew (Below.refl _ _))) 0, blk_cell (blk_below HX6.out (below_drew (Below.refl _ _))) 1, blk_cell (blk_below HX6.out (below_drew (Below.refl _ _))) 2, blk_cell (blk_below HX6.out (below_drew (Below.refl _ _))) 3, blk_cell (blk_below HX6.out (below_drew (Below.refl _ _))) 4, blk_cell (blk_below HX6.out (below_drew (Below.refl _ _))) 5, blk_cell (blk_below HX6.out (below_drew (Below.refl _ _))) 6, blk_cell (blk_below HX6.out (below_drew (Below.refl _ _))) 7, blk_cell (blk_below HX6.out (below_drew (Below.refl _ _))) 8, blk_cell (blk_below HX6.out (below_drew (Below.refl _ _))) 9, blk_cell (blk_below HXX6.out (below_drew (Below.refl _ _))) 0, blk_cell (blk_below HXX6.out (below_drew (Below.refl _ _))) 1, blk_cell (blk_below HXX6.out (below_drew (Below.refl _ _))) 2, blk_cell (blk_below HXX6.out (below_drew (Below.refl _ _))) 3, blk_cell (blk_below HXX6.out (below_drew (Below.refl _ _))) 4, blk_cell (blk_below HXX6.out (below_drew (Below.refl _ _))) 5, blk_cell (blk_below HXX6.out (below_drew (Below.refl _ _))) 6, blk_cell (blk_below HXX6.out (below_drew (Below.refl _ _))) 7, blk_cell (blk_below HXX6.out (below_drew (Below.refl _ _))) 8, blk_cell (blk_below HXX6.out (below_drew (Below.refl _ _))) 9⟩ (fun hHeld => ?_)
          refine pure_ (i := 0) (N := some 103) (v := ?_) (a' := ?_) #[true, false, false, false, false, false, false, false, false, false, false, false, false, false, false, false, false, false, false, false] rfl rfl (by kernel_rfl) (fun _ _ _ h => h) (Or.inl ⟨by rfl, ?_⟩) ?_ ?_
          rotate_left
          · intro w'
            go_simp
            with_reducible rfl
          rotate_left
          · simp only [Act.put, List.setIfInBounds_toArray, List.set_cons_zero, List.set_cons_succ, i64_w, i32_w]
            rfl
          refine pure_ (i := 1) (N := some 104) (v := ?_) (a' := ?_) #[true, true, false, false, false, false, false, false, false, false, false, false, false, false, false, false, false, false, false, false] rfl rfl (by kernel_rfl) (fun _ _ _ h => h) (Or.inl ⟨by rfl, ?_⟩) ?_ ?_
          rotate_left
          · intro w'
            go_simp
            with_reducible rfl
          rotate_left
          · simp only [Act.put, List.setIfInBounds_toArray, List.set_cons_zero, List.set_cons_succ, i64_w, i32_w]
            rfl
          refine pure_ (i := 2) (N := some 105) (v := ?_) (a' := ?_) #[true, true, true, false, false, false, false, false, false, false, false, false, false, false, false, false, false, false, false, false] rfl rfl (by kernel_rfl) (fun _ _ _ h => h) (Or.inl ⟨by rfl, ?_⟩) ?_ ?_
          rotate_left
          · intro w'
            go_simp
            with_reducible rfl
          rotate_left
          · simp only [Act.put, List.setIfInBounds_toArray, List.set_cons_zero, List.set_cons_succ, i64_w, i32_w]
            rfl
          refine pure_ (i := 3) (N := some 106) (v := ?_) (a' := ?_) #[true, true, true, true, false, false, false, false, false, false, false, false, false, false, false, false, false, false, false, false] rfl rfl (by kernel_rfl) (fun _ _ _ h => h) (Or.inl ⟨by rfl, ?_⟩) ?_ ?_
          rotate_left
          · intro w'
            go_simp
            with_reducible rfl
          rotate_left
          · simp only [Act.put, List.setIfInBounds_toArray, List.set_cons_zero, List.set_cons_succ, i64_w, i32_w]
            rfl
          refine pure_ (i := 4) (N := some 107) (v := ?_) (a' := ?_) #[true, true, true, true, true, false, false, false, false, false, false, false, false, false, false, false, false, false, false, false] rfl rfl (by kernel_rfl) (fun _ _ _ h => h) (Or.inl ⟨by rfl, ?_⟩) ?_ ?_
          rotate_left
          · intro w'
            go_simp
            with_reducible rfl
          rotate_left
          · simp only [Act.put, List.setIfInBounds_toArray, List.set_cons_zero, List.set_cons_succ, i64_w, i32_w]
            rfl
          refine take_ (i := 6) (N := some 109) (v := ?_) (a' := ?_) #[true, true, true, true, true, false, true, false, false, false, false, false, false, false, false, false, false, false, false, false] rfl rfl (by kernel_rfl) (fun _ _ _ h => h) (Or.inl ⟨by rfl, ?_⟩) hHeld ?_ ?_
          rotate_left
          · rintro w' ⟨s0, s1, s2, s3, s4, s5, s6, s7, s8, s9, s10, s11, s12, s13, s14, s15, s16, s17, s18, s19⟩
            go_simp
            with_reducible rfl
          rotate_left
          · simp only [Act.put, List.setIfInBounds_toArray, List.set_cons_zero, List.set_cons_succ, i64_w, i32_w]
            rfl
          refine take_ (i := 7) (N := some 110) (v := ?_) (a' := ?_) #[true, true, true, true, true, false, true, true, false, false, false, false, false, false, false, false, false, false, false, false] rfl rfl (by kernel_rfl) (fun _ _ _ h => h) (Or.inl ⟨by rfl, ?_⟩) hHeld ?_ ?_
          rotate_left
          · rintro w' ⟨s0, s1, s2, s3, s4, s5, s6, s7, s8, s9, s10, s11, s12, s13, s14, s15, s16, s17, s18, s19⟩
            go_simp
            with_reducible rfl
          rotate_left
          · simp only [Act.put, List.setIfInBounds_toArray, List.set_cons_zero, List.set_cons_succ, i64_w, i32_w]
            rfl
          refine one_ (i := 5) (N := some 108) #[true, true, true, true, true, true, true, true, false, false, false, false, false, false, false, false, false, false, false, false] rfl rfl (by kernel_rfl) (by decide) (fun K hK => ?_)
          refine goes_ Try.func26 (by kernel_rfl) rfl #[.pointer (some ⟨g, 0, none⟩), .pointer (some ⟨g', 0, none⟩)] (by rfl) rfl rfl (by simp only [List.map_toArray, List.map_cons, List.map_nil]; rfl) ?_
          with_reducible refine (same_tk k (k + (i + 1)) g g' S S' r x' q HQ.out HOK.out HOX6.out HKN1.out HKI2.out HOB.out HBX6.out _ (HV6.out.below (below_drew (Below.refl _ _))).tk (HC6.out.below (below_drew (Below.refl _ _))).tk).mono ?_
          rintro e w7 ⟨rfl, hd⟩
          refine ⟨_, rfl, ?_⟩
          have HQ7 := Aside0.mk (below_then (below_drew (Below.refl w6.heap.size w6)) (Nat.le_refl _) hd.below)
          clear hd
          refine hK.out _ _ ⟨blk_cell (blk_below HX6.out (HQ7.out)) 0, blk_cell (blk_below HX6.out (HQ7.out)) 1, blk_cell (blk_below HX6.out (HQ7.out)) 2, blk_cell (blk_below HX6.out (HQ7.out)) 3, blk_cell (blk_below HX6.out (HQ7.out)) 4, blk_cell (blk_below HX6.out (HQ7.out)) 5, blk_cell (blk_below HX6.out (HQ7.out)) 6, blk_cell (blk_below HX6.out (HQ7.out)) 7, blk_cell (blk_below HX6.out (HQ7.out)) 8, blk_cell (blk_below HX6.out (HQ7.out)) 9, blk_cell (blk_below HXX6.out (HQ7.out)) 0, blk_cell (blk_below HXX6.out (HQ7.out)) 1, blk_cell (blk_below HXX6.out (HQ7.out)) 2, blk_cell (blk_below HXX6.out (HQ7.out)) 3, blk_cell (blk_below HXX6.out (HQ7.out)) 4, blk_cell (blk_below HXX6.out (HQ7.out)) 5, blk_cell (blk_below HXX6.out (HQ7.out)) 6, blk_cell (blk_below HXX6.out (HQ7.out)) 7, blk_cell (blk_below HXX6.out (HQ7.out)) 8, blk_cell (blk_below HXX6.out (HQ7.out)) 9⟩ (fun hHeld => ?_)
          clear hK K
          refine norm_ (a' := ?_) ?_ ?_
          rotate_left
          · show Act.put _ (some 108) _ = _
            simp only [Act.put, List.setIfInBounds_toArray, List.set_cons_zero, List.set_cons_succ, i64_w, i32_w]
            rfl
          refine one_ (i := 8) (N := some 111) #[true, true, true, true, true, true, true, true, true, false, false, false, false, false, false, false, false, false, false, false] rfl rfl (by kernel_rfl) (by decide) (fun K hK => ?_)
          refine goes_ Try.func27 (by kernel_rfl) rfl #[.agg #[.int .i64 r.most, .int .i64 r.again, .slice As r.said.length cs, .int .i64 r.heard, .int .i64 r.out, .slice At r.took.length ct, .int .i64 r.gave, .int .i64 r.last, .bool r.went, .bool r.owes], .agg #[.int .i64 x'.most, .int .i64 x'.again, .slice Asx' x'.said.length csx', .int .i64 x'.heard, .int .i64 x'.out, .slice Atx' x'.took.length ctx', .int .i64 x'.gave, .int .i64 x'.last, .bool x'.went, .bool x'.owes]] (by rfl) rfl rfl (by simp only [List.map_toArray, List.map_cons, List.map_nil]; rfl) ?_
          with_reducible refine (alike_q k (k + (i + 1)) r x' q HQ.out Ps Ps' As At Asx' Atx' cs ct csx' ctx' _ (HV6.out.below (HQ7.out)).rv (HC6.out.below (HQ7.out)).rv HOK.out HOX6.out HKN1.out HKI2.out).mono ?_
          rintro e w8 ⟨rfl, hd⟩
          refine ⟨_, rfl, ?_⟩
          have HQ8 := Aside0.mk (below_then HQ7.out HQ7.out.size hd)
          clear hd
          refine hK.out _ _ ⟨blk_cell (blk_below HX6.out (HQ8.out)) 0, blk_cell (blk_below HX6.out (HQ8.out)) 1, blk_cell (blk_below HX6.out (HQ8.out)) 2, blk_cell (blk_below HX6.out (HQ8.out)) 3, blk_cell (blk_below HX6.out (HQ8.out)) 4, blk_cell (blk_below HX6.out (HQ8.out)) 5, blk_cell (blk_below HX6.out (HQ8.out)) 6, blk_cell (blk_below HX6.out (HQ8.out)) 7, blk_cell (blk_below HX6.out (HQ8.out)) 8, blk_cell (blk_below HX6.out (HQ8.out)) 9, blk_cell (blk_below HXX6.out (HQ8.out)) 0, blk_cell (blk_below HXX6.out (HQ8.out)) 1, blk_cell (blk_below HXX6.out (HQ8.out)) 2, blk_cell (blk_below HXX6.out (HQ8.out)) 3, blk_cell (blk_below HXX6.out (HQ8.out)) 4, blk_cell (blk_below HXX6.out (HQ8.out)) 5, blk_cell (blk_below HXX6.out (HQ8.out)) 6, blk_cell (blk_below HXX6.out (HQ8.out)) 7, blk_cell (blk_below HXX6.out (HQ8.out)) 8, blk_cell (blk_below HXX6.out (HQ8.out)) 9⟩ (fun hHeld => ?_)
          clear hK K
          refine norm_ (a' := ?_) ?_ ?_
          rotate_left
          · show Act.put _ (some 111) _ = _
            simp only [Act.put, List.setIfInBounds_toArray, List.set_cons_zero, List.set_cons_succ, i64_w, i32_w]
            rfl
          refine pure_ (i := 9) (N := some 112) (v := ?_) (a' := ?_) #[true, true, true, true, true, true, true, true, true, true, false, false, false, false, false, false, false, false, false, false] rfl rfl (by kernel_rfl) (fun _ _ _ h => h) (Or.inl ⟨by rfl, ?_⟩) ?_ ?_
          rotate_left
          · intro w'
            go_simp
            with_reducible rfl
          rotate_left
          · simp only [Act.put, List.setIfInBounds_toArray, List.set_cons_zero, List.set_cons_succ, i64_w, i32_w]
            rfl
          refine pure_ (i := 10) (N := some 113) (v := ?_) (a' := ?_) #[true, true, true, true, true, true, true, true, true, true, true, false, false, false, false, false, false, false, false, false] rfl rfl (by kernel_rfl) (fun _ _ _ h => h) (Or.inl ⟨by rfl, ?_⟩) ?_ ?_
          rotate_left
          · intro w'
            go_simp
            with_reducible rfl
          rotate_left
          · simp only [Act.put, List.setIfInBounds_toArray, List.set_cons_zero, List.set_cons_succ, i64_w, i32_w]
            rfl
          refine pure_ (i := 11) (N := some 114) (v := ?_) (a' := ?_) #[true, true, true, true, true, true, true, true, true, true, true, true, false, false, false, false, false, false, false, false] rfl rfl (by kernel_rfl) (fun _ _ _ h => h) (Or.inl ⟨by rfl, ?_⟩) ?_ ?_
          rotate_left
          · intro w'
            go_simp
            with_reducible rfl
          rotate_left
          · simp only [Act.put, List.setIfInBounds_toArray, List.set_cons_zero, List.set_cons_succ, i64_w, i32_w]
            rfl
          refine pure_ (i := 12) (N := some 115) (v := ?_) (a' := ?_) #[true, true, true, true, true, true, true, true, true, true, true, true, true, false, false, false, false, false, false, false] rfl rfl (by kernel_rfl) (fun _ _ _ h => h) (Or.inl ⟨by rfl, ?_⟩) ?_ ?_
          rotate_left
          · intro w'
            go_simp
            with_reducible rfl
          rotate_left
          · simp only [Act.put, List.setIfInBounds_toArray, List.set_cons_zero, List.set_cons_succ, i64_w, i32_w]
            rfl
          refine pure_ (i := 13) (N := some 116) (v := ?_) (a' := ?_) #[true, true, true, true, true, true, true, true, true, true, true, true, true, true, false, false, false, false, false, false] rfl rfl (by kernel_rfl) (fun _ _ _ h => h) (Or.inl ⟨by rfl, ?_⟩) ?_ ?_
          rotate_left
          · intro w'
            go_simp
            with_reducible rfl
          rotate_left
          · simp only [Act.put, List.setIfInBounds_toArray, List.set_cons_zero, List.set_cons_succ, i64_w, i32_w]
            rfl
          refine take_ (i := 15) (N := some 118) (v := ?_) (a' := ?_) #[true, true, true, true, true, true, true, true, true, true, true, true, true, true, false, true, false, false, false, false] rfl rfl (by kernel_rfl) (fun _ _ _ h => h) (Or.inl ⟨by rfl, ?_⟩) hHeld ?_ ?_
          rotate_left
          · rintro w' ⟨s0, s1, s2, s3, s4, s5, s6, s7, s8, s9, s10, s11, s12, s13, s14, s15, s16, s17, s18, s19⟩
            go_simp
            with_reducible rfl
          rotate_left
          · simp only [Act.put, List.setIfInBounds_toArray, List.set_cons_zero, List.set_cons_succ, i64_w, i32_w]
            rfl
          refine take_ (i := 16) (N := some 119) (v := ?_) (a' := ?_) #[true, true, true, true, true, true, true, true, true, true, true, true, true, true, false, true, true, false, false, false] rfl rfl (by kernel_rfl) (fun _ _ _ h => h) (Or.inl ⟨by rfl, ?_⟩) hHeld ?_ ?_
          rotate_left
          · rintro w' ⟨s0, s1, s2, s3, s4, s5, s6, s7, s8, s9, s10, s11, s12, s13, s14, s15, s16, s17, s18, s19⟩
            go_simp
            with_reducible rfl
          rotate_left
          · simp only [Act.put, List.setIfInBounds_toArray, List.set_cons_zero, List.set_cons_succ, i64_w, i32_w]
            rfl
          refine one_ (i := 14) (N := some 117) #[true, true, true, true, true, true, true, true, true, true, true, true, true, true, true, true, true, false, false, false] rfl rfl (by kernel_rfl) (by decide) (fun K hK => ?_)
          refine goes_ Try.func26 (by kernel_rfl) rfl #[.pointer (some ⟨g', 0, none⟩), .pointer (some ⟨g, 0, none⟩)] (by rfl) rfl rfl (by simp only [List.map_toArray, List.map_cons, List.map_nil]; rfl) ?_
          with_reducible refine (same_kt k (k + (i + 1)) g g' S S' r x' q HQ.out HOK.out HOX6.out HKN1.out HKI2.out HOB.out HBX6.out _ (HV6.out.below (HQ8.out)).tk (HC6.out.below (HQ8.out)).tk).mono ?_
          rintro e w9 ⟨rfl, hd⟩
          refine ⟨_, rfl, ?_⟩
          have HQ9 := Aside0.mk (below_then HQ8.out HQ8.out.size hd.below)
          clear hd
          refine hK.out _ _ ⟨blk_cell (blk_below HX6.out (HQ9.out)) 0, blk_cell (blk_below HX6.out (HQ9.out)) 1, blk_cell (blk_below HX6.out (HQ9.out)) 2, blk_cell (blk_below HX6.out (HQ9.out)) 3, blk_cell (blk_below HX6.out (HQ9.out)) 4, blk_cell (blk_below HX6.out (HQ9.out)) 5, blk_cell (blk_below HX6.out (HQ9.out)) 6, blk_cell (blk_below HX6.out (HQ9.out)) 7, blk_cell (blk_below HX6.out (HQ9.out)) 8, blk_cell (blk_below HX6.out (HQ9.out)) 9, blk_cell (blk_below HXX6.out (HQ9.out)) 0, blk_cell (blk_below HXX6.out (HQ9.out)) 1, blk_cell (blk_below HXX6.out (HQ9.out)) 2, blk_cell (blk_below HXX6.out (HQ9.out)) 3, blk_cell (blk_below HXX6.out (HQ9.out)) 4, blk_cell (blk_below HXX6.out (HQ9.out)) 5, blk_cell (blk_below HXX6.out (HQ9.out)) 6, blk_cell (blk_below HXX6.out (HQ9.out)) 7, blk_cell (blk_below HXX6.out (HQ9.out)) 8, blk_cell (blk_below HXX6.out (HQ9.out)) 9⟩ (fun hHeld => ?_)
          clear hK K
          refine norm_ (a' := ?_) ?_ ?_
          rotate_left
          · show Act.put _ (some 117) _ = _
            simp only [Act.put, List.setIfInBounds_toArray, List.set_cons_zero, List.set_cons_succ, i64_w, i32_w]
            rfl
          refine one_ (i := 17) (N := some 120) #[true, true, true, true, true, true, true, true, true, true, true, true, true, true, true, true, true, true, false, false] rfl rfl (by kernel_rfl) (by decide) (fun K hK => ?_)
          refine goes_ Try.func27 (by kernel_rfl) rfl #[.agg #[.int .i64 r.most, .int .i64 r.again, .slice As r.said.length cs, .int .i64 r.heard, .int .i64 r.out, .slice At r.took.length ct, .int .i64 r.gave, .int .i64 r.last, .bool r.went, .bool r.owes], .agg #[.int .i64 x'.most, .int .i64 x'.again, .slice Asx' x'.said.length csx', .int .i64 x'.heard, .int .i64 x'.out, .slice Atx' x'.took.length ctx', .int .i64 x'.gave, .int .i64 x'.last, .bool x'.went, .bool x'.owes]] (by rfl) rfl rfl (by simp only [List.map_toArray, List.map_cons, List.map_nil]; rfl) ?_
          with_reducible refine (alike_q k (k + (i + 1)) r x' q HQ.out Ps Ps' As At Asx' Atx' cs ct csx' ctx' _ (HV6.out.below (HQ9.out)).rv (HC6.out.below (HQ9.out)).rv HOK.out HOX6.out HKN1.out HKI2.out).mono ?_
          rintro e w10 ⟨rfl, hd⟩
          refine ⟨_, rfl, ?_⟩
          have HQ10 := Aside0.mk (below_then HQ9.out HQ9.out.size hd)
          clear hd
          refine hK.out _ _ ⟨blk_cell (blk_below HX6.out (HQ10.out)) 0, blk_cell (blk_below HX6.out (HQ10.out)) 1, blk_cell (blk_below HX6.out (HQ10.out)) 2, blk_cell (blk_below HX6.out (HQ10.out)) 3, blk_cell (blk_below HX6.out (HQ10.out)) 4, blk_cell (blk_below HX6.out (HQ10.out)) 5, blk_cell (blk_below HX6.out (HQ10.out)) 6, blk_cell (blk_below HX6.out (HQ10.out)) 7, blk_cell (blk_below HX6.out (HQ10.out)) 8, blk_cell (blk_below HX6.out (HQ10.out)) 9, blk_cell (blk_below HXX6.out (HQ10.out)) 0, blk_cell (blk_below HXX6.out (HQ10.out)) 1, blk_cell (blk_below HXX6.out (HQ10.out)) 2, blk_cell (blk_below HXX6.out (HQ10.out)) 3, blk_cell (blk_below HXX6.out (HQ10.out)) 4, blk_cell (blk_below HXX6.out (HQ10.out)) 5, blk_cell (blk_below HXX6.out (HQ10.out)) 6, blk_cell (blk_below HXX6.out (HQ10.out)) 7, blk_cell (blk_below HXX6.out (HQ10.out)) 8, blk_cell (blk_below HXX6.out (HQ10.out)) 9⟩ (fun hHeld => ?_)
          clear hK K
          refine norm_ (a' := ?_) ?_ ?_
          rotate_left
          · show Act.put _ (some 120) _ = _
            simp only [Act.put, List.setIfInBounds_toArray, List.set_cons_zero, List.set_cons_succ, i64_w, i32_w]
            rfl
          refine pure_ (i := 18) (N := some 121) (v := ?_) (a' := ?_) #[true, true, true, true, true, true, true, true, true, true, true, true, true, true, true, true, true, true, true, false] rfl rfl (by kernel_rfl) (fun _ _ _ h => h) (Or.inl ⟨by rfl, ?_⟩) ?_ ?_
          rotate_left
          · intro w'
            go_simp
            with_reducible rfl
          rotate_left
          · simp only [Act.put, List.setIfInBounds_toArray, List.set_cons_zero, List.set_cons_succ, i64_w, i32_w]
            rfl
          refine pure_ (i := 19) (N := some 122) (v := ?_) (a' := ?_) #[true, true, true, true, true, true, true, true, true, true, true, true, true, true, true, true, true, true, true, true] rfl rfl (by kernel_rfl) (fun _ _ _ h => h) (Or.inl ⟨by rfl, ?_⟩) ?_ ?_
          rotate_left
          · intro w'
            go_simp
            with_reducible rfl
          rotate_left
          · simp only [Act.put, List.setIfInBounds_toArray, List.set_cons_zero, List.set_cons_succ, i64_w, i32_w]
            rfl
          refine done_ (by kernel_rfl) ?_
          have HV10 := Aside0.mk (HV6.out.below HQ10.out)
          have HC10 := Aside0.mk (HC6.out.below HQ10.out)
          have HX10 := Aside0.mk (blk_below HX6.out HQ10.out)
          have HXX10 := Aside0.mk (blk_below HXX6.out HQ10.out)
          clear HV6 HC6 HX6 HXX6 HQ7 HQ8 HQ9 HQ10
          have hkw : wrap64 ((i : Int) + 1) = (i : Int) + 1 := by have := HKI80.out; unfold wrap64; omega
          have hkw2 : IntKind.i64.wrap ((i : Int) + 1) = (i : Int) + 1 := IntWalk.i64_in _ (by have := HKI80.out; omega)
          go_wp2
          go_roundw
          case rel => exact ⟨i + 1, S', Ps', x', Asx', csx', Atx', ctx', by go_num, ⟨HKN.out⟩, HOX6, HBX6, HV10, HC10, HX10, HXX10, HDJ5, HSN5⟩
          case measure => simp [intOf]; have := HKN.out; omega
        · obtain rfl : i = jn2 := by have := HI2.out; omega
          have h2 : decide ((i : Int) < (i : Int)) = false := decide_eq_false (by omega)
          have h2p : ¬ (i : Int) < (i : Int) := by omega
          clear hlt
          go_wp2
          go_ret
          exact ⟨rfl, HV.out.fr.none⟩

end Go.Proofs.Yteeljnlhgaljaaa
