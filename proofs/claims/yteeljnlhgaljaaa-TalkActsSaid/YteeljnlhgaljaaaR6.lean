/- By hand: TalkActs. (The drawing regions' rows are printed by rwt.py.) -/
import Derived.Test.YteeljnlhgaljaaaR5
namespace Go.Proofs.Yteeljnlhgaljaaa
set_option linter.unusedVariables false
set_option linter.unusedSimpArgs false
open Go.RowKit Go.Proofs.YteeljnlhgaljaaaW.PrintWords Go.Proofs.YteeljnlhgaljaaaW.PrintLast Go.Proofs.YteeljnlhgaljaaaW.PrintMore Go.Proofs.Yteeljnlhgaljaaa.P
attribute [local go_sem] min2_int min_two   -- for this text's walks alone

theorem Fr.none {w w' : World} (h : Fr (fun _ => False) w w') : Below w.heap.size w w' := Fr.below (Below.refl _ _) (Nat.le_refl _) h (fun k h => h.elim)
section
variable {ws w w' : World} {S0 Ps0 S Ps S' Ps' : Nat → Prop} {g : Nat} {r r1 r' : Rf} {vs vt vs' vt' : Value}
theorem Mv.start (h : Mv ws S0 Ps0 w g S Ps r r1 vs vt) : Mv w S Ps w g S Ps r r1 vs vt := ⟨h.tk, h.rv, h.dis, h.ltS, h.ltP, fun k h => .inl h, fun k h => .inl h, Fr.refl _ _⟩
theorem Mv.trans (h : Mv ws S0 Ps0 w g S Ps r r1 vs vt) (h' : Mv w S Ps w' g S' Ps' r' r' vs' vt') : Mv ws S0 Ps0 w' g S' Ps' r' r' vs' vt' :=
  ⟨h'.tk, h'.rv, h'.dis, h'.ltS, h'.ltP, fun k hk => (h'.nS k hk).elim (h.nS k) (fun e => .inr (Nat.le_trans h.fr.size e)), fun k hk => (h'.nP k hk).elim (h.nP k) (fun e => .inr (Nat.le_trans h.fr.size e)), h.fr.trans h'.fr h.nS⟩
end
/-- The document's end at the start. -/
abbrev rf0 (most again : Int) : Rf := ⟨most, again, [], 0, 0, [], 0, 0, false, false⟩
theorem ok0 (most again : Int) (h : 1 ≤ most ∧ most ≤ 64) (h' : 1 ≤ again ∧ again ≤ 1000) : OkR 0 (rf0 most again) := ⟨h, h', ⟨Int.le_refl _, Int.le_refl _⟩, by simp, by simp, by simp, by simp, by simp, by simp⟩
theorem info38' : (Try.prog.info? 38).map (fun i => (i.zero, i.size, i.bytes)) = some (some (.agg #[.int .i64 0, .slice none 0 0, .int .i64 0, .int .i64 0, .slice none 0 0, .int .i64 0]), 6, 80) := by kernel_rfl
theorem run_take23 (A : Option Addr) (c n k : Nat) (hk : k ≤ n) (hn : k ≤ c) (W : World) : (Instr.slice 23 (.slice A n c) none (some (.int .i64 (k : Int))) none).run Try.prog W = .ok (.slice A k c) W := by
  have ha : (A.map fun x => x.add 0) = A := by cases A <;> simp [Addr.add]
  have hel : Try.prog.elem 23 = 38 := by simp [Program.elem, Try.underlying23]
  have hu : Try.prog.underlying 23 = some (.slice (Try.prog.elem 23)) := by rw [hel]; exact Try.underlying23
  obtain ⟨i0, hi, hz⟩ := Option.map_eq_some_iff.1 info38'
  simp only [Prod.mk.injEq] at hz
  rw [run_slice_h W 23 A n c hu .i64 (k : Int) (by omega) (by omega), hel]
  simp [sizeOf, typeInfo, hi, hz.2.1, sliced, Result.andThen, ha]
theorem idle_b (n : Nat) (r : Rf) (ok : OkR n r) : (tkOf r).wait.isEmpty = decide (r.heard = (r.said.length : Int)) := by
  have h1 := tkOf_wait n r ok
  by_cases c : r.heard = (r.said.length : Int)
  · rw [decide_eq_true c]
    have : (tkOf r).wait = [] := List.length_eq_zero_iff.1 (by omega)
    rw [this]; rfl
  · rw [decide_eq_false c]
    cases hw : (tkOf r).wait with
    | nil => rw [hw] at h1; simp at h1; omega
    | cons x y => rfl
/-! ### small: it ends, whatever it answers -/
theorem small_in (l : List S38) (i : Nat) (hi : i < l.length) (hb : (rd_T38 l (i : Int)).f3.f1.length ≤ 9223372036854775807) : ∀ d j x3, j + d = (rd_T38 l (i : Int)).f3.f1.length → ∃ x3', ∀ K, baizelaw44_small.l1 (d + 1 + K) l x3 (i : Int) (j : Int) = baizelaw44_small.l0 K l x3' (wrap64 ((i : Int) + 1))
  | 0, j, x3, e => ⟨x3, fun K => by rw [show 0 + 1 + K = K + 1 by omega, baizelaw44_small.l1, if_pos (by omega), if_pos (by omega), if_neg (by omega)]⟩
  | d + 1, j, x3, e => by
    obtain ⟨x3', h⟩ := small_in l i hi hb d (j + 1) (wrap64 (x3 + ((rd_L1 ((rd_T38 l (i : Int)).f3.f1) (j : Int)).length : Int))) (by omega)
    refine ⟨x3', fun K => ?_⟩
    have hw : wrap64 ((j : Int) + 1) = ((j + 1 : Nat) : Int) := by unfold wrap64; omega
    rw [show d + 1 + 1 + K = (d + 1 + K) + 1 by omega, baizelaw44_small.l1, if_pos (by omega), if_pos (by omega), if_pos (by omega), if_pos (by omega), hw]
    exact h K
theorem small_out (l : List S38) (hn : l.length ≤ 80) (hb : ∀ i : Nat, i < l.length → (rd_T38 l (i : Int)).f3.f1.length ≤ 9223372036854775807) : ∀ d i x3, i + d = l.length → ∃ k r, baizelaw44_small.l0 k l x3 (i : Int) = some r
  | 0, i, x3, e => ⟨1, _, by rw [baizelaw44_small.l0, if_neg (by omega)]⟩
  | d + 1, i, x3, e => by
    obtain ⟨x3', h⟩ := small_in l i (by omega) (hb i (by omega)) _ 0 (wrap64 (x3 + (((rd_T38 l (i : Int)).f1).length : Int))) (Nat.zero_add _)
    obtain ⟨k, r, hk⟩ := small_out l hn hb d (i + 1) x3' (by omega)
    refine ⟨((rd_T38 l (i : Int)).f3.f1.length + 1 + k) + 1, r, ?_⟩
    have hw : wrap64 ((i : Int) + 1) = ((i + 1 : Nat) : Int) := by unfold wrap64; omega
    rw [baizelaw44_small.l0, if_pos (by omega), if_pos (by omega)]
    have := h k
    rw [hw, hk] at this
    exact this
theorem small_l (A : Option Addr) (c n : Nat) (l : List S38) (hl : l.length = n) (w : World) (hC : Kd.C k38 w A l.length l) (hc : n ≤ c) (hn : n ≤ 80) : Calls Try.prog 13 #[.slice A n c] w fun e w' => ∃ r, e = .returned (.bool r) ∧ Drawn0 w w' := by
  subst hl
  obtain ⟨k, r, hk⟩ := small_out l hn (fun i hi => by
    obtain ⟨_, _, _, _, _, _, _, _, _, _, _, _, _, _, _, hC4⟩ := at_T38 hC (i : Int) (by omega) (by omega)
    exact hC4.2.1) l.length 0 0 (Nat.zero_add _)
  exact (baizelaw44_small.calls k A c l r w hC hc hk).mono (fun e w' h => ⟨r, h⟩)
set_option maxRecDepth 100000 in
set_option maxHeartbeats 4000000 in
theorem acts_any (a b : Int) (A : Option Addr) (c : Nat) (l : List S38) (w : World) (hl : Kd.C k38 w A l.length l) (hc : l.length ≤ c) :
    Calls Try.prog 3 #[.agg #[.int .i64 a, .int .i64 b], .slice A l.length c] w fun e w' => e = .returned (.bool true) ∧ Below w.heap.size w w' := by
  have HL0 := Aside0.mk hl
  have HC0 := Aside0.mk hc
  clear hl hc
  go_enter Try.func3, Try.ntmps3
  go_wp2_with fail
  refine (begin_ok a b _).mono ?_
  rintro e w1 ⟨g, rfl, hk1, hg, hb1⟩
  have hcap64 := capOf_in 64 a (by omega) (by omega)
  have hcapn := capOf_in 1000 b (by omega) (by omega)
  generalize capOf 64 a = most at hk1 hcap64 ⊢
  generalize capOf 1000 b = again at hk1 hcapn ⊢
  have HO0 := Aside0.mk (ok0 most again hcap64 hcapn)
  have HB1 := Aside0.mk (below_then (below_alloc (Below.refl _ _) _) (below_alloc (Below.refl w.heap.size w) _).size hb1)
  have HK1 := Aside0.mk hk1
  have HG := Aside0.mk (show w.heap.size ≤ g from Nat.le_trans (below_alloc (Below.refl w.heap.size w) _).size hg)
  clear hk1 hcap64 hcapn hg hb1
  go_wp2_with fail
  refine (told_any _).mono ?_
  rintro e w2 ⟨rfl, hb2⟩
  have hbx2 := blk_below (blk_new w1 _) hb2
  have HK2 := Aside0.mk ((HK1.out.below (below_alloc (Below.refl _ _) _)).below hb2)
  have HB2 := Aside0.mk (below_then (below_then HB1.out HB1.out.size (below_alloc (Below.refl _ _) _)) (by simp; have := HB1.out.size; omega) hb2)
  have HRG := Aside0.mk (show w.heap.size ≤ w1.heap.size from HB1.out.size)
  have HGR := Aside0.mk (show g < w1.heap.size by obtain ⟨_, _, _, _, h⟩ := HK1.out; exact blk_lt h.blk)
  generalize w1.heap.size = rb at hbx2 HRG HGR ⊢
  have HX2 := Aside0.mk hbx2
  clear hb2 hbx2 HK1 HB1
  obtain ⟨jn, hj⟩ : ∃ jn : Nat, (if (80 : Int) < (l.length : Int) then (80 : Int) else (l.length : Int)) = (jn : Int) := ⟨if 80 < l.length then 80 else l.length, by split <;> split <;> omega⟩
  have hj0 : jn ≤ l.length ∧ jn ≤ 80 := by split at hj <;> omega
  have hrun := fun W => run_take23 A c l.length jn hj0.1 (Nat.le_trans hj0.1 HC0.out) W
  obtain ⟨l0, hl0⟩ : ∃ l0, l.take jn = l0 := ⟨_, rfl⟩
  have hlen : l0.length = jn := by rw [← hl0, List.length_take]; omega
  have HLN := Aside0.mk hlen
  have HL := Aside0.mk (show Kd.C k38 w A l0.length l0 from hl0 ▸ Kd.C_take HL0.out hj0.1)
  have HJ := Aside0.mk (show jn ≤ c ∧ jn ≤ 80 from ⟨Nat.le_trans hj0.1 HC0.out, hj0.2⟩)
  clear hj0 hl0 hlen HL0 HC0
  go_wp2_with fail
  clear hrun hj
  refine (small_l A c jn l0 HLN.out _ (Kd.C_below HL.out HB2.out) HJ.out.1 HJ.out.2).mono ?_
  rintro e w3 ⟨q, rfl, hd3⟩
  have HV := Aside0.mk (show Mv w (fun _ => False) (fun _ => False) w3 g (fun k => k = g) (fun _ => False) (rf0 most again) (rf0 most again) (.slice none ([] : List (List Int)).length 0) (.slice none ([] : List (List Int)).length 0) from
    ⟨HK2.out.below hd3.below, ⟨Kd.V_nil _ _ _ _ _, Kd.V_nil _ _ _ _ _⟩, fun k h => h.elim, fun k e => e ▸ Nat.lt_of_lt_of_le (Nat.lt_trans HGR.out (blk_lt HX2.out)) hd3.below.size, fun k h => h.elim, fun k e => .inr (e ▸ HG.out), fun k h => h.elim, Fr.of_below (below_then HB2.out HB2.out.size hd3.below)⟩)
  have HX := Aside0.mk (blk_below HX2.out hd3.below)
  have HRB := Aside0.mk (show ¬ (rb = g) ∧ ¬ False from ⟨fun e => Nat.ne_of_gt HGR.out e, id⟩)
  clear hd3 HK2 HX2 HB2
  cases q
  · go_wp2
    go_ret
    exact ⟨rfl, HV.out.fr.none⟩
  go_wp2_with fail
  go_loopw [7] (fun v7 wr => ∃ (k : Nat) (S Ps : Nat → Prop) (r : Rf) (As : Option Addr) (cs : Nat) (At : Option Addr) (ct : Nat), v7 = .int .i64 (k : Int) ∧ Aside0 (k ≤ jn) ∧ Aside0 (OkR k r) ∧ Aside0 (Mv w (fun _ => False) (fun _ => False) wr g S Ps r r (.slice As r.said.length cs) (.slice At r.took.length ct)) ∧ Aside0 (wr.heap[rb]? = some (.cells (rfC r (.slice As r.said.length cs) (.slice At r.took.length ct)) 27 (0, 0))) ∧ Aside0 (¬ S rb ∧ ¬ Ps rb)) (fun v7 wr => jn - (intOf v7).toNat)
  case atStart => exact ⟨0, _, _, _, _, _, _, _, rfl, ⟨Nat.zero_le _⟩, HO0, HV, HX, HRB⟩
  case round =>
    clear HV HX HRB HO0
    obtain ⟨k, S, Ps, r, As, cs, At, ct, rfl, HI, HOK, HV, HX, HRB⟩ := hrel
    by_cases hlt : k < jn
    · have h1 : decide ((k : Int) < (jn : Int)) = true := decide_eq_true (by omega)
      have h1p : (k : Int) < (jn : Int) := by omega
      have HKN := Aside0.mk hlt
      have HK80 := Aside0.mk (show k < 80 by have := HJ.out.2; omega)
      have hk0 : (0 : Int) ≤ (k : Int) := by omega
      obtain ⟨ad, Am, cm, Al, cl, rfl, he0, he1, he2, he3, he4, he5, hcm, hCm, hcl, hCl⟩ := at_T38 HL.out (k : Int) hk0 (by have := HLN.out; omega)
      simp only [Int.toNat_natCast] at he0 he1 he2 he3 he4 he5
      generalize rd_T38 l0 (k : Int) = x at he0 he1 he2 he3 he4 he5 hcm hCm hcl hCl
      obtain ⟨Ko, m, now, f, lr, h⟩ := x
      simp only at he0 he1 he2 he3 he4 he5 hcm hCm hcl hCl
      have HB := Aside0.mk HV.out.fr.none
      have HGS := Aside0.mk (show ∀ k, S k → w.heap.size ≤ k from fun k h => (HV.out.nS k h).elim (fun h => h.elim) id)
      have HCm := Aside0.mk hCm
      have HCl := Aside0.mk hCl
      have HCM := Aside0.mk hcm
      have HCLL := Aside0.mk hcl
      have HE0 := Aside0.mk (pw_cell_below HB.out he0)
      have HE1 := Aside0.mk (pw_cell_below HB.out he1)
      have HE2 := Aside0.mk (pw_cell_below HB.out he2)
      have HE3 := Aside0.mk (pw_cell_below HB.out he3)
      have HE4 := Aside0.mk (pw_cell_below HB.out he4)
      have HE5 := Aside0.mk (pw_cell_below HB.out he5)
      have HF0 := Aside0.mk he0
      have HF1 := Aside0.mk he1
      have HF2 := Aside0.mk he2
      have HF3 := Aside0.mk he3
      have HF4 := Aside0.mk he4
      have HF5 := Aside0.mk he5
      clear he0 he1 he2 he3 he4 he5 hcm hCm hcl hCl hlt
      go_upto_region 10 with fail
      refine start_ (n := 13) (S := fun w' => w'.cell? ⟨rb, 0, none⟩ = some (.int .i64 r.most) ∧ w'.cell? ⟨rb, 1, none⟩ = some (.int .i64 r.again) ∧ w'.cell? ⟨rb, 2, none⟩ = some (.slice As r.said.length cs) ∧ w'.cell? ⟨rb, 3, none⟩ = some (.int .i64 r.heard) ∧ w'.cell? ⟨rb, 4, none⟩ = some (.int .i64 r.out) ∧ w'.cell? ⟨rb, 5, none⟩ = some (.slice At r.took.length ct) ∧ w'.cell? ⟨rb, 6, none⟩ = some (.int .i64 r.gave) ∧ w'.cell? ⟨rb, 7, none⟩ = some (.int .i64 r.last) ∧ w'.cell? ⟨rb, 8, none⟩ = some (.bool r.went) ∧ w'.cell? ⟨rb, 9, none⟩ = some (.bool r.owes) ∧ w'.cell? (ad.add (k * 6)) = some (.int .i64 Ko) ∧ w'.cell? ⟨(ad.add (k * 6)).block, (ad.add (k * 6)).off + 1, none⟩ = some (.slice Am m.length cm) ∧ w'.cell? ⟨(ad.add (k * 6)).block, (ad.add (k * 6)).off + 2, none⟩ = some (.int .i64 now) ∧ w'.cell? ⟨(ad.add (k * 6)).block, (ad.add (k * 6)).off + 3, none⟩ = some (.int .i64 f) ∧ w'.cell? ⟨(ad.add (k * 6)).block, (ad.add (k * 6)).off + 4, none⟩ = some (.slice Al lr.length cl) ∧ w'.cell? ⟨(ad.add (k * 6)).block, (ad.add (k * 6)).off + 5, none⟩ = some (.int .i64 h)) (ds := [11]) #[false, false, false, false, false, false, false, false, false, false, false, false, false] (by kernel_rfl) rfl rfl ⟨blk_cell (blk_below HX.out (below_drew (Below.refl _ _))) 0, blk_cell (blk_below HX.out (below_drew (Below.refl _ _))) 1, blk_cell (blk_below HX.out (below_drew (Below.refl _ _))) 2, blk_cell (blk_below HX.out (below_drew (Below.refl _ _))) 3, blk_cell (blk_below HX.out (below_drew (Below.refl _ _))) 4, blk_cell (blk_below HX.out (below_drew (Below.refl _ _))) 5, blk_cell (blk_below HX.out (below_drew (Below.refl _ _))) 6, blk_cell (blk_below HX.out (below_drew (Below.refl _ _))) 7, blk_cell (blk_below HX.out (below_drew (Below.refl _ _))) 8, blk_cell (blk_below HX.out (below_drew (Below.refl _ _))) 9, pw_cell_below (below_drew (Below.refl _ _)) HE0.out, pw_cell_below (below_drew (Below.refl _ _)) HE1.out, pw_cell_below (below_drew (Below.refl _ _)) HE2.out, pw_cell_below (below_drew (Below.refl _ _)) HE3.out, pw_cell_below (below_drew (Below.refl _ _)) HE4.out, pw_cell_below (below_drew (Below.refl _ _)) HE5.out⟩ (fun hHeld => ?_)
      refine pure_ (i := 0) (N := some 36) (v := ?_) (a' := ?_) #[true, false, false, false, false, false, false, false, false, false, false, false, false] rfl rfl (by kernel_rfl) (fun _ _ _ h => h) (Or.inl ⟨by rfl, ?_⟩) ?_ ?_
      rotate_left
      · intro w'
        go_simp
        with_reducible rfl
      rotate_left
      · simp only [Act.put, List.setIfInBounds_toArray, List.set_cons_zero, List.set_cons_succ, i64_w, i32_w]
        rfl
      refine pure_ (i := 2) (N := some 38) (v := ?_) (a' := ?_) #[true, false, true, false, false, false, false, false, false, false, false, false, false] rfl rfl (by kernel_rfl) (fun _ _ _ h => h) (Or.inl ⟨by rfl, ?_⟩) ?_ ?_
      rotate_left
      · intro w'
        go_simp
        with_reducible rfl
      rotate_left
      · simp only [Act.put, List.setIfInBounds_toArray, List.set_cons_zero, List.set_cons_succ, i64_w, i32_w]
        rfl
      refine pure_ (i := 3) (N := some 39) (v := ?_) (a' := ?_) #[true, false, true, true, false, false, false, false, false, false, false, false, false] rfl rfl (by kernel_rfl) (fun _ _ _ h => h) (Or.inl ⟨by rfl, ?_⟩) ?_ ?_
      rotate_left
      · intro w'
        go_simp
        with_reducible rfl
      rotate_left
      · simp only [Act.put, List.setIfInBounds_toArray, List.set_cons_zero, List.set_cons_succ, i64_w, i32_w]
        rfl
      refine pure_ (i := 4) (N := some 40) (v := ?_) (a' := ?_) #[true, false, true, true, true, false, false, false, false, false, false, false, false] rfl rfl (by kernel_rfl) (fun _ _ _ h => h) (Or.inl ⟨by rfl, ?_⟩) ?_ ?_
      rotate_left
      · intro w'
        go_simp
        with_reducible rfl
      rotate_left
      · simp only [Act.put, List.setIfInBounds_toArray, List.set_cons_zero, List.set_cons_succ, i64_w, i32_w]
        rfl
      refine take_ (i := 1) (N := some 37) (v := ?_) (a' := ?_) #[true, true, true, true, true, false, false, false, false, false, false, false, false] rfl rfl (by kernel_rfl) (fun _ _ _ h => h) (Or.inl ⟨by rfl, ?_⟩) hHeld ?_ ?_
      rotate_left
      · rintro w' ⟨s0, s1, s2, s3, s4, s5, s6, s7, s8, s9, s10, s11, s12, s13, s14, s15⟩
        go_simp
        with_reducible rfl
      rotate_left
      · simp only [Act.put, List.setIfInBounds_toArray, List.set_cons_zero, List.set_cons_succ, i64_w, i32_w]
        rfl
      refine take_ (i := 5) (N := some 41) (v := ?_) (a' := ?_) #[true, true, true, true, true, true, false, false, false, false, false, false, false] rfl rfl (by kernel_rfl) (fun _ _ _ h => h) (Or.inl ⟨by rfl, ?_⟩) hHeld ?_ ?_
      rotate_left
      · rintro w' ⟨s0, s1, s2, s3, s4, s5, s6, s7, s8, s9, s10, s11, s12, s13, s14, s15⟩
        go_simp
        with_reducible rfl
      rotate_left
      · simp only [Act.put, List.setIfInBounds_toArray, List.set_cons_zero, List.set_cons_succ, i64_w, i32_w]
        rfl
      refine join_ (σ := Rf × (Option Addr × Nat) × (Option Addr × Nat) × Nat) 2 #[true, true, true, true, true, true, true, true, true, true, true, false, false] (fun s => [(42, Value.tuple #[Value.agg (rfC s.1 (.slice s.2.1.1 s.1.said.length s.2.1.2) (.slice s.2.2.1.1 s.1.took.length s.2.2.1.2)), .bool true]), (35, Value.tuple #[Value.agg (rfC s.1 (.slice s.2.1.1 s.1.said.length s.2.1.2) (.slice s.2.2.1.1 s.1.took.length s.2.2.1.2)), .bool true]), (43, Value.agg (rfC s.1 (.slice s.2.1.1 s.1.said.length s.2.1.2) (.slice s.2.2.1.1 s.1.took.length s.2.2.1.2))), (44, Value.bool true), (8, Value.pointer (some ⟨s.2.2.2, 0, none⟩))]) (fun s w' => s.1 = stepR r Ko m now f lr h ∧ (∃ S' Ps', Mv w (fun _ => False) (fun _ => False) w' g S' Ps' s.1 s.1 (.slice s.2.1.1 s.1.said.length s.2.1.2) (.slice s.2.2.1.1 s.1.took.length s.2.2.1.2) ∧ ¬ S' s.2.2.2 ∧ ¬ Ps' s.2.2.2 ∧ ¬ S' rb ∧ ¬ Ps' rb) ∧ w'.heap[s.2.2.2]? = some (.cells #[.int .i64 0, .int .i64 0, .slice none 0 0, .int .i64 0, .int .i64 0, .slice none 0 0, .int .i64 0, .int .i64 0, .bool false, .bool false] 27 (0, 0)) ∧ w'.heap[rb]? = some (.cells (rfC r (.slice As r.said.length cs) (.slice At r.took.length ct)) 27 (0, 0)) ∧ w.heap.size ≤ s.2.2.2 ∧ rb < s.2.2.2) ?_ ?_
      rotate_left
      · intro hCont
        refine two_ (i := 6) (j := 10) (Ni := some 42) (Nj := some 8) #[true, true, true, true, true, true, true, false, false, false, false, false, false] #[true, true, true, true, true, true, false, false, false, false, true, false, false] rfl rfl rfl rfl (by kernel_rfl) (by decide) (by decide) (fun K hK => ?_) (fun K hK => ?_)
        · skip
          refine goes_ Try.func14 (by kernel_rfl) rfl #[.pointer (some ⟨g, 0, none⟩), .agg #[.int .i64 r.most, .int .i64 r.again, .slice As r.said.length cs, .int .i64 r.heard, .int .i64 r.out, .slice At r.took.length ct, .int .i64 r.gave, .int .i64 r.last, .bool r.went, .bool r.owes], .agg #[.int .i64 Ko, .slice Am m.length cm, .int .i64 now, .int .i64 f, .slice Al lr.length cl, .int .i64 h]] (by rfl) rfl rfl (by simp only [List.map_toArray, List.map_cons, List.map_nil]; rfl) ?_
          with_reducible refine (do_ok k HK80.out _ _ S Ps S Ps (fun k => k < w.heap.size) g r _ _ Ko Am cm m now f h Al cl lr (HV.out.below (below_drew (Below.refl wr.heap.size wr))).start HOK.out (Kd.F_step (Kd.C_F (Kd.heap_int _) HCm.out) (fun k hk _ => (below_then HB.out HB.out.size (below_drew (Below.refl wr.heap.size wr))).block k hk)) HCM.out (Kd.F_step (Kd.C_F (Kd.heap_slice _ (Kd.heap_int _)) HCl.out) (fun k hk _ => (below_then HB.out HB.out.size (below_drew (Below.refl wr.heap.size wr))).block k hk)) HCLL.out (fun k hk => ⟨fun hs => absurd hk (Nat.not_lt.2 (HGS.out k hs)), Nat.lt_of_lt_of_le hk (below_then HB.out HB.out.size (below_drew (Below.refl wr.heap.size wr))).size⟩)).mono ?_
          rintro e w4 ⟨S', Ps', r', vs', vt', rfl, hr', hm4⟩
          refine ⟨_, rfl, ?_⟩
          obtain ⟨As', cs', rfl⟩ := Kd.V_slice hm4.rv.1
          obtain ⟨At', ct', rfl⟩ := Kd.V_slice hm4.rv.2
          have HR := Aside0.mk hr'
          have HM4 := Aside0.mk hm4
          have HT4 := Aside0.mk ((HV.out.below (below_drew (Below.refl wr.heap.size wr))).trans hm4)
          have HX4 := Aside0.mk ((hm4.fr.block rb (blk_lt (blk_below HX.out (below_drew (Below.refl wr.heap.size wr)))) HRB.out.1).trans (blk_below HX.out (below_drew (Below.refl wr.heap.size wr))))
          have HB04 := Aside0.mk HT4.out.fr.none
          have HN4 := Aside0.mk (show ¬ S' rb ∧ ¬ Ps' rb from ⟨fun h => (hm4.nS _ h).elim HRB.out.1 (fun h' => Nat.not_lt.2 h' (blk_lt (blk_below HX.out (below_drew (Below.refl wr.heap.size wr))))), fun h => (hm4.nP _ h).elim HRB.out.2 (fun h' => Nat.not_lt.2 h' (blk_lt (blk_below HX.out (below_drew (Below.refl wr.heap.size wr)))))⟩)
          clear hr' hm4
          refine hK.out _ _ ⟨blk_cell HX4.out 0, blk_cell HX4.out 1, blk_cell HX4.out 2, blk_cell HX4.out 3, blk_cell HX4.out 4, blk_cell HX4.out 5, blk_cell HX4.out 6, blk_cell HX4.out 7, blk_cell HX4.out 8, blk_cell HX4.out 9, pw_cell_below HB04.out HF0.out, pw_cell_below HB04.out HF1.out, pw_cell_below HB04.out HF2.out, pw_cell_below HB04.out HF3.out, pw_cell_below HB04.out HF4.out, pw_cell_below HB04.out HF5.out⟩ (fun hHeld => ?_)
          clear hK K
          refine norm_ (a' := ?_) ?_ ?_
          rotate_left
          · show Act.put _ (some 42) _ = _
            simp only [Act.put, List.setIfInBounds_toArray, List.set_cons_zero, List.set_cons_succ, i64_w, i32_w]
            rfl
          refine pure_ (i := 7) (N := some 35) (v := ?_) (a' := ?_) #[true, true, true, true, true, true, true, true, false, false, false, false, false] rfl rfl (by kernel_rfl) (fun _ _ _ h => h) (Or.inl ⟨by rfl, ?_⟩) ?_ ?_
          rotate_left
          · intro w'
            go_simp
            with_reducible rfl
          rotate_left
          · simp only [Act.put, List.setIfInBounds_toArray, List.set_cons_zero, List.set_cons_succ, i64_w, i32_w]
            rfl
          refine pure_ (i := 8) (N := some 43) (v := ?_) (a' := ?_) #[true, true, true, true, true, true, true, true, true, false, false, false, false] rfl rfl (by kernel_rfl) (fun _ _ _ h => h) (Or.inl ⟨by rfl, ?_⟩) ?_ ?_
          rotate_left
          · intro w'
            go_simp
            with_reducible rfl
          rotate_left
          · simp only [Act.put, List.setIfInBounds_toArray, List.set_cons_zero, List.set_cons_succ, i64_w, i32_w]
            rfl
          refine pure_ (i := 9) (N := some 44) (v := ?_) (a' := ?_) #[true, true, true, true, true, true, true, true, true, true, false, false, false] rfl rfl (by kernel_rfl) (fun _ _ _ h => h) (Or.inl ⟨by rfl, ?_⟩) ?_ ?_
          rotate_left
          · intro w'
            go_simp
            with_reducible rfl
          rotate_left
          · simp only [Act.put, List.setIfInBounds_toArray, List.set_cons_zero, List.set_cons_succ, i64_w, i32_w]
            rfl
          refine one_ (i := 10) (N := some 8) #[true, true, true, true, true, true, true, true, true, true, true, false, false] rfl rfl (by kernel_rfl) (by decide) (fun K hK => ?_)
          refine value_ (w1 := ?_) (v := ?_) (by rfl) rfl ?_ ?_
          rotate_left 2
          · go_simp
            constructor
            · rfl
            · rfl
          refine hK.out _ _ ⟨blk_cell (blk_alloc HX4.out _) 0, blk_cell (blk_alloc HX4.out _) 1, blk_cell (blk_alloc HX4.out _) 2, blk_cell (blk_alloc HX4.out _) 3, blk_cell (blk_alloc HX4.out _) 4, blk_cell (blk_alloc HX4.out _) 5, blk_cell (blk_alloc HX4.out _) 6, blk_cell (blk_alloc HX4.out _) 7, blk_cell (blk_alloc HX4.out _) 8, blk_cell (blk_alloc HX4.out _) 9, pw_cell_below (below_then HB04.out HB04.out.size (below_alloc (Below.refl _ _) _)) HF0.out, pw_cell_below (below_then HB04.out HB04.out.size (below_alloc (Below.refl _ _) _)) HF1.out, pw_cell_below (below_then HB04.out HB04.out.size (below_alloc (Below.refl _ _) _)) HF2.out, pw_cell_below (below_then HB04.out HB04.out.size (below_alloc (Below.refl _ _) _)) HF3.out, pw_cell_below (below_then HB04.out HB04.out.size (below_alloc (Below.refl _ _) _)) HF4.out, pw_cell_below (below_then HB04.out HB04.out.size (below_alloc (Below.refl _ _) _)) HF5.out⟩ (fun hHeld => ?_)
          clear hK K
          refine norm_ (a' := ?_) ?_ ?_
          rotate_left
          · show Act.put _ (some 8) _ = _
            simp only [Act.put, List.setIfInBounds_toArray, List.set_cons_zero, List.set_cons_succ, i64_w, i32_w]
            rfl
          exact norm_ (by simp only [putAll, Act.put, List.setIfInBounds_toArray, List.set_cons_zero, List.set_cons_succ]) (hCont (r', (As', cs'), (At', ct'), w4.heap.size) _ ⟨HR.out, ⟨S', Ps', HT4.out.below (below_alloc (Below.refl _ _) _), fun h => Nat.lt_irrefl _ (HT4.out.ltS _ h), fun h => Nat.lt_irrefl _ (HT4.out.ltP _ h), HN4.out.1, HN4.out.2⟩, blk_new w4 _, blk_alloc HX4.out _, HB04.out.size, blk_lt HX4.out⟩)
        · skip
          refine value_ (w1 := ?_) (v := ?_) (by rfl) rfl ?_ ?_
          rotate_left 2
          · go_simp
            constructor
            · rfl
            · rfl
          refine hK.out _ _ ⟨blk_cell (blk_below HX.out (below_alloc (below_drew (Below.refl wr.heap.size wr)) _)) 0, blk_cell (blk_below HX.out (below_alloc (below_drew (Below.refl wr.heap.size wr)) _)) 1, blk_cell (blk_below HX.out (below_alloc (below_drew (Below.refl wr.heap.size wr)) _)) 2, blk_cell (blk_below HX.out (below_alloc (below_drew (Below.refl wr.heap.size wr)) _)) 3, blk_cell (blk_below HX.out (below_alloc (below_drew (Below.refl wr.heap.size wr)) _)) 4, blk_cell (blk_below HX.out (below_alloc (below_drew (Below.refl wr.heap.size wr)) _)) 5, blk_cell (blk_below HX.out (below_alloc (below_drew (Below.refl wr.heap.size wr)) _)) 6, blk_cell (blk_below HX.out (below_alloc (below_drew (Below.refl wr.heap.size wr)) _)) 7, blk_cell (blk_below HX.out (below_alloc (below_drew (Below.refl wr.heap.size wr)) _)) 8, blk_cell (blk_below HX.out (below_alloc (below_drew (Below.refl wr.heap.size wr)) _)) 9, pw_cell_below (below_alloc (below_drew (Below.refl wr.heap.size wr)) _) HE0.out, pw_cell_below (below_alloc (below_drew (Below.refl wr.heap.size wr)) _) HE1.out, pw_cell_below (below_alloc (below_drew (Below.refl wr.heap.size wr)) _) HE2.out, pw_cell_below (below_alloc (below_drew (Below.refl wr.heap.size wr)) _) HE3.out, pw_cell_below (below_alloc (below_drew (Below.refl wr.heap.size wr)) _) HE4.out, pw_cell_below (below_alloc (below_drew (Below.refl wr.heap.size wr)) _) HE5.out⟩ (fun hHeld => ?_)
          clear hK K
          refine norm_ (a' := ?_) ?_ ?_
          rotate_left
          · show Act.put _ (some 8) _ = _
            simp only [Act.put, List.setIfInBounds_toArray, List.set_cons_zero, List.set_cons_succ, i64_w, i32_w]
            rfl
          refine one_ (i := 6) (N := some 42) #[true, true, true, true, true, true, true, false, false, false, true, false, false] rfl rfl (by kernel_rfl) (by decide) (fun K hK => ?_)
          refine goes_ Try.func14 (by kernel_rfl) rfl #[.pointer (some ⟨g, 0, none⟩), .agg #[.int .i64 r.most, .int .i64 r.again, .slice As r.said.length cs, .int .i64 r.heard, .int .i64 r.out, .slice At r.took.length ct, .int .i64 r.gave, .int .i64 r.last, .bool r.went, .bool r.owes], .agg #[.int .i64 Ko, .slice Am m.length cm, .int .i64 now, .int .i64 f, .slice Al lr.length cl, .int .i64 h]] (by rfl) rfl rfl (by simp only [List.map_toArray, List.map_cons, List.map_nil]; rfl) ?_
          with_reducible refine (do_ok k HK80.out _ _ S Ps S Ps (fun k => k < w.heap.size) g r _ _ Ko Am cm m now f h Al cl lr (HV.out.below (below_drew (below_alloc (Below.refl wr.heap.size wr) (.cells #[.int .i64 0, .int .i64 0, .slice none 0 0, .int .i64 0, .int .i64 0, .slice none 0 0, .int .i64 0, .int .i64 0, .bool false, .bool false] 27)))).start HOK.out (Kd.F_step (Kd.C_F (Kd.heap_int _) HCm.out) (fun k hk _ => (below_then HB.out HB.out.size (below_drew (below_alloc (Below.refl wr.heap.size wr) (.cells #[.int .i64 0, .int .i64 0, .slice none 0 0, .int .i64 0, .int .i64 0, .slice none 0 0, .int .i64 0, .int .i64 0, .bool false, .bool false] 27)))).block k hk)) HCM.out (Kd.F_step (Kd.C_F (Kd.heap_slice _ (Kd.heap_int _)) HCl.out) (fun k hk _ => (below_then HB.out HB.out.size (below_drew (below_alloc (Below.refl wr.heap.size wr) (.cells #[.int .i64 0, .int .i64 0, .slice none 0 0, .int .i64 0, .int .i64 0, .slice none 0 0, .int .i64 0, .int .i64 0, .bool false, .bool false] 27)))).block k hk)) HCLL.out (fun k hk => ⟨fun hs => absurd hk (Nat.not_lt.2 (HGS.out k hs)), Nat.lt_of_lt_of_le hk (below_then HB.out HB.out.size (below_drew (below_alloc (Below.refl wr.heap.size wr) (.cells #[.int .i64 0, .int .i64 0, .slice none 0 0, .int .i64 0, .int .i64 0, .slice none 0 0, .int .i64 0, .int .i64 0, .bool false, .bool false] 27)))).size⟩)).mono ?_
          rintro e w4 ⟨S', Ps', r', vs', vt', rfl, hr', hm4⟩
          refine ⟨_, rfl, ?_⟩
          obtain ⟨As', cs', rfl⟩ := Kd.V_slice hm4.rv.1
          obtain ⟨At', ct', rfl⟩ := Kd.V_slice hm4.rv.2
          have HR := Aside0.mk hr'
          have HM4 := Aside0.mk hm4
          have HT4 := Aside0.mk ((HV.out.below (below_drew (below_alloc (Below.refl wr.heap.size wr) (.cells #[.int .i64 0, .int .i64 0, .slice none 0 0, .int .i64 0, .int .i64 0, .slice none 0 0, .int .i64 0, .int .i64 0, .bool false, .bool false] 27)))).trans hm4)
          have HX4 := Aside0.mk ((hm4.fr.block rb (blk_lt (blk_below HX.out (below_drew (below_alloc (Below.refl wr.heap.size wr) (.cells #[.int .i64 0, .int .i64 0, .slice none 0 0, .int .i64 0, .int .i64 0, .slice none 0 0, .int .i64 0, .int .i64 0, .bool false, .bool false] 27))))) HRB.out.1).trans (blk_below HX.out (below_drew (below_alloc (Below.refl wr.heap.size wr) (.cells #[.int .i64 0, .int .i64 0, .slice none 0 0, .int .i64 0, .int .i64 0, .slice none 0 0, .int .i64 0, .int .i64 0, .bool false, .bool false] 27)))))
          have HB04 := Aside0.mk HT4.out.fr.none
          have HN4 := Aside0.mk (show ¬ S' rb ∧ ¬ Ps' rb from ⟨fun h => (hm4.nS _ h).elim HRB.out.1 (fun h' => Nat.not_lt.2 h' (blk_lt (blk_below HX.out (below_drew (below_alloc (Below.refl wr.heap.size wr) (.cells #[.int .i64 0, .int .i64 0, .slice none 0 0, .int .i64 0, .int .i64 0, .slice none 0 0, .int .i64 0, .int .i64 0, .bool false, .bool false] 27)))))), fun h => (hm4.nP _ h).elim HRB.out.2 (fun h' => Nat.not_lt.2 h' (blk_lt (blk_below HX.out (below_drew (below_alloc (Below.refl wr.heap.size wr) (.cells #[.int .i64 0, .int .i64 0, .slice none 0 0, .int .i64 0, .int .i64 0, .slice none 0 0, .int .i64 0, .int .i64 0, .bool false, .bool false] 27))))))⟩)
          have HZ4 := Aside0.mk ((hm4.fr.block wr.heap.size (blk_lt (blk_below (blk_new wr (.cells #[.int .i64 0, .int .i64 0, .slice none 0 0, .int .i64 0, .int .i64 0, .slice none 0 0, .int .i64 0, .int .i64 0, .bool false, .bool false] 27)) (below_drew (Below.refl _ _)))) (fun h => Nat.lt_irrefl _ (HV.out.ltS _ h))).trans (blk_below (blk_new wr (.cells #[.int .i64 0, .int .i64 0, .slice none 0 0, .int .i64 0, .int .i64 0, .slice none 0 0, .int .i64 0, .int .i64 0, .bool false, .bool false] 27)) (below_drew (Below.refl _ _))))
          have HN8 := Aside0.mk (show ¬ S' wr.heap.size ∧ ¬ Ps' wr.heap.size from ⟨fun h => (hm4.nS _ h).elim (fun h' => Nat.lt_irrefl _ (HV.out.ltS _ h')) (fun h' => Nat.not_lt.2 h' (blk_lt (blk_below (blk_new wr (.cells #[.int .i64 0, .int .i64 0, .slice none 0 0, .int .i64 0, .int .i64 0, .slice none 0 0, .int .i64 0, .int .i64 0, .bool false, .bool false] 27)) (below_drew (Below.refl _ _))))), fun h => (hm4.nP _ h).elim (fun h' => Nat.lt_irrefl _ (HV.out.ltP _ h')) (fun h' => Nat.not_lt.2 h' (blk_lt (blk_below (blk_new wr (.cells #[.int .i64 0, .int .i64 0, .slice none 0 0, .int .i64 0, .int .i64 0, .slice none 0 0, .int .i64 0, .int .i64 0, .bool false, .bool false] 27)) (below_drew (Below.refl _ _)))))⟩)
          clear hr' hm4
          refine hK.out _ _ ⟨blk_cell HX4.out 0, blk_cell HX4.out 1, blk_cell HX4.out 2, blk_cell HX4.out 3, blk_cell HX4.out 4, blk_cell HX4.out 5, blk_cell HX4.out 6, blk_cell HX4.out 7, blk_cell HX4.out 8, blk_cell HX4.out 9, pw_cell_below HB04.out HF0.out, pw_cell_below HB04.out HF1.out, pw_cell_below HB04.out HF2.out, pw_cell_below HB04.out HF3.out, pw_cell_below HB04.out HF4.out, pw_cell_below HB04.out HF5.out⟩ (fun hHeld => ?_)
          clear hK K
          refine norm_ (a' := ?_) ?_ ?_
          rotate_left
          · show Act.put _ (some 42) _ = _
            simp only [Act.put, List.setIfInBounds_toArray, List.set_cons_zero, List.set_cons_succ, i64_w, i32_w]
            rfl
          refine pure_ (i := 7) (N := some 35) (v := ?_) (a' := ?_) #[true, true, true, true, true, true, true, true, false, false, true, false, false] rfl rfl (by kernel_rfl) (fun _ _ _ h => h) (Or.inl ⟨by rfl, ?_⟩) ?_ ?_
          rotate_left
          · intro w'
            go_simp
            with_reducible rfl
          rotate_left
          · simp only [Act.put, List.setIfInBounds_toArray, List.set_cons_zero, List.set_cons_succ, i64_w, i32_w]
            rfl
          refine pure_ (i := 8) (N := some 43) (v := ?_) (a' := ?_) #[true, true, true, true, true, true, true, true, true, false, true, false, false] rfl rfl (by kernel_rfl) (fun _ _ _ h => h) (Or.inl ⟨by rfl, ?_⟩) ?_ ?_
          rotate_left
          · intro w'
            go_simp
            with_reducible rfl
          rotate_left
          · simp only [Act.put, List.setIfInBounds_toArray, List.set_cons_zero, List.set_cons_succ, i64_w, i32_w]
            rfl
          refine pure_ (i := 9) (N := some 44) (v := ?_) (a' := ?_) #[true, true, true, true, true, true, true, true, true, true, true, false, false] rfl rfl (by kernel_rfl) (fun _ _ _ h => h) (Or.inl ⟨by rfl, ?_⟩) ?_ ?_
          rotate_left
          · intro w'
            go_simp
            with_reducible rfl
          rotate_left
          · simp only [Act.put, List.setIfInBounds_toArray, List.set_cons_zero, List.set_cons_succ, i64_w, i32_w]
            rfl
          exact norm_ (by simp only [putAll, Act.put, List.setIfInBounds_toArray, List.set_cons_zero, List.set_cons_succ]) (hCont (r', (As', cs'), (At', ct'), wr.heap.size) _ ⟨HR.out, ⟨S', Ps', HT4.out, HN8.out.1, HN8.out.2, HN4.out.1, HN4.out.2⟩, HZ4.out, HX4.out, HB.out.size, blk_lt HX.out⟩)
      rintro ⟨r', ⟨As', cs'⟩, ⟨At', ct'⟩, b8⟩ w4 ⟨hr4, ⟨S', Ps', hm4, hs8, hp8, hsr, hpr⟩, h8, hx4, hge8, hrb8⟩
      have hHeld : True := trivial
      refine norm_ (a' := ?_) ?_ ?_
      rotate_left
      · simp only [putAll, Act.put, List.setIfInBounds_toArray, List.set_cons_zero, List.set_cons_succ]
        rfl
      refine last_ (i := 11) (N := none) #[true, true, true, true, true, true, true, true, true, true, true, true, false] rfl rfl (by kernel_rfl) (by decide) (fun K hK => ?_)
      skip
      have zf0 : w4.frozen? ⟨b8, 0, none⟩ = false := blk_frozen h8 0
      have zf1 : w4.frozen? ⟨b8, 1, none⟩ = false := blk_frozen h8 1
      have zf2 : w4.frozen? ⟨b8, 2, none⟩ = false := blk_frozen h8 2
      have zf3 : w4.frozen? ⟨b8, 3, none⟩ = false := blk_frozen h8 3
      have zf4 : w4.frozen? ⟨b8, 4, none⟩ = false := blk_frozen h8 4
      have zf5 : w4.frozen? ⟨b8, 5, none⟩ = false := blk_frozen h8 5
      have zf6 : w4.frozen? ⟨b8, 6, none⟩ = false := blk_frozen h8 6
      have zf7 : w4.frozen? ⟨b8, 7, none⟩ = false := blk_frozen h8 7
      have zf8 : w4.frozen? ⟨b8, 8, none⟩ = false := blk_frozen h8 8
      have zf9 : w4.frozen? ⟨b8, 9, none⟩ = false := blk_frozen h8 9
      have zc0 := blk_cell h8 0
      have zc1 := blk_cell h8 1
      have zc2 := blk_cell h8 2
      have zc3 := blk_cell h8 3
      have zc4 := blk_cell h8 4
      have zc5 := blk_cell h8 5
      have zc6 := blk_cell h8 6
      have zc7 := blk_cell h8 7
      have zc8 := blk_cell h8 8
      have zc9 := blk_cell h8 9
      refine skip_ (w1 := ?_) (by rfl) rfl ?_ ?_
      rotate_left
      · go_simp
        rfl
      refine hK.out _ _ ?_
      clear hK K
      refine pure_ (i := 12) (N := some 9) (v := ?_) (a' := ?_) #[true, true, true, true, true, true, true, true, true, true, true, true, true] rfl rfl (by kernel_rfl) (fun _ _ _ h => h) (Or.inl ⟨by rfl, ?_⟩) ?_ ?_
      rotate_left
      · intro w'
        go_simp
        with_reducible rfl
      rotate_left
      · simp only [Act.put, List.setIfInBounds_toArray, List.set_cons_zero, List.set_cons_succ, i64_w, i32_w]
        rfl
      refine done_ (by kernel_rfl) ?_
      have hF5 := fr_set10 w4 b8 (.int .i64 r'.most) (.int .i64 r'.again) (.slice As' r'.said.length cs') (.int .i64 r'.heard) (.int .i64 r'.out) (.slice At' r'.took.length ct') (.int .i64 r'.gave) (.int .i64 r'.last) (.bool r'.went) (.bool r'.owes)
      have h85 := put10 h8 (.int .i64 r'.most) (.int .i64 r'.again) (.slice As' r'.said.length cs') (.int .i64 r'.heard) (.int .i64 r'.out) (.slice At' r'.took.length ct') (.int .i64 r'.gave) (.int .i64 r'.last) (.bool r'.went) (.bool r'.owes)
      have hm5 := hm4.far (b := b8) hs8 hp8 (.inr hge8) hF5
      have hx5 := (hF5.block rb (blk_lt hx4) (Nat.ne_of_lt hrb8)).trans hx4
      have HR4 := Aside0.mk (show r' = stepR r Ko m now f lr h from hr4)
      have HN5 := Aside0.mk (show ¬ S' rb ∧ ¬ Ps' rb from ⟨hsr, hpr⟩)
      generalize (((((((((w4.setCell ⟨b8, 0, none⟩ (.int .i64 r'.most)).setCell ⟨b8, 1, none⟩ (.int .i64 r'.again)).setCell ⟨b8, 2, none⟩ (.slice As' r'.said.length cs')).setCell ⟨b8, 3, none⟩ (.int .i64 r'.heard)).setCell ⟨b8, 4, none⟩ (.int .i64 r'.out)).setCell ⟨b8, 5, none⟩ (.slice At' r'.took.length ct')).setCell ⟨b8, 6, none⟩ (.int .i64 r'.gave)).setCell ⟨b8, 7, none⟩ (.int .i64 r'.last)).setCell ⟨b8, 8, none⟩ (.bool r'.went)).setCell ⟨b8, 9, none⟩ (.bool r'.owes) = w5 at h85 hm5 hx5 ⊢
      have HM5 := Aside0.mk hm5
      have HX5 := Aside0.mk hx5
      have e0 : w5.cell? ⟨b8, 0, none⟩ = some (.int .i64 r'.most) := blk_cell h85 0
      have e1 : w5.cell? ⟨b8, 1, none⟩ = some (.int .i64 r'.again) := blk_cell h85 1
      have e2 : w5.cell? ⟨b8, 2, none⟩ = some (.slice As' r'.said.length cs') := blk_cell h85 2
      have e3 : w5.cell? ⟨b8, 3, none⟩ = some (.int .i64 r'.heard) := blk_cell h85 3
      have e4 : w5.cell? ⟨b8, 4, none⟩ = some (.int .i64 r'.out) := blk_cell h85 4
      have e5 : w5.cell? ⟨b8, 5, none⟩ = some (.slice At' r'.took.length ct') := blk_cell h85 5
      have e6 : w5.cell? ⟨b8, 6, none⟩ = some (.int .i64 r'.gave) := blk_cell h85 6
      have e7 : w5.cell? ⟨b8, 7, none⟩ = some (.int .i64 r'.last) := blk_cell h85 7
      have e8 : w5.cell? ⟨b8, 8, none⟩ = some (.bool r'.went) := blk_cell h85 8
      have e9 : w5.cell? ⟨b8, 9, none⟩ = some (.bool r'.owes) := blk_cell h85 9
      have qf0 : w5.frozen? ⟨rb, 0, none⟩ = false := blk_frozen hx5 0
      have qf1 : w5.frozen? ⟨rb, 1, none⟩ = false := blk_frozen hx5 1
      have qf2 : w5.frozen? ⟨rb, 2, none⟩ = false := blk_frozen hx5 2
      have qf3 : w5.frozen? ⟨rb, 3, none⟩ = false := blk_frozen hx5 3
      have qf4 : w5.frozen? ⟨rb, 4, none⟩ = false := blk_frozen hx5 4
      have qf5 : w5.frozen? ⟨rb, 5, none⟩ = false := blk_frozen hx5 5
      have qf6 : w5.frozen? ⟨rb, 6, none⟩ = false := blk_frozen hx5 6
      have qf7 : w5.frozen? ⟨rb, 7, none⟩ = false := blk_frozen hx5 7
      have qf8 : w5.frozen? ⟨rb, 8, none⟩ = false := blk_frozen hx5 8
      have qf9 : w5.frozen? ⟨rb, 9, none⟩ = false := blk_frozen hx5 9
      have qc0 := blk_cell hx5 0
      have qc1 := blk_cell hx5 1
      have qc2 := blk_cell hx5 2
      have qc3 := blk_cell hx5 3
      have qc4 := blk_cell hx5 4
      have qc5 := blk_cell hx5 5
      have qc6 := blk_cell hx5 6
      have qc7 := blk_cell hx5 7
      have qc8 := blk_cell hx5 8
      have qc9 := blk_cell hx5 9
      clear hF5 h8 h85 hm4 hm5 hx4 hx5 hr4 hsr hpr hs8 hp8 hge8 hrb8 zf0 zc0 zf1 zc1 zf2 zc2 zf3 zc3 zf4 zc4 zf5 zc5 zf6 zc6 zf7 zc7 zf8 zc8 zf9 zc9
      go_upto_region 12 with fail
      have h66 := put10 HX5.out (.int .i64 r'.most) (.int .i64 r'.again) (.slice As' r'.said.length cs') (.int .i64 r'.heard) (.int .i64 r'.out) (.slice At' r'.took.length ct') (.int .i64 r'.gave) (.int .i64 r'.last) (.bool r'.went) (.bool r'.owes)
      have hm6 := HM5.out.far (b := rb) HN5.out.1 HN5.out.2 (.inr HRG.out) (fr_set10 w5 rb (.int .i64 r'.most) (.int .i64 r'.again) (.slice As' r'.said.length cs') (.int .i64 r'.heard) (.int .i64 r'.out) (.slice At' r'.took.length ct') (.int .i64 r'.gave) (.int .i64 r'.last) (.bool r'.went) (.bool r'.owes))
      generalize (((((((((w5.setCell ⟨rb, 0, none⟩ (.int .i64 r'.most)).setCell ⟨rb, 1, none⟩ (.int .i64 r'.again)).setCell ⟨rb, 2, none⟩ (.slice As' r'.said.length cs')).setCell ⟨rb, 3, none⟩ (.int .i64 r'.heard)).setCell ⟨rb, 4, none⟩ (.int .i64 r'.out)).setCell ⟨rb, 5, none⟩ (.slice At' r'.took.length ct')).setCell ⟨rb, 6, none⟩ (.int .i64 r'.gave)).setCell ⟨rb, 7, none⟩ (.int .i64 r'.last)).setCell ⟨rb, 8, none⟩ (.bool r'.went)).setCell ⟨rb, 9, none⟩ (.bool r'.owes) = w6 at h66 hm6 ⊢
      have HX6 := Aside0.mk h66
      have HM6 := Aside0.mk hm6
      have HOK6 := Aside0.mk (show OkR (k + 1) r' from by rw [HR4.out]; exact HOK.out.step _ _ _ _ _ _)
      clear h66 hm6 e0 qf0 qc0 e1 qf1 qc1 e2 qf2 qc2 e3 qf3 qc3 e4 qf4 qc4 e5 qf5 qc5 e6 qf6 qc6 e7 qf7 qc7 e8 qf8 qc8 e9 qf9 qc9
      obtain ⟨bI, hbI⟩ : ∃ bI, decide (r'.heard = (r'.said.length : Int)) = bI := ⟨_, rfl⟩
      have HBI := Aside0.mk (show (tkOf r').wait.isEmpty = bI from (idle_b (k + 1) r' HOK6.out).trans hbI)
      have hbq : (r'.heard == (r'.said.length : Int)) = bI := by rw [← hbI]; by_cases c : r'.heard = (r'.said.length : Int) <;> simp [c]
      have hbb : (bI == bI) = true := by cases bI <;> rfl
      have hbn : (bI != bI) = false := by cases bI <;> rfl
      refine start_ (n := 13) (S := fun w' => w'.cell? ⟨rb, 3, none⟩ = some (.int .i64 r'.heard) ∧ w'.cell? ⟨rb, 2, none⟩ = some (.slice As' r'.said.length cs')) (ds := []) #[false, false, false, false, false, false, false, false, false, false, false, false, false] (by kernel_rfl) rfl rfl ⟨blk_cell (blk_below HX6.out (below_drew (Below.refl _ _))) 3, blk_cell (blk_below HX6.out (below_drew (Below.refl _ _))) 2⟩ (fun hHeld => ?_)
      refine pure_ (i := 0) (N := some 46) (v := ?_) (a' := ?_) #[true, false, false, false, false, false, false, false, false, false, false, false, false] rfl rfl (by kernel_rfl) (fun _ _ _ h => h) (Or.inl ⟨by rfl, ?_⟩) ?_ ?_
      rotate_left
      · intro w'
        go_simp
        with_reducible rfl
      rotate_left
      · simp only [Act.put, List.setIfInBounds_toArray, List.set_cons_zero, List.set_cons_succ, i64_w, i32_w]
        rfl
      refine pure_ (i := 1) (N := some 47) (v := ?_) (a' := ?_) #[true, true, false, false, false, false, false, false, false, false, false, false, false] rfl rfl (by kernel_rfl) (fun _ _ _ h => h) (Or.inl ⟨by rfl, ?_⟩) ?_ ?_
      rotate_left
      · intro w'
        go_simp
        with_reducible rfl
      rotate_left
      · simp only [Act.put, List.setIfInBounds_toArray, List.set_cons_zero, List.set_cons_succ, i64_w, i32_w]
        rfl
      refine pure_ (i := 2) (N := some 48) (v := ?_) (a' := ?_) #[true, true, true, false, false, false, false, false, false, false, false, false, false] rfl rfl (by kernel_rfl) (fun _ _ _ h => h) (Or.inl ⟨by rfl, ?_⟩) ?_ ?_
      rotate_left
      · intro w'
        go_simp
        with_reducible rfl
      rotate_left
      · simp only [Act.put, List.setIfInBounds_toArray, List.set_cons_zero, List.set_cons_succ, i64_w, i32_w]
        rfl
      refine pure_ (i := 3) (N := some 49) (v := ?_) (a' := ?_) #[true, true, true, true, false, false, false, false, false, false, false, false, false] rfl rfl (by kernel_rfl) (fun _ _ _ h => h) (Or.inl ⟨by rfl, ?_⟩) ?_ ?_
      rotate_left
      · intro w'
        go_simp
        with_reducible rfl
      rotate_left
      · simp only [Act.put, List.setIfInBounds_toArray, List.set_cons_zero, List.set_cons_succ, i64_w, i32_w]
        rfl
      refine pure_ (i := 5) (N := some 51) (v := ?_) (a' := ?_) #[true, true, true, true, false, true, false, false, false, false, false, false, false] rfl rfl (by kernel_rfl) (fun _ _ _ h => h) (Or.inl ⟨by rfl, ?_⟩) ?_ ?_
      rotate_left
      · intro w'
        go_simp
        with_reducible rfl
      rotate_left
      · simp only [Act.put, List.setIfInBounds_toArray, List.set_cons_zero, List.set_cons_succ, i64_w, i32_w]
        rfl
      refine pure_ (i := 7) (N := some 53) (v := ?_) (a' := ?_) #[true, true, true, true, false, true, false, true, false, false, false, false, false] rfl rfl (by kernel_rfl) (fun _ _ _ h => h) (Or.inl ⟨by rfl, ?_⟩) ?_ ?_
      rotate_left
      · intro w'
        go_simp
        with_reducible rfl
      rotate_left
      · simp only [Act.put, List.setIfInBounds_toArray, List.set_cons_zero, List.set_cons_succ, i64_w, i32_w]
        rfl
      refine take_ (i := 6) (N := some 52) (v := ?_) (a' := ?_) #[true, true, true, true, false, true, true, true, false, false, false, false, false] rfl rfl (by kernel_rfl) (fun _ _ _ h => h) (Or.inl ⟨by rfl, ?_⟩) hHeld ?_ ?_
      rotate_left
      · rintro w' ⟨s0, s1⟩
        go_simp
        with_reducible rfl
      rotate_left
      · simp only [Act.put, List.setIfInBounds_toArray, List.set_cons_zero, List.set_cons_succ, i64_w, i32_w]
        rfl
      refine take_ (i := 8) (N := some 54) (v := ?_) (a' := ?_) #[true, true, true, true, false, true, true, true, true, false, false, false, false] rfl rfl (by kernel_rfl) (fun _ _ _ h => h) (Or.inl ⟨by rfl, ?_⟩) hHeld ?_ ?_
      rotate_left
      · rintro w' ⟨s0, s1⟩
        go_simp
        with_reducible rfl
      rotate_left
      · simp only [Act.put, List.setIfInBounds_toArray, List.set_cons_zero, List.set_cons_succ, i64_w, i32_w]
        rfl
      refine pure_ (i := 9) (N := some 55) (v := ?_) (a' := ?_) #[true, true, true, true, false, true, true, true, true, true, false, false, false] rfl rfl (by kernel_rfl) (fun _ _ _ h => h) (Or.inl ⟨by rfl, ?_⟩) ?_ ?_
      rotate_left
      · intro w'
        go_simp
        with_reducible rfl
      rotate_left
      · simp only [Act.put, List.setIfInBounds_toArray, List.set_cons_zero, List.set_cons_succ, i64_w, i32_w]
        rfl
      refine pure_ (i := 10) (N := some 56) (v := ?_) (a' := ?_) #[true, true, true, true, false, true, true, true, true, true, true, false, false] rfl rfl (by kernel_rfl) (fun _ _ _ h => h) (Or.inl ⟨by rfl, ?_⟩) ?_ ?_
      rotate_left
      · intro w'
        go_simp
        with_reducible rfl
      rotate_left
      · simp only [Act.put, List.setIfInBounds_toArray, List.set_cons_zero, List.set_cons_succ, i64_w, i32_w]
        rfl
      refine one_ (i := 4) (N := some 50) #[true, true, true, true, true, true, true, true, true, true, true, false, false] rfl rfl (by kernel_rfl) (by decide) (fun K hK => ?_)
      refine goes_ Try.func15 (by kernel_rfl) rfl #[.pointer (some ⟨g, 0, none⟩)] (by rfl) rfl rfl (by simp only [List.map_toArray, List.map_cons, List.map_nil]; rfl) ?_
      with_reducible refine (idle_is g S' (tkOf r') _ (HM6.out.below (below_drew (Below.refl _ _))).tk HBI.out).mono ?_
      rintro e w7 ⟨rfl, rfl⟩
      refine ⟨_, rfl, ?_⟩
      refine hK.out _ _ ⟨blk_cell (blk_below HX6.out (below_drew (Below.refl _ _))) 3, blk_cell (blk_below HX6.out (below_drew (Below.refl _ _))) 2⟩ (fun hHeld => ?_)
      clear hK K
      refine norm_ (a' := ?_) ?_ ?_
      rotate_left
      · show Act.put _ (some 50) _ = _
        simp only [Act.put, List.setIfInBounds_toArray, List.set_cons_zero, List.set_cons_succ, i64_w, i32_w]
        rfl
      refine pure_ (i := 11) (N := some 57) (v := ?_) (a' := ?_) #[true, true, true, true, true, true, true, true, true, true, true, true, false] rfl rfl (by kernel_rfl) (fun _ _ _ h => h) (Or.inl ⟨by rfl, ?_⟩) ?_ ?_
      rotate_left
      · intro w'
        go_simp
        with_reducible rfl
      rotate_left
      · simp only [Act.put, List.setIfInBounds_toArray, List.set_cons_zero, List.set_cons_succ, i64_w, i32_w]
        rfl
      refine pure_ (i := 12) (N := some 58) (v := ?_) (a' := ?_) #[true, true, true, true, true, true, true, true, true, true, true, true, true] rfl rfl (by kernel_rfl) (fun _ _ _ h => h) (Or.inl ⟨by rfl, ?_⟩) ?_ ?_
      rotate_left
      · intro w'
        go_simp
        with_reducible rfl
      rotate_left
      · simp only [Act.put, List.setIfInBounds_toArray, List.set_cons_zero, List.set_cons_succ, i64_w, i32_w]
        rfl
      refine done_ (by kernel_rfl) ?_
      have HX7 := Aside0.mk (blk_below HX6.out (below_drew (Below.refl _ _)))
      have HM7 := Aside0.mk (HM6.out.below (below_drew (Below.refl _ _)))
      clear HX6 HM6
      generalize w6.drew = w7 at HX7 HM7 ⊢
      have hkw : wrap64 ((k : Int) + 1) = (k : Int) + 1 := by have := HK80.out; unfold wrap64; omega
      have hkw2 : IntKind.i64.wrap ((k : Int) + 1) = (k : Int) + 1 := IntWalk.i64_in _ (by have := HK80.out; omega)
      go_wp2
      go_roundw
      case rel => exact ⟨k + 1, S', Ps', r', As', cs', At', ct', by go_num, ⟨HKN.out⟩, HOK6, HM7, HX7, HN5⟩
      case measure => simp [intOf]; have := HKN.out; omega
    · obtain rfl : k = jn := by have := HI.out; omega
      have h1 : decide ((k : Int) < (k : Int)) = false := decide_eq_false (by omega)
      have h1p : ¬ (k : Int) < (k : Int) := by omega
      clear hlt
      go_wp2
      go_ret
      exact ⟨rfl, HV.out.fr.none⟩
end Go.Proofs.Yteeljnlhgaljaaa
