/- By hand: do. -/
import Derived.Test.YteeljnlhgaljaaaR2
import Derived.Test.YteeljnlhgaljaaaPx4
namespace Go.Proofs.Yteeljnlhgaljaaa
set_option linter.unusedVariables false
set_option linter.unusedSimpArgs false
open Go.RowKit Go.Proofs.YteeljnlhgaljaaaW.PrintWords Go.Proofs.YteeljnlhgaljaaaW.PrintLast Go.Proofs.YteeljnlhgaljaaaW.PrintMore Go.Proofs.Yteeljnlhgaljaaa.P

/-- The same rows are the same. -/
theorem same_ll (gl : List (List Int)) (A : Option Addr) (c : Nat) (A' : Option Addr) (c' : Nat) (w : World) (h : Kd.C kM w A gl.length gl) (h' : Kd.C kM w A' gl.length gl) (hl : gl.length ≤ 5120) : Calls Try.prog 17 #[.slice A gl.length c, .slice A' gl.length c'] w fun e w' => e = .returned (.bool true) ∧ Drawn0 w w' := by
  have := same_any A c gl A' c' gl w h h' (by omega)
  rwa [sameL_refl] at this
theorem rgot_l (n : Nat) (r : Rf) (gl : List (List Int)) (hgl : r.took.drop r.gave.toNat = gl) (Ps : Nat → Prop) (vs vt : Value) (w : World) (ok : OkR n r) (hV : Rv w Ps r vs vt) :
    Calls Try.prog 33 #[.agg (rfC r vs vt)] w fun e w' => ∃ r' vs' vt' A c, e = .returned (.tuple #[.agg (rfC r' vs' vt'), .slice A gl.length c]) ∧ r' = gotR r ∧ Rv w' (fun k => Ps k ∨ w.heap.size ≤ k) r' vs' vt' ∧ Kd.V kM 34 w' 0 (fun k => Ps k ∨ w.heap.size ≤ k) (.slice A gl.length c) gl ∧ Below w.heap.size w w' := by
  subst hgl
  exact rgot_ok n r Ps vs vt w ok hV
theorem tgot_l (g : Nat) (S : Nat → Prop) (r : Rf) (gl : List (List Int)) (hgl : r.took.drop r.gave.toNat = gl) (w : World) (ht : IsTk w g S (tkOf r)) :
    Calls Try.prog 21 #[.pointer (some ⟨g, 0, none⟩)] w fun e w' => ∃ (S' : Nat → Prop) (A : Option Addr) (c : Nat), e = .returned (.slice A gl.length c) ∧ Kd.C kM w' A gl.length gl ∧ gl.length ≤ c ∧ IsTk w' g S' (tkOf (gotR r)) ∧ (∀ k, S' k → S k ∨ w.heap.size ≤ k) ∧ Fr S w w' := by
  subst hgl
  exact tgot_is g S r w ht
theorem rtick_l (n : Nat) (r : Rf) (now : Int) (d : Bool) (tl : List (List Int)) (f0 h0 : Int) (hd : rfDue r now = d) (hl : tickL r now = tl) (hf : tickF r now = f0) (hh : tickH r now = h0) (Ps : Nat → Prop) (vs vt : Value) (w : World) (ok : OkR n r) (hn : n ≤ 80) (hnow : 0 ≤ now ∧ now < 1099511627776) (hV : Rv w Ps r vs vt) :
    Calls Try.prog 29 #[.agg (rfC r vs vt), .int .i64 now] w fun e w' => ∃ r' vs' vt' A c, e = .returned (.tuple #[.agg (rfC r' vs' vt'), .agg #[.int .i64 f0, .slice A tl.length c, .int .i64 h0], .bool d]) ∧ r' = tickR r now ∧ Rv w' (fun k => Ps k ∨ w.heap.size ≤ k) r' vs' vt' ∧ Kd.V kM 34 w' 0 (fun k => Ps k ∨ w.heap.size ≤ k) (.slice A tl.length c) tl ∧ Below w.heap.size w w' := by
  subst hd hl hf hh
  refine (rtick_is n r now Ps vs vt w ok hn hnow hV).mono ?_
  rintro e w' ⟨r', vs', vt', f, h, A, c, rfl, ⟨h1, rfl, rfl⟩, h2, h3, h4⟩
  exact ⟨r', vs', vt', A, c, rfl, h1, h2, h3, h4⟩
theorem ttick_l (n : Nat) (g : Nat) (S : Nat → Prop) (r : Rf) (now : Int) (d : Bool) (tl : List (List Int)) (f0 h0 : Int) (hd : rfDue r now = d) (hl : tickL r now = tl) (hf : tickF r now = f0) (hh : tickH r now = h0) (w : World) (ok : OkR n r) (hn : n ≤ 80) (hnow : 0 ≤ now ∧ now < 1099511627776) (ht : IsTk w g S (tkOf r)) :
    Calls Try.prog 19 #[.pointer (some ⟨g, 0, none⟩), .int .i64 now] w fun e w' => ∃ (S' : Nat → Prop) (A : Option Addr) (c : Nat), e = .returned (.tuple #[.agg #[.int .i64 f0, .slice A tl.length c, .int .i64 h0], .bool d]) ∧ Kd.V kM 34 w' 0 (fun k => w.heap.size ≤ k ∧ k < w'.heap.size) (.slice A tl.length c) tl ∧ IsTk w' g S' (tkOf (tickR r now)) ∧ (∀ k, S' k → S k ∨ w.heap.size ≤ k) ∧ Fr S w w' := by
  subst hd hl hf hh
  refine (ttick_is n g S r now w ok hn hnow ht).mono ?_
  rintro e w' ⟨S', f, h, A, c, rfl, ⟨rfl, rfl⟩, h2, h3, h4, h5⟩
  exact ⟨S', A, c, rfl, h2, h3, h4, h5⟩
/-- The same packet is the same. -/
theorem same_pp (f h : Int) (gl : List (List Int)) (A : Option Addr) (c : Nat) (A' : Option Addr) (c' : Nat) (w : World) (hC : Kd.C kM w A gl.length gl) (hc : gl.length ≤ c) (hC' : Kd.C kM w A' gl.length gl) (hc' : gl.length ≤ c') (hl : gl.length ≤ 5120) : Calls Try.prog 30 #[.agg #[.int .i64 f, .slice A gl.length c, .int .i64 h], .agg #[.int .i64 f, .slice A' gl.length c', .int .i64 h]] w fun e w' => e = .returned (.bool true) ∧ Below w.heap.size w w' := by
  refine baizelaw44_same.calls f A c gl h f A' c' gl h true w hC hc hC' hc' ?_
  unfold baizelaw44_same.f baizeref44_Same.f
  rw [if_pos rfl, if_pos rfl, if_pos (by omega), sameL_refl]
  rfl
theorem few_l (f h : Int) (l l' : List (List Int)) (e : l.take (mn (l.length : Int) 70).toNat = l') (A : Option Addr) (c : Nat) (Po : Nat → Prop) (w : World) (hl : Kd.F kM w Po A l.length l) (hc : l.length ≤ c) :
    Calls Try.prog 31 #[.agg #[.int .i64 f, .slice A l.length c, .int .i64 h]] w fun e w' => ∃ A1 c1 A2 c2, e = .returned (.tuple #[.agg #[.int .i64 f, .slice A1 l'.length c1, .int .i64 h], .agg #[.int .i64 f, .slice A2 l'.length c2, .int .i64 h]]) ∧ Kd.V kM 34 w' 0 (fun k => Po k ∨ w.heap.size ≤ k) (.slice A1 l'.length c1) l' ∧ Kd.V kM 34 w' 0 (fun k => Po k ∨ w.heap.size ≤ k) (.slice A2 l'.length c2) l' ∧ Below w.heap.size w w' := by
  subst e
  have hm : 0 ≤ mn (l.length : Int) 70 ∧ mn (l.length : Int) 70 ≤ l.length := by unfold mn; split <;> omega
  refine (baizelaw44_few.calls f Po A c l h f (l.take (mn (l.length : Int) 70).toNat) h f (l.take (mn (l.length : Int) 70).toNat) h w (Kd.V_mk hc hl) (by unfold baizelaw44_few.f; rw [if_pos hm.1, if_pos hm.2]; rfl)).mono ?_
  rintro e w' ⟨v1, v4, rfl, h1, h4, hb⟩
  obtain ⟨A1, c1, rfl⟩ := Kd.V_slice h1
  obtain ⟨A2, c2, rfl⟩ := Kd.V_slice h4
  exact ⟨A1, c1, A2, c2, rfl, V_any h1, V_any h4, hb⟩
theorem tickL_len (n : Nat) (r : Rf) (now : Int) (ok : OkR n r) : (tickL r now).length ≤ n := by
  have := ok.said
  unfold tickL
  split
  · rw [List.length_drop]; omega
  · simp
set_option maxRecDepth 100000 in
set_option maxHeartbeats 2000000 in
theorem do0 (n : Nat) (hn : n < 80) (ws w : World) (S0 Ps0 S Ps Po : Nat → Prop) (g : Nat) (r : Rf) (vs vt : Value) (K : Int) (Am : Option Addr) (cm : Nat) (m : List Int) (now f h : Int) (Al : Option Addr) (cl : Nat) (l : List (List Int)) (hM : Mv ws S0 Ps0 w g S Ps r r vs vt) (ok : OkR n r) (hm : Kd.F (Kd.int .u8) w Po Am m.length m) (hmc : m.length ≤ cm) (hl : Kd.F kM w Po Al l.length l) (hlc : l.length ≤ cl) (hPo : ∀ k, Po k → ¬ S k ∧ k < w.heap.size) (hk : modN K 4 = 0) :
    Calls Try.prog 14 #[.pointer (some ⟨g, 0, none⟩), .agg (rfC r vs vt), .agg #[.int .i64 K, .slice Am m.length cm, .int .i64 now, .int .i64 f, .slice Al l.length cl, .int .i64 h]] w fun e w' => ∃ S' Ps' r' vs' vt', e = .returned (.tuple #[.agg (rfC r' vs' vt'), .bool true]) ∧ r' = stepR r K m now f l h ∧ Mv ws S0 Ps0 w' g S' Ps' r' r' vs' vt' := by
  obtain ⟨As, cs, rfl⟩ := Kd.V_slice hM.rv.1
  obtain ⟨At, ct, rfl⟩ := Kd.V_slice hM.rv.2
  have HM := Aside0.mk hM
  have OK := Aside0.mk ok
  have HN := Aside0.mk (Nat.le_of_lt hn)
  have HMF := Aside0.mk hm
  have HMC := Aside0.mk hmc
  have HLF := Aside0.mk hl
  have HLC := Aside0.mk hlc
  have HPO := Aside0.mk hPo
  have HK := Aside0.mk hk
  have hk' : wrap64 ((IntKind.u64.wrap K).tmod 4) = 0 := hk
  clear hM ok hn hm hmc hl hlc hPo hk
  go_enter Try.func14, Try.ntmps14
  go_upto_region 1 with fail
  generalize hz : ((w.alloc _).alloc _).alloc _ = w1
  obtain ⟨hb1, h4, h5, h6⟩ : Below w.heap.size w w1 ∧ w1.heap[w.heap.size]? = some (.cells (rfC r (.slice As r.said.length cs) (.slice At r.took.length ct)) 27 (0, 0)) ∧ w1.heap[w.heap.size + 1]? = some (.cells #[.int .i64 K, .slice Am m.length cm, .int .i64 now, .int .i64 f, .slice Al l.length cl, .int .i64 h] 38 (0, 0)) ∧ w1.heap[w.heap.size + 1 + 1]? = some (.cells #[.int .i64 0, .int .i64 0, .slice none 0 0, .int .i64 0, .int .i64 0, .slice none 0 0, .int .i64 0, .int .i64 0, .bool false, .bool false] 27 (0, 0)) := hz ▸ laid3 w _ _ _ _ _ _
  clear hz
  have HB1 := Aside0.mk hb1
  obtain ⟨b4, hb4⟩ : ∃ b4, b4 = w.heap.size := ⟨_, rfl⟩
  have HB4 := Aside0.mk hb4
  rw [← hb4] at h4 h5 h6 ⊢
  have H4 := Aside0.mk h4
  have H5 := Aside0.mk h5
  have H6 := Aside0.mk h6
  have hb5S : ¬ S (b4 + 1) := fun h => by have := HM.out.ltS _ h; omega
  have hb6S : ¬ S (b4 + 1 + 1) := fun h => by have := HM.out.ltS _ h; omega
  have hb6P : ¬ Ps (b4 + 1 + 1) := fun h => by have := HM.out.ltP _ h; omega
  have HBS := Aside0.mk (show _ ∧ _ ∧ _ from ⟨hb5S, hb6S, hb6P⟩)
  clear hb1 hb4 hb5S hb6S hb6P
  have x0 : w1.cell? ⟨b4, 0, none⟩ = some (.int .i64 r.most) := blk_cell h4 0
  have x1 : w1.cell? ⟨b4, 1, none⟩ = some (.int .i64 r.again) := blk_cell h4 1
  have x2 : w1.cell? ⟨b4, 2, none⟩ = some (.slice As r.said.length cs) := blk_cell h4 2
  have x3 : w1.cell? ⟨b4, 3, none⟩ = some (.int .i64 r.heard) := blk_cell h4 3
  have x4 : w1.cell? ⟨b4, 4, none⟩ = some (.int .i64 r.out) := blk_cell h4 4
  have x5 : w1.cell? ⟨b4, 5, none⟩ = some (.slice At r.took.length ct) := blk_cell h4 5
  have x6 : w1.cell? ⟨b4, 6, none⟩ = some (.int .i64 r.gave) := blk_cell h4 6
  have x7 : w1.cell? ⟨b4, 7, none⟩ = some (.int .i64 r.last) := blk_cell h4 7
  have x8 : w1.cell? ⟨b4, 8, none⟩ = some (.bool r.went) := blk_cell h4 8
  have x9 : w1.cell? ⟨b4, 9, none⟩ = some (.bool r.owes) := blk_cell h4 9
  have y0 : w1.cell? ⟨b4 + 1, 0, none⟩ = some (.int .i64 K) := blk_cell h5 0
  have y1 : w1.cell? ⟨b4 + 1, 1, none⟩ = some (.slice Am m.length cm) := blk_cell h5 1
  have y2 : w1.cell? ⟨b4 + 1, 2, none⟩ = some (.int .i64 now) := blk_cell h5 2
  have y3 : w1.cell? ⟨b4 + 1, 3, none⟩ = some (.int .i64 f) := blk_cell h5 3
  have y4 : w1.cell? ⟨b4 + 1, 4, none⟩ = some (.slice Al l.length cl) := blk_cell h5 4
  have y5 : w1.cell? ⟨b4 + 1, 5, none⟩ = some (.int .i64 h) := blk_cell h5 5
  clear h4 h5 h6
  go_wp2_with fail
  refine (rsay_ok n r m Am cm Ps _ _ _ OK.out HN.out (HM.out.below HB1.out).rv (Kd.F_now (Kd.F_below HMF.out HB1.out)) HMC.out).mono ?_
  rintro e w2 ⟨r', vs', vt', rfl, hr', hv, hb2⟩
  obtain ⟨As', cs', rfl⟩ := Kd.V_slice hv.1
  obtain ⟨At', ct', rfl⟩ := Kd.V_slice hv.2
  have HR := Aside0.mk hr'
  have HM2 := Aside0.mk ((HM.out.below HB1.out).ref hb2 hv)
  have HB2 := Aside0.mk hb2
  clear hr' hv hb2
  clear x0 x1 x2 x3 x4 x5 x6 x7 x8 x9 y0 y1 y2 y3 y4 y5 hk'
  go_upto_region 4 with fail
  generalize hz : w2.alloc (.cells #[.int .i64 r'.most, .int .i64 r'.again, .slice As' r'.said.length cs', .int .i64 r'.heard, .int .i64 r'.out, .slice At' r'.took.length ct', .int .i64 r'.gave, .int .i64 r'.last, .bool r'.went, .bool r'.owes] 27) = w3
  obtain ⟨hb3, h8⟩ : Below w2.heap.size w2 w3 ∧ w3.heap[w2.heap.size]? = some (.cells #[.int .i64 r'.most, .int .i64 r'.again, .slice As' r'.said.length cs', .int .i64 r'.heard, .int .i64 r'.out, .slice At' r'.took.length ct', .int .i64 r'.gave, .int .i64 r'.last, .bool r'.went, .bool r'.owes] 27 (0, 0)) := hz ▸ ⟨below_alloc (Below.refl _ _) _, blk_new w2 _⟩
  clear hz
  obtain ⟨b8, hb8⟩ : ∃ b, b = w2.heap.size := ⟨_, rfl⟩
  rw [← hb8] at h8 ⊢
  have HB3 := Aside0.mk hb3
  have H8 := Aside0.mk h8
  have HB8 := Aside0.mk hb8
  have HB8S := Aside0.mk (show ¬ S b8 from fun h => by have := HM2.out.ltS _ h; omega)
  clear hb3 h8 hb8
  have HM3 := Aside0.mk (HM2.out.below HB3.out)
  have HB13 := Aside0.mk (below_then HB2.out HB2.out.size HB3.out)
  have HF3 := Aside0.mk (Kd.F_below HMF.out (below_then HB1.out HB1.out.size HB13.out))
  have H53 := Aside0.mk (blk_below H5.out HB13.out)
  have H63 := Aside0.mk (blk_below H6.out HB13.out)
  refine start_ (n := 9) (S := fun w' => w'.cell? ⟨b8, 0, none⟩ = some (.int .i64 r'.most) ∧ w'.cell? ⟨b8, 1, none⟩ = some (.int .i64 r'.again) ∧ w'.cell? ⟨b8, 2, none⟩ = some (.slice As' r'.said.length cs') ∧ w'.cell? ⟨b8, 3, none⟩ = some (.int .i64 r'.heard) ∧ w'.cell? ⟨b8, 4, none⟩ = some (.int .i64 r'.out) ∧ w'.cell? ⟨b8, 5, none⟩ = some (.slice At' r'.took.length ct') ∧ w'.cell? ⟨b8, 6, none⟩ = some (.int .i64 r'.gave) ∧ w'.cell? ⟨b8, 7, none⟩ = some (.int .i64 r'.last) ∧ w'.cell? ⟨b8, 8, none⟩ = some (.bool r'.went) ∧ w'.cell? ⟨b8, 9, none⟩ = some (.bool r'.owes) ∧ w'.cell? ⟨b4 + 1, 1, none⟩ = some (.slice Am m.length cm)) (ds := [7]) #[false, false, false, false, false, false, false, false, false] (by kernel_rfl) rfl rfl ⟨blk_cell (blk_below H8.out (below_drew (Below.refl _ _))) 0, blk_cell (blk_below H8.out (below_drew (Below.refl _ _))) 1, blk_cell (blk_below H8.out (below_drew (Below.refl _ _))) 2, blk_cell (blk_below H8.out (below_drew (Below.refl _ _))) 3, blk_cell (blk_below H8.out (below_drew (Below.refl _ _))) 4, blk_cell (blk_below H8.out (below_drew (Below.refl _ _))) 5, blk_cell (blk_below H8.out (below_drew (Below.refl _ _))) 6, blk_cell (blk_below H8.out (below_drew (Below.refl _ _))) 7, blk_cell (blk_below H8.out (below_drew (Below.refl _ _))) 8, blk_cell (blk_below H8.out (below_drew (Below.refl _ _))) 9, blk_cell (blk_below H53.out (below_drew (Below.refl _ _))) 1⟩ (fun hHeld => ?_)
  refine pure_ (i := 1) (N := some 37) (v := ?_) (a' := ?_) #[false, true, false, false, false, false, false, false, false] rfl rfl (by kernel_rfl) (fun _ _ _ h => h) (Or.inl ⟨by rfl, ?_⟩) ?_ ?_
  rotate_left
  · intro w'
    go_simp
    with_reducible rfl
  rotate_left
  · simp only [Act.put, List.setIfInBounds_toArray, List.set_cons_zero, List.set_cons_succ, i64_w, i32_w]
    rfl
  refine pure_ (i := 2) (N := some 38) (v := ?_) (a' := ?_) #[false, true, true, false, false, false, false, false, false] rfl rfl (by kernel_rfl) (fun _ _ _ h => h) (Or.inl ⟨by rfl, ?_⟩) ?_ ?_
  rotate_left
  · intro w'
    go_simp
    with_reducible rfl
  rotate_left
  · simp only [Act.put, List.setIfInBounds_toArray, List.set_cons_zero, List.set_cons_succ, i64_w, i32_w]
    rfl
  refine pure_ (i := 5) (N := some 41) (v := ?_) (a' := ?_) #[false, true, true, false, false, true, false, false, false] rfl rfl (by kernel_rfl) (fun _ _ _ h => h) (Or.inl ⟨by rfl, ?_⟩) ?_ ?_
  rotate_left
  · intro w'
    go_simp
    with_reducible rfl
  rotate_left
  · simp only [Act.put, List.setIfInBounds_toArray, List.set_cons_zero, List.set_cons_succ, i64_w, i32_w]
    rfl
  refine take_ (i := 0) (N := some 36) (v := ?_) (a' := ?_) #[true, true, true, false, false, true, false, false, false] rfl rfl (by kernel_rfl) (fun _ _ _ h => h) (Or.inl ⟨by rfl, ?_⟩) hHeld ?_ ?_
  rotate_left
  · rintro w' ⟨s0, s1, s2, s3, s4, s5, s6, s7, s8, s9, s10⟩
    go_simp
    with_reducible rfl
  rotate_left
  · simp only [Act.put, List.setIfInBounds_toArray, List.set_cons_zero, List.set_cons_succ, i64_w, i32_w]
    rfl
  refine take_ (i := 3) (N := some 39) (v := ?_) (a' := ?_) #[true, true, true, true, false, true, false, false, false] rfl rfl (by kernel_rfl) (fun _ _ _ h => h) (Or.inl ⟨by rfl, ?_⟩) hHeld ?_ ?_
  rotate_left
  · rintro w' ⟨s0, s1, s2, s3, s4, s5, s6, s7, s8, s9, s10⟩
    go_simp
    with_reducible rfl
  rotate_left
  · simp only [Act.put, List.setIfInBounds_toArray, List.set_cons_zero, List.set_cons_succ, i64_w, i32_w]
    rfl
  refine one_ (i := 4) (N := some 40) #[true, true, true, true, true, true, false, false, false] rfl rfl (by kernel_rfl) (by decide) (fun K hK => ?_)
  refine goes_ Try.func22 (by kernel_rfl) rfl #[.pointer (some ⟨g, 0, none⟩), .slice Am m.length cm] (by rfl) rfl rfl (by simp only [List.map_toArray, List.map_cons, List.map_nil]; rfl) ?_
  with_reducible refine (tsay_is n g S r m Am cm _ OK.out HN.out (HM3.out.below (below_drew (Below.refl _ _))).tk (Kd.F_now (Kd.F_below HF3.out (below_drew (Below.refl _ _)))) HMC.out).mono ?_
  rintro e w4 ⟨S4, rfl, hk4, hs4, hf4⟩
  refine ⟨_, rfl, ?_⟩
  have HM4 := Aside0.mk ((HM3.out.below (below_drew (Below.refl _ _))).talk hk4 hs4 hf4)
  have H84 := Aside0.mk ((hf4.block (b8) (blk_lt (blk_below H8.out (below_drew (Below.refl _ _)))) HB8S.out).trans (blk_below H8.out (below_drew (Below.refl _ _))))
  have H54 := Aside0.mk ((hf4.block (b4 + 1) (blk_lt (blk_below H53.out (below_drew (Below.refl _ _)))) HBS.out.1).trans (blk_below H53.out (below_drew (Below.refl _ _))))
  have H64 := Aside0.mk ((hf4.block (b4 + 1 + 1) (blk_lt (blk_below H63.out (below_drew (Below.refl _ _)))) HBS.out.2.1).trans (blk_below H63.out (below_drew (Below.refl _ _))))
  have HNS : Aside0 (¬ (S4 (b4 + 1 + 1) ∧ b4 + 1 + 1 < w4.heap.size)) := Aside0.mk (fun h => (hs4 _ h.1).elim HBS.out.2.1 (fun h' => Nat.not_lt.2 h' (blk_lt H63.out)))
  clear hk4 hs4 hf4
  have zf0 : w4.frozen? ⟨b4 + 1 + 1, 0, none⟩ = false := blk_frozen H64.out 0
  have zf1 : w4.frozen? ⟨b4 + 1 + 1, 1, none⟩ = false := blk_frozen H64.out 1
  have zf2 : w4.frozen? ⟨b4 + 1 + 1, 2, none⟩ = false := blk_frozen H64.out 2
  have zf3 : w4.frozen? ⟨b4 + 1 + 1, 3, none⟩ = false := blk_frozen H64.out 3
  have zf4 : w4.frozen? ⟨b4 + 1 + 1, 4, none⟩ = false := blk_frozen H64.out 4
  have zf5 : w4.frozen? ⟨b4 + 1 + 1, 5, none⟩ = false := blk_frozen H64.out 5
  have zf6 : w4.frozen? ⟨b4 + 1 + 1, 6, none⟩ = false := blk_frozen H64.out 6
  have zf7 : w4.frozen? ⟨b4 + 1 + 1, 7, none⟩ = false := blk_frozen H64.out 7
  have zf8 : w4.frozen? ⟨b4 + 1 + 1, 8, none⟩ = false := blk_frozen H64.out 8
  have zf9 : w4.frozen? ⟨b4 + 1 + 1, 9, none⟩ = false := blk_frozen H64.out 9
  have zc0 := blk_cell H64.out 0
  have zc1 := blk_cell H64.out 1
  have zc2 := blk_cell H64.out 2
  have zc3 := blk_cell H64.out 3
  have zc4 := blk_cell H64.out 4
  have zc5 := blk_cell H64.out 5
  have zc6 := blk_cell H64.out 6
  have zc7 := blk_cell H64.out 7
  have zc8 := blk_cell H64.out 8
  have zc9 := blk_cell H64.out 9
  refine hK.out _ _ ⟨blk_cell H84.out 0, blk_cell H84.out 1, blk_cell H84.out 2, blk_cell H84.out 3, blk_cell H84.out 4, blk_cell H84.out 5, blk_cell H84.out 6, blk_cell H84.out 7, blk_cell H84.out 8, blk_cell H84.out 9, blk_cell H54.out 1⟩ (fun hHeld => ?_)
  clear hK K
  refine norm_ (a' := ?_) ?_ ?_
  rotate_left
  · show Act.put _ (some 40) _ = _
    simp only [Act.put, List.setIfInBounds_toArray, List.set_cons_zero, List.set_cons_succ, i64_w, i32_w]
    rfl
  refine pure_ (i := 6) (N := some 42) (v := ?_) (a' := ?_) #[true, true, true, true, true, true, true, false, false] rfl rfl (by kernel_rfl) (fun _ _ _ h => h) (Or.inl ⟨by rfl, ?_⟩) ?_ ?_
  rotate_left
  · intro w'
    go_simp
    with_reducible rfl
  rotate_left
  · simp only [Act.put, List.setIfInBounds_toArray, List.set_cons_zero, List.set_cons_succ, i64_w, i32_w]
    rfl
  refine last_ (i := 7) (N := none) #[true, true, true, true, true, true, true, true, false] rfl rfl (by kernel_rfl) (by decide) (fun K hK => ?_)
  refine skip_ (w1 := ?_) (by rfl) rfl ?_ ?_
  rotate_left
  · go_simp
    rfl
  refine hK.out _ _ ?_
  clear hK K
  refine pure_ (i := 8) (N := some 7) (v := ?_) (a' := ?_) #[true, true, true, true, true, true, true, true, true] rfl rfl (by kernel_rfl) (fun _ _ _ h => h) (Or.inl ⟨by rfl, ?_⟩) ?_ ?_
  rotate_left
  · intro w'
    go_simp
    with_reducible rfl
  rotate_left
  · simp only [Act.put, List.setIfInBounds_toArray, List.set_cons_zero, List.set_cons_succ, i64_w, i32_w]
    rfl
  refine done_ (by kernel_rfl) ?_
  have hF6 := fr_set10 w4 (b4 + 1 + 1) (.int .i64 r'.most) (.int .i64 r'.again) (.slice As' r'.said.length cs') (.int .i64 r'.heard) (.int .i64 r'.out) (.slice At' r'.took.length ct') (.int .i64 r'.gave) (.int .i64 r'.last) (.bool r'.went) (.bool r'.owes)
  have h6F := put10 H64.out (.int .i64 r'.most) (.int .i64 r'.again) (.slice As' r'.said.length cs') (.int .i64 r'.heard) (.int .i64 r'.out) (.slice At' r'.took.length ct') (.int .i64 r'.gave) (.int .i64 r'.last) (.bool r'.went) (.bool r'.owes)
  have hMF := HM4.out.far (b := b4 + 1 + 1) (fun hs => HNS.out hs) (fun hp => hp.1.elim HBS.out.2.2 (fun h' => Nat.not_lt.2 h' (blk_lt H6.out))) (.inr (Nat.le_trans HM.out.fr.size (by have := HB4.out; omega))) hF6
  generalize (((((((((w4.setCell ⟨b4 + 1 + 1, 0, none⟩ (.int .i64 r'.most)).setCell ⟨b4 + 1 + 1, 1, none⟩ (.int .i64 r'.again)).setCell ⟨b4 + 1 + 1, 2, none⟩ (.slice As' r'.said.length cs')).setCell ⟨b4 + 1 + 1, 3, none⟩ (.int .i64 r'.heard)).setCell ⟨b4 + 1 + 1, 4, none⟩ (.int .i64 r'.out)).setCell ⟨b4 + 1 + 1, 5, none⟩ (.slice At' r'.took.length ct')).setCell ⟨b4 + 1 + 1, 6, none⟩ (.int .i64 r'.gave)).setCell ⟨b4 + 1 + 1, 7, none⟩ (.int .i64 r'.last)).setCell ⟨b4 + 1 + 1, 8, none⟩ (.bool r'.went)).setCell ⟨b4 + 1 + 1, 9, none⟩ (.bool r'.owes) = wF at h6F hMF ⊢
  have HMF' := Aside0.mk hMF
  have r0 : wF.cell? ⟨b4 + 1 + 1, 0, none⟩ = some (.int .i64 r'.most) := blk_cell h6F 0
  have r1 : wF.cell? ⟨b4 + 1 + 1, 1, none⟩ = some (.int .i64 r'.again) := blk_cell h6F 1
  have r2 : wF.cell? ⟨b4 + 1 + 1, 2, none⟩ = some (.slice As' r'.said.length cs') := blk_cell h6F 2
  have r3 : wF.cell? ⟨b4 + 1 + 1, 3, none⟩ = some (.int .i64 r'.heard) := blk_cell h6F 3
  have r4 : wF.cell? ⟨b4 + 1 + 1, 4, none⟩ = some (.int .i64 r'.out) := blk_cell h6F 4
  have r5 : wF.cell? ⟨b4 + 1 + 1, 5, none⟩ = some (.slice At' r'.took.length ct') := blk_cell h6F 5
  have r6 : wF.cell? ⟨b4 + 1 + 1, 6, none⟩ = some (.int .i64 r'.gave) := blk_cell h6F 6
  have r7 : wF.cell? ⟨b4 + 1 + 1, 7, none⟩ = some (.int .i64 r'.last) := blk_cell h6F 7
  have r8 : wF.cell? ⟨b4 + 1 + 1, 8, none⟩ = some (.bool r'.went) := blk_cell h6F 8
  have r9 : wF.cell? ⟨b4 + 1 + 1, 9, none⟩ = some (.bool r'.owes) := blk_cell h6F 9
  clear hF6 h6F hMF
  go_wp2
  refine bodyPost_ret (v := .tuple #[.agg (rfC r' (.slice As' r'.said.length cs') (.slice At' r'.took.length ct')), .bool true]) (by simp [results, Try.results14, go_sem, *]) rfl ?_
  exact ⟨_, _, r', _, _, rfl, by rw [HR.out]; unfold stepR; rw [if_pos HK.out], by have h9 := HMF'.out; rw [← HR.out] at h9; exact h9⟩
set_option maxRecDepth 100000 in
set_option maxHeartbeats 2000000 in
theorem do1 (n : Nat) (hn : n < 80) (ws w : World) (S0 Ps0 S Ps Po : Nat → Prop) (g : Nat) (r : Rf) (vs vt : Value) (K : Int) (Am : Option Addr) (cm : Nat) (m : List Int) (now f h : Int) (Al : Option Addr) (cl : Nat) (l : List (List Int)) (hM : Mv ws S0 Ps0 w g S Ps r r vs vt) (ok : OkR n r) (hm : Kd.F (Kd.int .u8) w Po Am m.length m) (hmc : m.length ≤ cm) (hl : Kd.F kM w Po Al l.length l) (hlc : l.length ≤ cl) (hPo : ∀ k, Po k → ¬ S k ∧ k < w.heap.size) (hk : modN K 4 = 1) :
    Calls Try.prog 14 #[.pointer (some ⟨g, 0, none⟩), .agg (rfC r vs vt), .agg #[.int .i64 K, .slice Am m.length cm, .int .i64 now, .int .i64 f, .slice Al l.length cl, .int .i64 h]] w fun e w' => ∃ S' Ps' r' vs' vt', e = .returned (.tuple #[.agg (rfC r' vs' vt'), .bool true]) ∧ r' = stepR r K m now f l h ∧ Mv ws S0 Ps0 w' g S' Ps' r' r' vs' vt' := by
  obtain ⟨As, cs, rfl⟩ := Kd.V_slice hM.rv.1
  obtain ⟨At, ct, rfl⟩ := Kd.V_slice hM.rv.2
  have HM := Aside0.mk hM
  have OK := Aside0.mk ok
  have HN := Aside0.mk (Nat.le_of_lt hn)
  have HMF := Aside0.mk hm
  have HMC := Aside0.mk hmc
  have HLF := Aside0.mk hl
  have HLC := Aside0.mk hlc
  have HPO := Aside0.mk hPo
  have HK := Aside0.mk hk
  have hk' : wrap64 ((IntKind.u64.wrap K).tmod 4) = 1 := hk
  clear hM ok hn hm hmc hl hlc hPo hk
  go_enter Try.func14, Try.ntmps14
  go_upto_region 1 with fail
  generalize hz : ((w.alloc _).alloc _).alloc _ = w1
  obtain ⟨hb1, h4, h5, h6⟩ : Below w.heap.size w w1 ∧ w1.heap[w.heap.size]? = some (.cells (rfC r (.slice As r.said.length cs) (.slice At r.took.length ct)) 27 (0, 0)) ∧ w1.heap[w.heap.size + 1]? = some (.cells #[.int .i64 K, .slice Am m.length cm, .int .i64 now, .int .i64 f, .slice Al l.length cl, .int .i64 h] 38 (0, 0)) ∧ w1.heap[w.heap.size + 1 + 1]? = some (.cells #[.int .i64 0, .int .i64 0, .slice none 0 0, .int .i64 0, .int .i64 0, .slice none 0 0, .int .i64 0, .int .i64 0, .bool false, .bool false] 27 (0, 0)) := hz ▸ laid3 w _ _ _ _ _ _
  clear hz
  have HB1 := Aside0.mk hb1
  obtain ⟨b4, hb4⟩ : ∃ b4, b4 = w.heap.size := ⟨_, rfl⟩
  have HB4 := Aside0.mk hb4
  rw [← hb4] at h4 h5 h6 ⊢
  have H4 := Aside0.mk h4
  have H5 := Aside0.mk h5
  have H6 := Aside0.mk h6
  have hb5S : ¬ S (b4 + 1) := fun h => by have := HM.out.ltS _ h; omega
  have hb6S : ¬ S (b4 + 1 + 1) := fun h => by have := HM.out.ltS _ h; omega
  have hb6P : ¬ Ps (b4 + 1 + 1) := fun h => by have := HM.out.ltP _ h; omega
  have HBS := Aside0.mk (show _ ∧ _ ∧ _ from ⟨hb5S, hb6S, hb6P⟩)
  clear hb1 hb4 hb5S hb6S hb6P
  have x0 : w1.cell? ⟨b4, 0, none⟩ = some (.int .i64 r.most) := blk_cell h4 0
  have x1 : w1.cell? ⟨b4, 1, none⟩ = some (.int .i64 r.again) := blk_cell h4 1
  have x2 : w1.cell? ⟨b4, 2, none⟩ = some (.slice As r.said.length cs) := blk_cell h4 2
  have x3 : w1.cell? ⟨b4, 3, none⟩ = some (.int .i64 r.heard) := blk_cell h4 3
  have x4 : w1.cell? ⟨b4, 4, none⟩ = some (.int .i64 r.out) := blk_cell h4 4
  have x5 : w1.cell? ⟨b4, 5, none⟩ = some (.slice At r.took.length ct) := blk_cell h4 5
  have x6 : w1.cell? ⟨b4, 6, none⟩ = some (.int .i64 r.gave) := blk_cell h4 6
  have x7 : w1.cell? ⟨b4, 7, none⟩ = some (.int .i64 r.last) := blk_cell h4 7
  have x8 : w1.cell? ⟨b4, 8, none⟩ = some (.bool r.went) := blk_cell h4 8
  have x9 : w1.cell? ⟨b4, 9, none⟩ = some (.bool r.owes) := blk_cell h4 9
  have y0 : w1.cell? ⟨b4 + 1, 0, none⟩ = some (.int .i64 K) := blk_cell h5 0
  have y1 : w1.cell? ⟨b4 + 1, 1, none⟩ = some (.slice Am m.length cm) := blk_cell h5 1
  have y2 : w1.cell? ⟨b4 + 1, 2, none⟩ = some (.int .i64 now) := blk_cell h5 2
  have y3 : w1.cell? ⟨b4 + 1, 3, none⟩ = some (.int .i64 f) := blk_cell h5 3
  have y4 : w1.cell? ⟨b4 + 1, 4, none⟩ = some (.slice Al l.length cl) := blk_cell h5 4
  have y5 : w1.cell? ⟨b4 + 1, 5, none⟩ = some (.int .i64 h) := blk_cell h5 5
  clear h4 h5 h6
  obtain ⟨nw, hnw⟩ : ∃ nw, modN now 1099511627776 = nw := ⟨_, rfl⟩
  have HNW := Aside0.mk (hnw ▸ modN_in now 1099511627776 (by decide) (by decide))
  have HNM := Aside0.mk hnw
  have hnw' : wrap64 ((IntKind.u64.wrap now).tmod 1099511627776) = nw := hnw
  obtain ⟨d, hd⟩ : ∃ d, rfDue r nw = d := ⟨_, rfl⟩
  obtain ⟨tl, htl⟩ : ∃ tl, tickL r nw = tl := ⟨_, rfl⟩
  obtain ⟨f0, hf0⟩ : ∃ f0, tickF r nw = f0 := ⟨_, rfl⟩
  obtain ⟨h0, hh0⟩ : ∃ h0, tickH r nw = h0 := ⟨_, rfl⟩
  have HTN : Aside0 (tl.length ≤ 5120) := Aside0.mk (by have h1 := tickL_len n r nw OK.out; have h2 := HN.out; rw [htl] at h1; omega)
  have HD := Aside0.mk hd
  have HTL := Aside0.mk htl
  have HF0 := Aside0.mk hf0
  have HH0 := Aside0.mk hh0
  clear hnw hd htl hf0 hh0
  go_wp2_with fail
  refine (rtick_l n r nw d tl f0 h0 HD.out HTL.out HF0.out HH0.out Ps _ _ _ OK.out HN.out HNW.out (HM.out.below HB1.out).rv).mono ?_
  rintro e w2 ⟨r', vs', vt', A9, c9, rfl, hr', hv, hv9, hb2⟩
  obtain ⟨As', cs', rfl⟩ := Kd.V_slice hv.1
  obtain ⟨At', ct', rfl⟩ := Kd.V_slice hv.2
  have HV9 := Aside0.mk hv9
  have HR := Aside0.mk hr'
  have HM2 := Aside0.mk ((HM.out.below HB1.out).ref hb2 hv)
  have HB2 := Aside0.mk hb2
  clear hr' hv hv9 hb2
  clear x0 x1 x2 x3 x4 x5 x6 x7 x8 x9 y0 y1 y2 y3 y4 y5 hk'
  go_upto_region 8 with fail
  generalize hz : (w2.alloc _).alloc _ = w3
  obtain ⟨hb3, h11, h12⟩ : Below w2.heap.size w2 w3 ∧ w3.heap[w2.heap.size]? = some (.cells #[.int .i64 r'.most, .int .i64 r'.again, .slice As' r'.said.length cs', .int .i64 r'.heard, .int .i64 r'.out, .slice At' r'.took.length ct', .int .i64 r'.gave, .int .i64 r'.last, .bool r'.went, .bool r'.owes] 27 (0, 0)) ∧ w3.heap[w2.heap.size + 1]? = some (.cells #[.int .i64 f0, .slice A9 tl.length c9, .int .i64 h0] 68 (0, 0)) := hz ▸ laid2 w2 _ _ _ _
  clear hz
  obtain ⟨b11, hb11⟩ : ∃ b, b = w2.heap.size := ⟨_, rfl⟩
  rw [← hb11] at h11 h12 ⊢
  have HB3 := Aside0.mk hb3
  have H11 := Aside0.mk h11
  have H12 := Aside0.mk h12
  have HBS2 := Aside0.mk (show ¬ S b11 ∧ ¬ S (b11 + 1) from ⟨fun h => by have := HM2.out.ltS _ h; omega, fun h => by have := HM2.out.ltS _ h; omega⟩)
  clear hb3 h11 h12 hb11
  have HM3 := Aside0.mk (HM2.out.below HB3.out)
  have HB13 := Aside0.mk (below_then HB2.out HB2.out.size HB3.out)
  have HV3 := Aside0.mk (Kd.V_below (Kd.V_bound HV9.out) HB3.out)
  have H63 := Aside0.mk (blk_below H6.out HB13.out)
  go_wp2_with fail
  refine (ttick_l n g S r nw d tl f0 h0 HD.out HTL.out HF0.out HH0.out _ OK.out HN.out HNW.out HM3.out.tk).mono ?_
  rintro e w4 ⟨S4, A4, c4, rfl, hv4, hk4, hs4, hf4⟩
  have HV94 := Aside0.mk (Kd.V_step HV3.out (fun k hk hlt => hf4.block k hlt (fun hs => hk.1.elim (fun h => HM.out.dis k h hs) (fun h => Nat.not_lt.2 h (Nat.lt_of_lt_of_le (HM.out.ltS k hs) HB1.out.size)))))
  have HV4 := Aside0.mk hv4
  have HM4 := Aside0.mk (HM3.out.talk hk4 hs4 hf4)
  have H114 := Aside0.mk ((hf4.block b11 (blk_lt H11.out) HBS2.out.1).trans H11.out)
  have H124 := Aside0.mk ((hf4.block (b11 + 1) (blk_lt H12.out) HBS2.out.2).trans H12.out)
  have H64 := Aside0.mk ((hf4.block (b4 + 1 + 1) (blk_lt H63.out) HBS.out.2.1).trans H63.out)
  have HNS : Aside0 (¬ (S4 (b4 + 1 + 1) ∧ b4 + 1 + 1 < w4.heap.size)) := Aside0.mk (fun h => (hs4 _ h.1).elim HBS.out.2.1 (fun h' => Nat.not_lt.2 h' (blk_lt H63.out)))
  clear hv4 hk4 hs4 hf4 hnw'
  go_upto_region 9 with fail
  generalize hz : w4.alloc _ = w5
  obtain ⟨hb5, h14⟩ : Below w4.heap.size w4 w5 ∧ w5.heap[w4.heap.size]? = some (.cells #[.int .i64 f0, .slice A4 tl.length c4, .int .i64 h0] 36 (0, 0)) := hz ▸ ⟨below_alloc (Below.refl _ _) _, blk_new w4 _⟩
  clear hz
  have HM5 := Aside0.mk (HM4.out.below hb5)
  have H115 := Aside0.mk (blk_below H114.out hb5)
  have H125 := Aside0.mk (blk_below H124.out hb5)
  have H65 := Aside0.mk (blk_below H64.out hb5)
  have HV95 := Aside0.mk (Kd.V_below HV94.out hb5)
  have HV45 := Aside0.mk (Kd.V_below HV4.out hb5)
  clear hb5
  generalize w4.heap.size = b14 at h14 ⊢
  have H145 := Aside0.mk h14
  clear h14
  have hdd : (d == d) = true := by cases d <;> rfl
  refine start_ (n := 11) (S := fun w' => w'.cell? ⟨b11, 0, none⟩ = some (.int .i64 r'.most) ∧ w'.cell? ⟨b11, 1, none⟩ = some (.int .i64 r'.again) ∧ w'.cell? ⟨b11, 2, none⟩ = some (.slice As' r'.said.length cs') ∧ w'.cell? ⟨b11, 3, none⟩ = some (.int .i64 r'.heard) ∧ w'.cell? ⟨b11, 4, none⟩ = some (.int .i64 r'.out) ∧ w'.cell? ⟨b11, 5, none⟩ = some (.slice At' r'.took.length ct') ∧ w'.cell? ⟨b11, 6, none⟩ = some (.int .i64 r'.gave) ∧ w'.cell? ⟨b11, 7, none⟩ = some (.int .i64 r'.last) ∧ w'.cell? ⟨b11, 8, none⟩ = some (.bool r'.went) ∧ w'.cell? ⟨b11, 9, none⟩ = some (.bool r'.owes) ∧ w'.cell? ⟨b14, 0, none⟩ = some (.int .i64 f0) ∧ w'.cell? ⟨b14, 1, none⟩ = some (.slice A4 tl.length c4) ∧ w'.cell? ⟨b14, 2, none⟩ = some (.int .i64 h0) ∧ w'.cell? ⟨b11 + 1, 0, none⟩ = some (.int .i64 f0) ∧ w'.cell? ⟨b11 + 1, 1, none⟩ = some (.slice A9 tl.length c9) ∧ w'.cell? ⟨b11 + 1, 2, none⟩ = some (.int .i64 h0)) (ds := [9]) #[false, false, false, false, false, false, false, false, false, false, false] (by kernel_rfl) rfl rfl ⟨blk_cell (blk_below H115.out (below_drew (Below.refl _ _))) 0, blk_cell (blk_below H115.out (below_drew (Below.refl _ _))) 1, blk_cell (blk_below H115.out (below_drew (Below.refl _ _))) 2, blk_cell (blk_below H115.out (below_drew (Below.refl _ _))) 3, blk_cell (blk_below H115.out (below_drew (Below.refl _ _))) 4, blk_cell (blk_below H115.out (below_drew (Below.refl _ _))) 5, blk_cell (blk_below H115.out (below_drew (Below.refl _ _))) 6, blk_cell (blk_below H115.out (below_drew (Below.refl _ _))) 7, blk_cell (blk_below H115.out (below_drew (Below.refl _ _))) 8, blk_cell (blk_below H115.out (below_drew (Below.refl _ _))) 9, blk_cell (blk_below H145.out (below_drew (Below.refl _ _))) 0, blk_cell (blk_below H145.out (below_drew (Below.refl _ _))) 1, blk_cell (blk_below H145.out (below_drew (Below.refl _ _))) 2, blk_cell (blk_below H125.out (below_drew (Below.refl _ _))) 0, blk_cell (blk_below H125.out (below_drew (Below.refl _ _))) 1, blk_cell (blk_below H125.out (below_drew (Below.refl _ _))) 2⟩ (fun hHeld => ?_)
  refine pure_ (i := 1) (N := some 64) (v := ?_) (a' := ?_) #[false, true, false, false, false, false, false, false, false, false, false] rfl rfl (by kernel_rfl) (fun _ _ _ h => h) (Or.inl ⟨by rfl, ?_⟩) ?_ ?_
  rotate_left
  · intro w'
    go_simp
    with_reducible rfl
  rotate_left
  · simp only [Act.put, List.setIfInBounds_toArray, List.set_cons_zero, List.set_cons_succ, i64_w, i32_w]
    rfl
  refine pure_ (i := 2) (N := some 65) (v := ?_) (a' := ?_) #[false, true, true, false, false, false, false, false, false, false, false] rfl rfl (by kernel_rfl) (fun _ _ _ h => h) (Or.inl ⟨by rfl, ?_⟩) ?_ ?_
  rotate_left
  · intro w'
    go_simp
    with_reducible rfl
  rotate_left
  · simp only [Act.put, List.setIfInBounds_toArray, List.set_cons_zero, List.set_cons_succ, i64_w, i32_w]
    rfl
  refine pure_ (i := 3) (N := some 66) (v := ?_) (a' := ?_) #[false, true, true, true, false, false, false, false, false, false, false] rfl rfl (by kernel_rfl) (fun _ _ _ h => h) (Or.inl ⟨by rfl, ?_⟩) ?_ ?_
  rotate_left
  · intro w'
    go_simp
    with_reducible rfl
  rotate_left
  · simp only [Act.put, List.setIfInBounds_toArray, List.set_cons_zero, List.set_cons_succ, i64_w, i32_w]
    rfl
  refine pure_ (i := 4) (N := some 67) (v := ?_) (a' := ?_) #[false, true, true, true, true, false, false, false, false, false, false] rfl rfl (by kernel_rfl) (fun _ _ _ h => h) (Or.inl ⟨by rfl, ?_⟩) ?_ ?_
  rotate_left
  · intro w'
    go_simp
    with_reducible rfl
  rotate_left
  · simp only [Act.put, List.setIfInBounds_toArray, List.set_cons_zero, List.set_cons_succ, i64_w, i32_w]
    rfl
  refine take_ (i := 0) (N := some 63) (v := ?_) (a' := ?_) #[true, true, true, true, true, false, false, false, false, false, false] rfl rfl (by kernel_rfl) (fun _ _ _ h => h) (Or.inl ⟨by rfl, ?_⟩) hHeld ?_ ?_
  rotate_left
  · rintro w' ⟨s0, s1, s2, s3, s4, s5, s6, s7, s8, s9, s10, s11, s12, s13, s14, s15⟩
    go_simp
    with_reducible rfl
  rotate_left
  · simp only [Act.put, List.setIfInBounds_toArray, List.set_cons_zero, List.set_cons_succ, i64_w, i32_w]
    rfl
  refine take_ (i := 5) (N := some 68) (v := ?_) (a' := ?_) #[true, true, true, true, true, true, false, false, false, false, false] rfl rfl (by kernel_rfl) (fun _ _ _ h => h) (Or.inl ⟨by rfl, ?_⟩) hHeld ?_ ?_
  rotate_left
  · rintro w' ⟨s0, s1, s2, s3, s4, s5, s6, s7, s8, s9, s10, s11, s12, s13, s14, s15⟩
    go_simp
    with_reducible rfl
  rotate_left
  · simp only [Act.put, List.setIfInBounds_toArray, List.set_cons_zero, List.set_cons_succ, i64_w, i32_w]
    rfl
  refine take_ (i := 6) (N := some 69) (v := ?_) (a' := ?_) #[true, true, true, true, true, true, true, false, false, false, false] rfl rfl (by kernel_rfl) (fun _ _ _ h => h) (Or.inl ⟨by rfl, ?_⟩) hHeld ?_ ?_
  rotate_left
  · rintro w' ⟨s0, s1, s2, s3, s4, s5, s6, s7, s8, s9, s10, s11, s12, s13, s14, s15⟩
    go_simp
    with_reducible rfl
  rotate_left
  · simp only [Act.put, List.setIfInBounds_toArray, List.set_cons_zero, List.set_cons_succ, i64_w, i32_w]
    rfl
  refine one_ (i := 7) (N := some 70) #[true, true, true, true, true, true, true, true, false, false, false] rfl rfl (by kernel_rfl) (by decide) (fun K hK => ?_)
  refine goes_ Try.func30 (by kernel_rfl) rfl #[.agg #[.int .i64 f0, .slice A4 tl.length c4, .int .i64 h0], .agg #[.int .i64 f0, .slice A9 tl.length c9, .int .i64 h0]] (by rfl) rfl rfl (by simp only [List.map_toArray, List.map_cons, List.map_nil]; rfl) ?_
  with_reducible refine (same_pp f0 h0 tl A4 c4 A9 c9 _ (Kd.F_now (Kd.V_at (Kd.V_below HV45.out (below_drew (Below.refl _ _)))).2.2) (Kd.V_at HV45.out).2.1 (Kd.F_now (Kd.V_at (Kd.V_below HV95.out (below_drew (Below.refl _ _)))).2.2) (Kd.V_at HV95.out).2.1 HTN.out).mono ?_
  rintro e w6 ⟨rfl, hb6⟩
  refine ⟨_, rfl, ?_⟩
  have HB56 := Aside0.mk (below_then (below_drew (Below.refl _ _)) (Nat.le_refl w5.heap.size) hb6)
  have HM6 := Aside0.mk (HM5.out.below HB56.out)
  have H116 := Aside0.mk (blk_below H115.out HB56.out)
  have H146 := Aside0.mk (blk_below H145.out HB56.out)
  have H126 := Aside0.mk (blk_below H125.out HB56.out)
  have H66 := Aside0.mk (blk_below H65.out HB56.out)
  clear hb6
  have zf0 : w6.frozen? ⟨b4 + 1 + 1, 0, none⟩ = false := blk_frozen H66.out 0
  have zf1 : w6.frozen? ⟨b4 + 1 + 1, 1, none⟩ = false := blk_frozen H66.out 1
  have zf2 : w6.frozen? ⟨b4 + 1 + 1, 2, none⟩ = false := blk_frozen H66.out 2
  have zf3 : w6.frozen? ⟨b4 + 1 + 1, 3, none⟩ = false := blk_frozen H66.out 3
  have zf4 : w6.frozen? ⟨b4 + 1 + 1, 4, none⟩ = false := blk_frozen H66.out 4
  have zf5 : w6.frozen? ⟨b4 + 1 + 1, 5, none⟩ = false := blk_frozen H66.out 5
  have zf6 : w6.frozen? ⟨b4 + 1 + 1, 6, none⟩ = false := blk_frozen H66.out 6
  have zf7 : w6.frozen? ⟨b4 + 1 + 1, 7, none⟩ = false := blk_frozen H66.out 7
  have zf8 : w6.frozen? ⟨b4 + 1 + 1, 8, none⟩ = false := blk_frozen H66.out 8
  have zf9 : w6.frozen? ⟨b4 + 1 + 1, 9, none⟩ = false := blk_frozen H66.out 9
  have zc0 := blk_cell H66.out 0
  have zc1 := blk_cell H66.out 1
  have zc2 := blk_cell H66.out 2
  have zc3 := blk_cell H66.out 3
  have zc4 := blk_cell H66.out 4
  have zc5 := blk_cell H66.out 5
  have zc6 := blk_cell H66.out 6
  have zc7 := blk_cell H66.out 7
  have zc8 := blk_cell H66.out 8
  have zc9 := blk_cell H66.out 9
  refine hK.out _ _ ⟨blk_cell H116.out 0, blk_cell H116.out 1, blk_cell H116.out 2, blk_cell H116.out 3, blk_cell H116.out 4, blk_cell H116.out 5, blk_cell H116.out 6, blk_cell H116.out 7, blk_cell H116.out 8, blk_cell H116.out 9, blk_cell H146.out 0, blk_cell H146.out 1, blk_cell H146.out 2, blk_cell H126.out 0, blk_cell H126.out 1, blk_cell H126.out 2⟩ (fun hHeld => ?_)
  clear hK K
  refine norm_ (a' := ?_) ?_ ?_
  rotate_left
  · show Act.put _ (some 70) _ = _
    simp only [Act.put, List.setIfInBounds_toArray, List.set_cons_zero, List.set_cons_succ, i64_w, i32_w]
    rfl
  refine pure_ (i := 8) (N := some 71) (v := ?_) (a' := ?_) #[true, true, true, true, true, true, true, true, true, false, false] rfl rfl (by kernel_rfl) (fun _ _ _ h => h) (Or.inl ⟨by rfl, ?_⟩) ?_ ?_
  rotate_left
  · intro w'
    go_simp
    with_reducible rfl
  rotate_left
  · simp only [Act.put, List.setIfInBounds_toArray, List.set_cons_zero, List.set_cons_succ, i64_w, i32_w]
    rfl
  refine last_ (i := 9) (N := none) #[true, true, true, true, true, true, true, true, true, true, false] rfl rfl (by kernel_rfl) (by decide) (fun K hK => ?_)
  refine skip_ (w1 := ?_) (by rfl) rfl ?_ ?_
  rotate_left
  · go_simp
    rfl
  refine hK.out _ _ ?_
  clear hK K
  refine pure_ (i := 10) (N := some 7) (v := ?_) (a' := ?_) #[true, true, true, true, true, true, true, true, true, true, true] rfl rfl (by kernel_rfl) (fun _ _ _ h => h) (Or.inl ⟨by rfl, ?_⟩) ?_ ?_
  rotate_left
  · intro w'
    go_simp
    with_reducible rfl
  rotate_left
  · simp only [Act.put, List.setIfInBounds_toArray, List.set_cons_zero, List.set_cons_succ, i64_w, i32_w]
    rfl
  refine done_ (by kernel_rfl) ?_
  have hF6 := fr_set10 w6 (b4 + 1 + 1) (.int .i64 r'.most) (.int .i64 r'.again) (.slice As' r'.said.length cs') (.int .i64 r'.heard) (.int .i64 r'.out) (.slice At' r'.took.length ct') (.int .i64 r'.gave) (.int .i64 r'.last) (.bool r'.went) (.bool r'.owes)
  have h6F := put10 H66.out (.int .i64 r'.most) (.int .i64 r'.again) (.slice As' r'.said.length cs') (.int .i64 r'.heard) (.int .i64 r'.out) (.slice At' r'.took.length ct') (.int .i64 r'.gave) (.int .i64 r'.last) (.bool r'.went) (.bool r'.owes)
  have hMF := HM6.out.far (b := b4 + 1 + 1) (fun hs => HNS.out hs) (fun hp => hp.1.elim HBS.out.2.2 (fun h' => Nat.not_lt.2 h' (blk_lt H6.out))) (.inr (Nat.le_trans HM.out.fr.size (by have := HB4.out; omega))) hF6
  generalize (((((((((w6.setCell ⟨b4 + 1 + 1, 0, none⟩ (.int .i64 r'.most)).setCell ⟨b4 + 1 + 1, 1, none⟩ (.int .i64 r'.again)).setCell ⟨b4 + 1 + 1, 2, none⟩ (.slice As' r'.said.length cs')).setCell ⟨b4 + 1 + 1, 3, none⟩ (.int .i64 r'.heard)).setCell ⟨b4 + 1 + 1, 4, none⟩ (.int .i64 r'.out)).setCell ⟨b4 + 1 + 1, 5, none⟩ (.slice At' r'.took.length ct')).setCell ⟨b4 + 1 + 1, 6, none⟩ (.int .i64 r'.gave)).setCell ⟨b4 + 1 + 1, 7, none⟩ (.int .i64 r'.last)).setCell ⟨b4 + 1 + 1, 8, none⟩ (.bool r'.went)).setCell ⟨b4 + 1 + 1, 9, none⟩ (.bool r'.owes) = wF at h6F hMF ⊢
  have HMF' := Aside0.mk hMF
  have r0 : wF.cell? ⟨b4 + 1 + 1, 0, none⟩ = some (.int .i64 r'.most) := blk_cell h6F 0
  have r1 : wF.cell? ⟨b4 + 1 + 1, 1, none⟩ = some (.int .i64 r'.again) := blk_cell h6F 1
  have r2 : wF.cell? ⟨b4 + 1 + 1, 2, none⟩ = some (.slice As' r'.said.length cs') := blk_cell h6F 2
  have r3 : wF.cell? ⟨b4 + 1 + 1, 3, none⟩ = some (.int .i64 r'.heard) := blk_cell h6F 3
  have r4 : wF.cell? ⟨b4 + 1 + 1, 4, none⟩ = some (.int .i64 r'.out) := blk_cell h6F 4
  have r5 : wF.cell? ⟨b4 + 1 + 1, 5, none⟩ = some (.slice At' r'.took.length ct') := blk_cell h6F 5
  have r6 : wF.cell? ⟨b4 + 1 + 1, 6, none⟩ = some (.int .i64 r'.gave) := blk_cell h6F 6
  have r7 : wF.cell? ⟨b4 + 1 + 1, 7, none⟩ = some (.int .i64 r'.last) := blk_cell h6F 7
  have r8 : wF.cell? ⟨b4 + 1 + 1, 8, none⟩ = some (.bool r'.went) := blk_cell h6F 8
  have r9 : wF.cell? ⟨b4 + 1 + 1, 9, none⟩ = some (.bool r'.owes) := blk_cell h6F 9
  clear hF6 h6F hMF
  go_wp2
  refine bodyPost_ret (v := .tuple #[.agg (rfC r' (.slice As' r'.said.length cs') (.slice At' r'.took.length ct')), .bool true]) (by simp [results, Try.results14, go_sem, *]) rfl ?_
  exact ⟨_, _, r', _, _, rfl, by rw [HR.out]; unfold stepR; rw [HK.out, HNM.out]; rfl, by have h9 := HMF'.out; rw [← HR.out] at h9; exact h9⟩
set_option maxRecDepth 100000 in
set_option maxHeartbeats 2000000 in
theorem do2 (n : Nat) (hn : n < 80) (ws w : World) (S0 Ps0 S Ps Po : Nat → Prop) (g : Nat) (r : Rf) (vs vt : Value) (K : Int) (Am : Option Addr) (cm : Nat) (m : List Int) (now f h : Int) (Al : Option Addr) (cl : Nat) (l : List (List Int)) (hM : Mv ws S0 Ps0 w g S Ps r r vs vt) (ok : OkR n r) (hm : Kd.F (Kd.int .u8) w Po Am m.length m) (hmc : m.length ≤ cm) (hl : Kd.F kM w Po Al l.length l) (hlc : l.length ≤ cl) (hPo : ∀ k, Po k → ¬ S k ∧ k < w.heap.size) (hk : modN K 4 = 2) :
    Calls Try.prog 14 #[.pointer (some ⟨g, 0, none⟩), .agg (rfC r vs vt), .agg #[.int .i64 K, .slice Am m.length cm, .int .i64 now, .int .i64 f, .slice Al l.length cl, .int .i64 h]] w fun e w' => ∃ S' Ps' r' vs' vt', e = .returned (.tuple #[.agg (rfC r' vs' vt'), .bool true]) ∧ r' = stepR r K m now f l h ∧ Mv ws S0 Ps0 w' g S' Ps' r' r' vs' vt' := by
  obtain ⟨As, cs, rfl⟩ := Kd.V_slice hM.rv.1
  obtain ⟨At, ct, rfl⟩ := Kd.V_slice hM.rv.2
  have HM := Aside0.mk hM
  have OK := Aside0.mk ok
  have HN := Aside0.mk (Nat.le_of_lt hn)
  have HMF := Aside0.mk hm
  have HMC := Aside0.mk hmc
  have HLF := Aside0.mk hl
  have HLC := Aside0.mk hlc
  have HPO := Aside0.mk hPo
  have HK := Aside0.mk hk
  have hk' : wrap64 ((IntKind.u64.wrap K).tmod 4) = 2 := hk
  clear hM ok hn hm hmc hl hlc hPo hk
  go_enter Try.func14, Try.ntmps14
  go_upto_region 1 with fail
  generalize hz : ((w.alloc _).alloc _).alloc _ = w1
  obtain ⟨hb1, h4, h5, h6⟩ : Below w.heap.size w w1 ∧ w1.heap[w.heap.size]? = some (.cells (rfC r (.slice As r.said.length cs) (.slice At r.took.length ct)) 27 (0, 0)) ∧ w1.heap[w.heap.size + 1]? = some (.cells #[.int .i64 K, .slice Am m.length cm, .int .i64 now, .int .i64 f, .slice Al l.length cl, .int .i64 h] 38 (0, 0)) ∧ w1.heap[w.heap.size + 1 + 1]? = some (.cells #[.int .i64 0, .int .i64 0, .slice none 0 0, .int .i64 0, .int .i64 0, .slice none 0 0, .int .i64 0, .int .i64 0, .bool false, .bool false] 27 (0, 0)) := hz ▸ laid3 w _ _ _ _ _ _
  clear hz
  have HB1 := Aside0.mk hb1
  obtain ⟨b4, hb4⟩ : ∃ b4, b4 = w.heap.size := ⟨_, rfl⟩
  have HB4 := Aside0.mk hb4
  rw [← hb4] at h4 h5 h6 ⊢
  have H4 := Aside0.mk h4
  have H5 := Aside0.mk h5
  have H6 := Aside0.mk h6
  have hb5S : ¬ S (b4 + 1) := fun h => by have := HM.out.ltS _ h; omega
  have hb6S : ¬ S (b4 + 1 + 1) := fun h => by have := HM.out.ltS _ h; omega
  have hb6P : ¬ Ps (b4 + 1 + 1) := fun h => by have := HM.out.ltP _ h; omega
  have HBS := Aside0.mk (show _ ∧ _ ∧ _ from ⟨hb5S, hb6S, hb6P⟩)
  clear hb1 hb4 hb5S hb6S hb6P
  have x0 : w1.cell? ⟨b4, 0, none⟩ = some (.int .i64 r.most) := blk_cell h4 0
  have x1 : w1.cell? ⟨b4, 1, none⟩ = some (.int .i64 r.again) := blk_cell h4 1
  have x2 : w1.cell? ⟨b4, 2, none⟩ = some (.slice As r.said.length cs) := blk_cell h4 2
  have x3 : w1.cell? ⟨b4, 3, none⟩ = some (.int .i64 r.heard) := blk_cell h4 3
  have x4 : w1.cell? ⟨b4, 4, none⟩ = some (.int .i64 r.out) := blk_cell h4 4
  have x5 : w1.cell? ⟨b4, 5, none⟩ = some (.slice At r.took.length ct) := blk_cell h4 5
  have x6 : w1.cell? ⟨b4, 6, none⟩ = some (.int .i64 r.gave) := blk_cell h4 6
  have x7 : w1.cell? ⟨b4, 7, none⟩ = some (.int .i64 r.last) := blk_cell h4 7
  have x8 : w1.cell? ⟨b4, 8, none⟩ = some (.bool r.went) := blk_cell h4 8
  have x9 : w1.cell? ⟨b4, 9, none⟩ = some (.bool r.owes) := blk_cell h4 9
  have y0 : w1.cell? ⟨b4 + 1, 0, none⟩ = some (.int .i64 K) := blk_cell h5 0
  have y1 : w1.cell? ⟨b4 + 1, 1, none⟩ = some (.slice Am m.length cm) := blk_cell h5 1
  have y2 : w1.cell? ⟨b4 + 1, 2, none⟩ = some (.int .i64 now) := blk_cell h5 2
  have y3 : w1.cell? ⟨b4 + 1, 3, none⟩ = some (.int .i64 f) := blk_cell h5 3
  have y4 : w1.cell? ⟨b4 + 1, 4, none⟩ = some (.slice Al l.length cl) := blk_cell h5 4
  have y5 : w1.cell? ⟨b4 + 1, 5, none⟩ = some (.int .i64 h) := blk_cell h5 5
  clear h4 h5 h6
  obtain ⟨lc, hlc⟩ : ∃ lc, l.take (mn (l.length : Int) 70).toNat = lc := ⟨_, rfl⟩
  have HLT := Aside0.mk hlc
  clear hlc
  go_wp2_with fail
  refine (few_l f h l lc HLT.out Al cl Po _ (Kd.F_below HLF.out HB1.out) HLC.out).mono ?_
  rintro e w2 ⟨A1, c1, A2, c2, rfl, hv1, hv2, hb2⟩
  have HV1 := Aside0.mk hv1
  have HV2 := Aside0.mk hv2
  have HB2 := Aside0.mk hb2
  clear hv1 hv2 hb2
  clear x0 x1 x2 x3 x4 x5 x6 x7 x8 x9 y0 y1 y2 y3 y4 y5
  go_upto_region 12 with fail
  generalize hz : (w2.alloc _).alloc _ = w3
  obtain ⟨hb3, h16, h17⟩ : Below w2.heap.size w2 w3 ∧ w3.heap[w2.heap.size]? = some (.cells #[.int .i64 f, .slice A1 lc.length c1, .int .i64 h] 36 (0, 0)) ∧ w3.heap[w2.heap.size + 1]? = some (.cells #[.int .i64 f, .slice A2 lc.length c2, .int .i64 h] 68 (0, 0)) := hz ▸ laid2 w2 _ _ _ _
  clear hz
  obtain ⟨b16, hb16⟩ : ∃ b, b = w2.heap.size := ⟨_, rfl⟩
  rw [← hb16] at h16 h17 ⊢
  have HB3 := Aside0.mk hb3
  have H16 := Aside0.mk h16
  have HB13 := Aside0.mk (below_then HB2.out HB2.out.size hb3)
  have HB03 := Aside0.mk (below_then HB1.out HB1.out.size HB13.out)
  have HB16S := Aside0.mk (show ¬ S b16 from fun h => by have h1 := HM.out.ltS _ h; have h2 := HB1.out.size; have h3 := HB2.out.size; omega)
  have HM3 := Aside0.mk (HM.out.below HB03.out)
  have HV13 := Aside0.mk (Kd.V_below HV1.out hb3)
  have HV23 := Aside0.mk (Kd.V_below HV2.out hb3)
  have H63 := Aside0.mk (blk_below H6.out HB13.out)
  have h43 := blk_below H4.out HB13.out
  have x0 : w3.cell? ⟨b4, 0, none⟩ = some (.int .i64 r.most) := blk_cell h43 0
  have x1 : w3.cell? ⟨b4, 1, none⟩ = some (.int .i64 r.again) := blk_cell h43 1
  have x2 : w3.cell? ⟨b4, 2, none⟩ = some (.slice As r.said.length cs) := blk_cell h43 2
  have x3 : w3.cell? ⟨b4, 3, none⟩ = some (.int .i64 r.heard) := blk_cell h43 3
  have x4 : w3.cell? ⟨b4, 4, none⟩ = some (.int .i64 r.out) := blk_cell h43 4
  have x5 : w3.cell? ⟨b4, 5, none⟩ = some (.slice At r.took.length ct) := blk_cell h43 5
  have x6 : w3.cell? ⟨b4, 6, none⟩ = some (.int .i64 r.gave) := blk_cell h43 6
  have x7 : w3.cell? ⟨b4, 7, none⟩ = some (.int .i64 r.last) := blk_cell h43 7
  have x8 : w3.cell? ⟨b4, 8, none⟩ = some (.bool r.went) := blk_cell h43 8
  have x9 : w3.cell? ⟨b4, 9, none⟩ = some (.bool r.owes) := blk_cell h43 9
  have y0 : w3.cell? ⟨b16 + 1, 0, none⟩ = some (.int .i64 f) := blk_cell h17 0
  have y1 : w3.cell? ⟨b16 + 1, 1, none⟩ = some (.slice A2 lc.length c2) := blk_cell h17 1
  have y2 : w3.cell? ⟨b16 + 1, 2, none⟩ = some (.int .i64 h) := blk_cell h17 2
  clear hb3 h16 h17 hb16 h43
  go_wp2_with fail
  refine (rhear_ok n r f h lc A2 c2 Ps _ _ _ OK.out HN.out HM3.out.rv (Kd.F_now (Kd.V_at HV23.out).2.2) (Kd.V_at HV23.out).2.1).mono ?_
  rintro e w4 ⟨r', vs', vt', rfl, hr', hv, hb4⟩
  obtain ⟨As', cs', rfl⟩ := Kd.V_slice hv.1
  obtain ⟨At', ct', rfl⟩ := Kd.V_slice hv.2
  have HR := Aside0.mk hr'
  have HM4 := Aside0.mk (HM3.out.ref hb4 hv)
  have HB34 := Aside0.mk hb4
  clear hr' hv hb4 x0 x1 x2 x3 x4 x5 x6 x7 x8 x9 y0 y1 y2 hk'
  go_upto_region 13 with fail
  generalize hz : w4.alloc _ = w5
  obtain ⟨hb5, h18⟩ : Below w4.heap.size w4 w5 ∧ w5.heap[w4.heap.size]? = some (.cells #[.int .i64 r'.most, .int .i64 r'.again, .slice As' r'.said.length cs', .int .i64 r'.heard, .int .i64 r'.out, .slice At' r'.took.length ct', .int .i64 r'.gave, .int .i64 r'.last, .bool r'.went, .bool r'.owes] 27 (0, 0)) := hz ▸ ⟨below_alloc (Below.refl _ _) _, blk_new w4 _⟩
  clear hz
  obtain ⟨b18, hb18⟩ : ∃ b, b = w4.heap.size := ⟨_, rfl⟩
  rw [← hb18] at h18 ⊢
  have H18 := Aside0.mk h18
  have HB18S := Aside0.mk (show ¬ S b18 from fun h => by have h1 := HM4.out.ltS _ h; omega)
  have HB35 := Aside0.mk (below_then HB34.out HB34.out.size hb5)
  have HM5 := Aside0.mk (HM4.out.below hb5)
  have H165 := Aside0.mk (blk_below H16.out HB35.out)
  have H65 := Aside0.mk (blk_below H63.out HB35.out)
  have HV15 := Aside0.mk (Kd.V_below HV13.out HB35.out)
  have HS1 := Aside0.mk (show ∀ k, (Po k ∨ w1.heap.size ≤ k) → ¬ S k from fun k hk hs => hk.elim (fun h9 => (HPO.out k h9).1 hs) (fun h9 => Nat.not_lt.2 h9 (Nat.lt_of_lt_of_le (HM.out.ltS k hs) HB1.out.size)))
  clear hb5 h18 hb18
  refine start_ (n := 8) (S := fun w' => w'.cell? ⟨b18, 0, none⟩ = some (.int .i64 r'.most) ∧ w'.cell? ⟨b18, 1, none⟩ = some (.int .i64 r'.again) ∧ w'.cell? ⟨b18, 2, none⟩ = some (.slice As' r'.said.length cs') ∧ w'.cell? ⟨b18, 3, none⟩ = some (.int .i64 r'.heard) ∧ w'.cell? ⟨b18, 4, none⟩ = some (.int .i64 r'.out) ∧ w'.cell? ⟨b18, 5, none⟩ = some (.slice At' r'.took.length ct') ∧ w'.cell? ⟨b18, 6, none⟩ = some (.int .i64 r'.gave) ∧ w'.cell? ⟨b18, 7, none⟩ = some (.int .i64 r'.last) ∧ w'.cell? ⟨b18, 8, none⟩ = some (.bool r'.went) ∧ w'.cell? ⟨b18, 9, none⟩ = some (.bool r'.owes) ∧ w'.cell? ⟨b16, 0, none⟩ = some (.int .i64 f) ∧ w'.cell? ⟨b16, 1, none⟩ = some (.slice A1 lc.length c1) ∧ w'.cell? ⟨b16, 2, none⟩ = some (.int .i64 h)) (ds := [6]) #[false, false, false, false, false, false, false, false] (by kernel_rfl) rfl rfl ⟨blk_cell (blk_below H18.out (below_drew (Below.refl _ _))) 0, blk_cell (blk_below H18.out (below_drew (Below.refl _ _))) 1, blk_cell (blk_below H18.out (below_drew (Below.refl _ _))) 2, blk_cell (blk_below H18.out (below_drew (Below.refl _ _))) 3, blk_cell (blk_below H18.out (below_drew (Below.refl _ _))) 4, blk_cell (blk_below H18.out (below_drew (Below.refl _ _))) 5, blk_cell (blk_below H18.out (below_drew (Below.refl _ _))) 6, blk_cell (blk_below H18.out (below_drew (Below.refl _ _))) 7, blk_cell (blk_below H18.out (below_drew (Below.refl _ _))) 8, blk_cell (blk_below H18.out (below_drew (Below.refl _ _))) 9, blk_cell (blk_below H165.out (below_drew (Below.refl _ _))) 0, blk_cell (blk_below H165.out (below_drew (Below.refl _ _))) 1, blk_cell (blk_below H165.out (below_drew (Below.refl _ _))) 2⟩ (fun hHeld => ?_)
  refine pure_ (i := 1) (N := some 87) (v := ?_) (a' := ?_) #[false, true, false, false, false, false, false, false] rfl rfl (by kernel_rfl) (fun _ _ _ h => h) (Or.inl ⟨by rfl, ?_⟩) ?_ ?_
  rotate_left
  · intro w'
    go_simp
    with_reducible rfl
  rotate_left
  · simp only [Act.put, List.setIfInBounds_toArray, List.set_cons_zero, List.set_cons_succ, i64_w, i32_w]
    rfl
  refine pure_ (i := 4) (N := some 90) (v := ?_) (a' := ?_) #[false, true, false, false, true, false, false, false] rfl rfl (by kernel_rfl) (fun _ _ _ h => h) (Or.inl ⟨by rfl, ?_⟩) ?_ ?_
  rotate_left
  · intro w'
    go_simp
    with_reducible rfl
  rotate_left
  · simp only [Act.put, List.setIfInBounds_toArray, List.set_cons_zero, List.set_cons_succ, i64_w, i32_w]
    rfl
  refine take_ (i := 0) (N := some 86) (v := ?_) (a' := ?_) #[true, true, false, false, true, false, false, false] rfl rfl (by kernel_rfl) (fun _ _ _ h => h) (Or.inl ⟨by rfl, ?_⟩) hHeld ?_ ?_
  rotate_left
  · rintro w' ⟨s0, s1, s2, s3, s4, s5, s6, s7, s8, s9, s10, s11, s12⟩
    go_simp
    with_reducible rfl
  rotate_left
  · simp only [Act.put, List.setIfInBounds_toArray, List.set_cons_zero, List.set_cons_succ, i64_w, i32_w]
    rfl
  refine take_ (i := 2) (N := some 88) (v := ?_) (a' := ?_) #[true, true, true, false, true, false, false, false] rfl rfl (by kernel_rfl) (fun _ _ _ h => h) (Or.inl ⟨by rfl, ?_⟩) hHeld ?_ ?_
  rotate_left
  · rintro w' ⟨s0, s1, s2, s3, s4, s5, s6, s7, s8, s9, s10, s11, s12⟩
    go_simp
    with_reducible rfl
  rotate_left
  · simp only [Act.put, List.setIfInBounds_toArray, List.set_cons_zero, List.set_cons_succ, i64_w, i32_w]
    rfl
  refine one_ (i := 3) (N := some 89) #[true, true, true, true, true, false, false, false] rfl rfl (by kernel_rfl) (by decide) (fun K hK => ?_)
  refine goes_ Try.func20 (by kernel_rfl) rfl #[.pointer (some ⟨g, 0, none⟩), .agg #[.int .i64 f, .slice A1 lc.length c1, .int .i64 h]] (by rfl) rfl rfl (by simp only [List.map_toArray, List.map_cons, List.map_nil]; rfl) ?_
  with_reducible refine (thear_is n g S r f h lc A1 c1 _ OK.out HN.out (HM5.out.below (below_drew (Below.refl _ _))).tk (HM5.out.below (below_drew (Below.refl _ _))).ltS (fun W hW => Kd.F_now (Kd.F_step (Kd.V_at (Kd.V_below HV15.out (below_drew (Below.refl _ _)))).2.2 (fun k hk hlt => hW.block k hlt (HS1.out k hk)))) (Kd.V_at HV15.out).2.1).mono ?_
  rintro e w6 ⟨S4, rfl, hk4, hs4, hf4⟩
  refine ⟨_, rfl, ?_⟩
  have HM6 := Aside0.mk ((HM5.out.below (below_drew (Below.refl _ _))).talk hk4 hs4 hf4)
  have H186 := Aside0.mk ((hf4.block (b18) (blk_lt (blk_below H18.out (below_drew (Below.refl _ _)))) HB18S.out).trans (blk_below H18.out (below_drew (Below.refl _ _))))
  have H166 := Aside0.mk ((hf4.block (b16) (blk_lt (blk_below H165.out (below_drew (Below.refl _ _)))) HB16S.out).trans (blk_below H165.out (below_drew (Below.refl _ _))))
  have H66 := Aside0.mk ((hf4.block (b4 + 1 + 1) (blk_lt (blk_below H65.out (below_drew (Below.refl _ _)))) HBS.out.2.1).trans (blk_below H65.out (below_drew (Below.refl _ _))))
  have HNS : Aside0 (¬ (S4 (b4 + 1 + 1) ∧ b4 + 1 + 1 < w6.heap.size)) := Aside0.mk (fun h => (hs4 _ h.1).elim HBS.out.2.1 (fun h' => Nat.not_lt.2 h' (blk_lt H65.out)))
  clear hk4 hs4 hf4
  have zf0 : w6.frozen? ⟨b4 + 1 + 1, 0, none⟩ = false := blk_frozen H66.out 0
  have zf1 : w6.frozen? ⟨b4 + 1 + 1, 1, none⟩ = false := blk_frozen H66.out 1
  have zf2 : w6.frozen? ⟨b4 + 1 + 1, 2, none⟩ = false := blk_frozen H66.out 2
  have zf3 : w6.frozen? ⟨b4 + 1 + 1, 3, none⟩ = false := blk_frozen H66.out 3
  have zf4 : w6.frozen? ⟨b4 + 1 + 1, 4, none⟩ = false := blk_frozen H66.out 4
  have zf5 : w6.frozen? ⟨b4 + 1 + 1, 5, none⟩ = false := blk_frozen H66.out 5
  have zf6 : w6.frozen? ⟨b4 + 1 + 1, 6, none⟩ = false := blk_frozen H66.out 6
  have zf7 : w6.frozen? ⟨b4 + 1 + 1, 7, none⟩ = false := blk_frozen H66.out 7
  have zf8 : w6.frozen? ⟨b4 + 1 + 1, 8, none⟩ = false := blk_frozen H66.out 8
  have zf9 : w6.frozen? ⟨b4 + 1 + 1, 9, none⟩ = false := blk_frozen H66.out 9
  have zc0 := blk_cell H66.out 0
  have zc1 := blk_cell H66.out 1
  have zc2 := blk_cell H66.out 2
  have zc3 := blk_cell H66.out 3
  have zc4 := blk_cell H66.out 4
  have zc5 := blk_cell H66.out 5
  have zc6 := blk_cell H66.out 6
  have zc7 := blk_cell H66.out 7
  have zc8 := blk_cell H66.out 8
  have zc9 := blk_cell H66.out 9
  refine hK.out _ _ ⟨blk_cell H186.out 0, blk_cell H186.out 1, blk_cell H186.out 2, blk_cell H186.out 3, blk_cell H186.out 4, blk_cell H186.out 5, blk_cell H186.out 6, blk_cell H186.out 7, blk_cell H186.out 8, blk_cell H186.out 9, blk_cell H166.out 0, blk_cell H166.out 1, blk_cell H166.out 2⟩ (fun hHeld => ?_)
  clear hK K
  refine norm_ (a' := ?_) ?_ ?_
  rotate_left
  · show Act.put _ (some 89) _ = _
    simp only [Act.put, List.setIfInBounds_toArray, List.set_cons_zero, List.set_cons_succ, i64_w, i32_w]
    rfl
  refine pure_ (i := 5) (N := some 91) (v := ?_) (a' := ?_) #[true, true, true, true, true, true, false, false] rfl rfl (by kernel_rfl) (fun _ _ _ h => h) (Or.inl ⟨by rfl, ?_⟩) ?_ ?_
  rotate_left
  · intro w'
    go_simp
    with_reducible rfl
  rotate_left
  · simp only [Act.put, List.setIfInBounds_toArray, List.set_cons_zero, List.set_cons_succ, i64_w, i32_w]
    rfl
  refine last_ (i := 6) (N := none) #[true, true, true, true, true, true, true, false] rfl rfl (by kernel_rfl) (by decide) (fun K hK => ?_)
  refine skip_ (w1 := ?_) (by rfl) rfl ?_ ?_
  rotate_left
  · go_simp
    rfl
  refine hK.out _ _ ?_
  clear hK K
  refine pure_ (i := 7) (N := some 7) (v := ?_) (a' := ?_) #[true, true, true, true, true, true, true, true] rfl rfl (by kernel_rfl) (fun _ _ _ h => h) (Or.inl ⟨by rfl, ?_⟩) ?_ ?_
  rotate_left
  · intro w'
    go_simp
    with_reducible rfl
  rotate_left
  · simp only [Act.put, List.setIfInBounds_toArray, List.set_cons_zero, List.set_cons_succ, i64_w, i32_w]
    rfl
  refine done_ (by kernel_rfl) ?_
  have hF6 := fr_set10 w6 (b4 + 1 + 1) (.int .i64 r'.most) (.int .i64 r'.again) (.slice As' r'.said.length cs') (.int .i64 r'.heard) (.int .i64 r'.out) (.slice At' r'.took.length ct') (.int .i64 r'.gave) (.int .i64 r'.last) (.bool r'.went) (.bool r'.owes)
  have h6F := put10 H66.out (.int .i64 r'.most) (.int .i64 r'.again) (.slice As' r'.said.length cs') (.int .i64 r'.heard) (.int .i64 r'.out) (.slice At' r'.took.length ct') (.int .i64 r'.gave) (.int .i64 r'.last) (.bool r'.went) (.bool r'.owes)
  have hMF := HM6.out.far (b := b4 + 1 + 1) (fun hs => HNS.out hs) (fun hp => hp.1.elim HBS.out.2.2 (fun h' => Nat.not_lt.2 h' (blk_lt H63.out))) (.inr (Nat.le_trans HM.out.fr.size (by have := HB4.out; omega))) hF6
  generalize (((((((((w6.setCell ⟨b4 + 1 + 1, 0, none⟩ (.int .i64 r'.most)).setCell ⟨b4 + 1 + 1, 1, none⟩ (.int .i64 r'.again)).setCell ⟨b4 + 1 + 1, 2, none⟩ (.slice As' r'.said.length cs')).setCell ⟨b4 + 1 + 1, 3, none⟩ (.int .i64 r'.heard)).setCell ⟨b4 + 1 + 1, 4, none⟩ (.int .i64 r'.out)).setCell ⟨b4 + 1 + 1, 5, none⟩ (.slice At' r'.took.length ct')).setCell ⟨b4 + 1 + 1, 6, none⟩ (.int .i64 r'.gave)).setCell ⟨b4 + 1 + 1, 7, none⟩ (.int .i64 r'.last)).setCell ⟨b4 + 1 + 1, 8, none⟩ (.bool r'.went)).setCell ⟨b4 + 1 + 1, 9, none⟩ (.bool r'.owes) = wF at h6F hMF ⊢
  have HMF' := Aside0.mk hMF
  have r0 : wF.cell? ⟨b4 + 1 + 1, 0, none⟩ = some (.int .i64 r'.most) := blk_cell h6F 0
  have r1 : wF.cell? ⟨b4 + 1 + 1, 1, none⟩ = some (.int .i64 r'.again) := blk_cell h6F 1
  have r2 : wF.cell? ⟨b4 + 1 + 1, 2, none⟩ = some (.slice As' r'.said.length cs') := blk_cell h6F 2
  have r3 : wF.cell? ⟨b4 + 1 + 1, 3, none⟩ = some (.int .i64 r'.heard) := blk_cell h6F 3
  have r4 : wF.cell? ⟨b4 + 1 + 1, 4, none⟩ = some (.int .i64 r'.out) := blk_cell h6F 4
  have r5 : wF.cell? ⟨b4 + 1 + 1, 5, none⟩ = some (.slice At' r'.took.length ct') := blk_cell h6F 5
  have r6 : wF.cell? ⟨b4 + 1 + 1, 6, none⟩ = some (.int .i64 r'.gave) := blk_cell h6F 6
  have r7 : wF.cell? ⟨b4 + 1 + 1, 7, none⟩ = some (.int .i64 r'.last) := blk_cell h6F 7
  have r8 : wF.cell? ⟨b4 + 1 + 1, 8, none⟩ = some (.bool r'.went) := blk_cell h6F 8
  have r9 : wF.cell? ⟨b4 + 1 + 1, 9, none⟩ = some (.bool r'.owes) := blk_cell h6F 9
  clear hF6 h6F hMF
  go_wp2
  refine bodyPost_ret (v := .tuple #[.agg (rfC r' (.slice As' r'.said.length cs') (.slice At' r'.took.length ct')), .bool true]) (by simp [results, Try.results14, go_sem, *]) rfl ?_
  exact ⟨_, _, r', _, _, rfl, by rw [HR.out]; unfold stepR; rw [HK.out, HLT.out]; rfl, by have h9 := HMF'.out; rw [← HR.out] at h9; exact h9⟩
set_option maxRecDepth 100000 in
set_option maxHeartbeats 2000000 in
theorem do3 (n : Nat) (hn : n < 80) (ws w : World) (S0 Ps0 S Ps Po : Nat → Prop) (g : Nat) (r : Rf) (vs vt : Value) (K : Int) (Am : Option Addr) (cm : Nat) (m : List Int) (now f h : Int) (Al : Option Addr) (cl : Nat) (l : List (List Int)) (hM : Mv ws S0 Ps0 w g S Ps r r vs vt) (ok : OkR n r) (hm : Kd.F (Kd.int .u8) w Po Am m.length m) (hmc : m.length ≤ cm) (hl : Kd.F kM w Po Al l.length l) (hlc : l.length ≤ cl) (hPo : ∀ k, Po k → ¬ S k ∧ k < w.heap.size) (hk : modN K 4 = 3) :
    Calls Try.prog 14 #[.pointer (some ⟨g, 0, none⟩), .agg (rfC r vs vt), .agg #[.int .i64 K, .slice Am m.length cm, .int .i64 now, .int .i64 f, .slice Al l.length cl, .int .i64 h]] w fun e w' => ∃ S' Ps' r' vs' vt', e = .returned (.tuple #[.agg (rfC r' vs' vt'), .bool true]) ∧ r' = stepR r K m now f l h ∧ Mv ws S0 Ps0 w' g S' Ps' r' r' vs' vt' := by
  obtain ⟨As, cs, rfl⟩ := Kd.V_slice hM.rv.1
  obtain ⟨At, ct, rfl⟩ := Kd.V_slice hM.rv.2
  have HM := Aside0.mk hM
  have OK := Aside0.mk ok
  have HN := Aside0.mk (Nat.le_of_lt hn)
  have HMF := Aside0.mk hm
  have HMC := Aside0.mk hmc
  have HLF := Aside0.mk hl
  have HLC := Aside0.mk hlc
  have HPO := Aside0.mk hPo
  have HK := Aside0.mk hk
  have hk' : wrap64 ((IntKind.u64.wrap K).tmod 4) = 3 := hk
  clear hM ok hn hm hmc hl hlc hPo hk
  go_enter Try.func14, Try.ntmps14
  go_upto_region 1 with fail
  generalize hz : ((w.alloc _).alloc _).alloc _ = w1
  obtain ⟨hb1, h4, h5, h6⟩ : Below w.heap.size w w1 ∧ w1.heap[w.heap.size]? = some (.cells (rfC r (.slice As r.said.length cs) (.slice At r.took.length ct)) 27 (0, 0)) ∧ w1.heap[w.heap.size + 1]? = some (.cells #[.int .i64 K, .slice Am m.length cm, .int .i64 now, .int .i64 f, .slice Al l.length cl, .int .i64 h] 38 (0, 0)) ∧ w1.heap[w.heap.size + 1 + 1]? = some (.cells #[.int .i64 0, .int .i64 0, .slice none 0 0, .int .i64 0, .int .i64 0, .slice none 0 0, .int .i64 0, .int .i64 0, .bool false, .bool false] 27 (0, 0)) := hz ▸ laid3 w _ _ _ _ _ _
  clear hz
  have HB1 := Aside0.mk hb1
  obtain ⟨b4, hb4⟩ : ∃ b4, b4 = w.heap.size := ⟨_, rfl⟩
  have HB4 := Aside0.mk hb4
  rw [← hb4] at h4 h5 h6 ⊢
  have H4 := Aside0.mk h4
  have H5 := Aside0.mk h5
  have H6 := Aside0.mk h6
  have hb5S : ¬ S (b4 + 1) := fun h => by have := HM.out.ltS _ h; omega
  have hb6S : ¬ S (b4 + 1 + 1) := fun h => by have := HM.out.ltS _ h; omega
  have hb6P : ¬ Ps (b4 + 1 + 1) := fun h => by have := HM.out.ltP _ h; omega
  have HBS := Aside0.mk (show _ ∧ _ ∧ _ from ⟨hb5S, hb6S, hb6P⟩)
  clear hb1 hb4 hb5S hb6S hb6P
  have x0 : w1.cell? ⟨b4, 0, none⟩ = some (.int .i64 r.most) := blk_cell h4 0
  have x1 : w1.cell? ⟨b4, 1, none⟩ = some (.int .i64 r.again) := blk_cell h4 1
  have x2 : w1.cell? ⟨b4, 2, none⟩ = some (.slice As r.said.length cs) := blk_cell h4 2
  have x3 : w1.cell? ⟨b4, 3, none⟩ = some (.int .i64 r.heard) := blk_cell h4 3
  have x4 : w1.cell? ⟨b4, 4, none⟩ = some (.int .i64 r.out) := blk_cell h4 4
  have x5 : w1.cell? ⟨b4, 5, none⟩ = some (.slice At r.took.length ct) := blk_cell h4 5
  have x6 : w1.cell? ⟨b4, 6, none⟩ = some (.int .i64 r.gave) := blk_cell h4 6
  have x7 : w1.cell? ⟨b4, 7, none⟩ = some (.int .i64 r.last) := blk_cell h4 7
  have x8 : w1.cell? ⟨b4, 8, none⟩ = some (.bool r.went) := blk_cell h4 8
  have x9 : w1.cell? ⟨b4, 9, none⟩ = some (.bool r.owes) := blk_cell h4 9
  have y0 : w1.cell? ⟨b4 + 1, 0, none⟩ = some (.int .i64 K) := blk_cell h5 0
  have y1 : w1.cell? ⟨b4 + 1, 1, none⟩ = some (.slice Am m.length cm) := blk_cell h5 1
  have y2 : w1.cell? ⟨b4 + 1, 2, none⟩ = some (.int .i64 now) := blk_cell h5 2
  have y3 : w1.cell? ⟨b4 + 1, 3, none⟩ = some (.int .i64 f) := blk_cell h5 3
  have y4 : w1.cell? ⟨b4 + 1, 4, none⟩ = some (.slice Al l.length cl) := blk_cell h5 4
  have y5 : w1.cell? ⟨b4 + 1, 5, none⟩ = some (.int .i64 h) := blk_cell h5 5
  clear h4 h5 h6
  have HGL := Aside0.mk (tkOf_got n r OK.out)
  obtain ⟨gl, hgl⟩ : ∃ gl, r.took.drop r.gave.toNat = gl := ⟨_, rfl⟩
  have HGG := Aside0.mk hgl
  have HGN : Aside0 (gl.length ≤ 5120) := Aside0.mk (by have h1 := HGL.out; have h2 := HN.out; rw [← hgl]; have : (r.took.drop r.gave.toNat).length ≤ 64 * n := h1; omega)
  clear hgl
  go_wp2_with fail
  refine (rgot_l n r gl HGG.out Ps _ _ _ OK.out (HM.out.below HB1.out).rv).mono ?_
  rintro e w2 ⟨r', vs', vt', A9, c9, rfl, hr', hv, hv9, hb2⟩
  have HV9 := Aside0.mk hv9
  clear hv9
  obtain ⟨As', cs', rfl⟩ := Kd.V_slice hv.1
  obtain ⟨At', ct', rfl⟩ := Kd.V_slice hv.2
  have HR := Aside0.mk hr'
  have HM2 := Aside0.mk ((HM.out.below HB1.out).ref hb2 hv)
  have HB2 := Aside0.mk hb2
  clear hr' hv hb2
  clear x0 x1 x2 x3 x4 x5 x6 x7 x8 x9 y0 y1 y2 y3 y4 y5 hk'
  go_upto_region 15 with fail
  generalize hz : w2.alloc (.cells #[.int .i64 r'.most, .int .i64 r'.again, .slice As' r'.said.length cs', .int .i64 r'.heard, .int .i64 r'.out, .slice At' r'.took.length ct', .int .i64 r'.gave, .int .i64 r'.last, .bool r'.went, .bool r'.owes] 27) = w3
  obtain ⟨hb3, h8⟩ : Below w2.heap.size w2 w3 ∧ w3.heap[w2.heap.size]? = some (.cells #[.int .i64 r'.most, .int .i64 r'.again, .slice As' r'.said.length cs', .int .i64 r'.heard, .int .i64 r'.out, .slice At' r'.took.length ct', .int .i64 r'.gave, .int .i64 r'.last, .bool r'.went, .bool r'.owes] 27 (0, 0)) := hz ▸ ⟨below_alloc (Below.refl _ _) _, blk_new w2 _⟩
  clear hz
  obtain ⟨b8, hb8⟩ : ∃ b, b = w2.heap.size := ⟨_, rfl⟩
  rw [← hb8] at h8 ⊢
  have HB3 := Aside0.mk hb3
  have H8 := Aside0.mk h8
  have HB8 := Aside0.mk hb8
  have HB8S := Aside0.mk (show ¬ S b8 from fun h => by have := HM2.out.ltS _ h; omega)
  clear hb3 h8 hb8
  have HM3 := Aside0.mk (HM2.out.below HB3.out)
  have HB13 := Aside0.mk (below_then HB2.out HB2.out.size HB3.out)
  have HV3 := Aside0.mk (Kd.V_below (Kd.V_bound HV9.out) HB3.out)
  have H63 := Aside0.mk (blk_below H6.out HB13.out)
  refine start_ (n := 7) (S := fun w' => w'.cell? ⟨b8, 0, none⟩ = some (.int .i64 r'.most) ∧ w'.cell? ⟨b8, 1, none⟩ = some (.int .i64 r'.again) ∧ w'.cell? ⟨b8, 2, none⟩ = some (.slice As' r'.said.length cs') ∧ w'.cell? ⟨b8, 3, none⟩ = some (.int .i64 r'.heard) ∧ w'.cell? ⟨b8, 4, none⟩ = some (.int .i64 r'.out) ∧ w'.cell? ⟨b8, 5, none⟩ = some (.slice At' r'.took.length ct') ∧ w'.cell? ⟨b8, 6, none⟩ = some (.int .i64 r'.gave) ∧ w'.cell? ⟨b8, 7, none⟩ = some (.int .i64 r'.last) ∧ w'.cell? ⟨b8, 8, none⟩ = some (.bool r'.went) ∧ w'.cell? ⟨b8, 9, none⟩ = some (.bool r'.owes)) (ds := [5]) #[false, false, false, false, false, false, false] (by kernel_rfl) rfl rfl ⟨blk_cell (blk_below H8.out (below_drew (Below.refl _ _))) 0, blk_cell (blk_below H8.out (below_drew (Below.refl _ _))) 1, blk_cell (blk_below H8.out (below_drew (Below.refl _ _))) 2, blk_cell (blk_below H8.out (below_drew (Below.refl _ _))) 3, blk_cell (blk_below H8.out (below_drew (Below.refl _ _))) 4, blk_cell (blk_below H8.out (below_drew (Below.refl _ _))) 5, blk_cell (blk_below H8.out (below_drew (Below.refl _ _))) 6, blk_cell (blk_below H8.out (below_drew (Below.refl _ _))) 7, blk_cell (blk_below H8.out (below_drew (Below.refl _ _))) 8, blk_cell (blk_below H8.out (below_drew (Below.refl _ _))) 9⟩ (fun hHeld => ?_)
  refine pure_ (i := 1) (N := some 98) (v := ?_) (a' := ?_) #[false, true, false, false, false, false, false] rfl rfl (by kernel_rfl) (fun _ _ _ h => h) (Or.inl ⟨by rfl, ?_⟩) ?_ ?_
  rotate_left
  · intro w'
    go_simp
    with_reducible rfl
  rotate_left
  · simp only [Act.put, List.setIfInBounds_toArray, List.set_cons_zero, List.set_cons_succ, i64_w, i32_w]
    rfl
  refine pure_ (i := 3) (N := some 100) (v := ?_) (a' := ?_) #[false, true, false, true, false, false, false] rfl rfl (by kernel_rfl) (fun _ _ _ h => h) (Or.inl ⟨by rfl, ?_⟩) ?_ ?_
  rotate_left
  · intro w'
    go_simp
    with_reducible rfl
  rotate_left
  · simp only [Act.put, List.setIfInBounds_toArray, List.set_cons_zero, List.set_cons_succ, i64_w, i32_w]
    rfl
  refine take_ (i := 0) (N := some 97) (v := ?_) (a' := ?_) #[true, true, false, true, false, false, false] rfl rfl (by kernel_rfl) (fun _ _ _ h => h) (Or.inl ⟨by rfl, ?_⟩) hHeld ?_ ?_
  rotate_left
  · rintro w' ⟨s0, s1, s2, s3, s4, s5, s6, s7, s8, s9⟩
    go_simp
    with_reducible rfl
  rotate_left
  · simp only [Act.put, List.setIfInBounds_toArray, List.set_cons_zero, List.set_cons_succ, i64_w, i32_w]
    rfl
  refine one_ (i := 2) (N := some 99) #[true, true, true, true, false, false, false] rfl rfl (by kernel_rfl) (by decide) (fun K hK => ?_)
  refine goes_ Try.func21 (by kernel_rfl) rfl #[.pointer (some ⟨g, 0, none⟩)] (by rfl) rfl rfl (by simp only [List.map_toArray, List.map_cons, List.map_nil]; rfl) ?_
  with_reducible refine (tgot_l g S r gl HGG.out _ (HM3.out.below (below_drew (Below.refl _ _))).tk).mono ?_
  rintro e w4 ⟨S4, A4, c4, rfl, hc4, hl4, hk4, hs4, hf4⟩
  refine ⟨_, rfl, ?_⟩
  have hC4 : Kd.C kM w4 A9 gl.length gl := (Kd.V_at (Kd.V_step (Kd.V_below HV3.out (below_drew (Below.refl _ _))) (fun k hk hlt => hf4.block k hlt (fun hs => hk.1.elim (fun h => HM.out.dis k h hs) (fun h => Nat.not_lt.2 h (Nat.lt_of_lt_of_le (HM.out.ltS k hs) HB1.out.size)))))).2.2 |> Kd.F_now
  have HM4 := Aside0.mk ((HM3.out.below (below_drew (Below.refl _ _))).talk hk4 hs4 hf4)
  have H84 := Aside0.mk ((hf4.block (b8) (blk_lt (blk_below H8.out (below_drew (Below.refl _ _)))) HB8S.out).trans (blk_below H8.out (below_drew (Below.refl _ _))))
  have H64 := Aside0.mk ((hf4.block (b4 + 1 + 1) (blk_lt (blk_below H63.out (below_drew (Below.refl _ _)))) HBS.out.2.1).trans (blk_below H63.out (below_drew (Below.refl _ _))))
  have HNS : Aside0 (¬ (S4 (b4 + 1 + 1) ∧ b4 + 1 + 1 < w4.heap.size)) := Aside0.mk (fun h => (hs4 _ h.1).elim HBS.out.2.1 (fun h' => Nat.not_lt.2 h' (blk_lt H63.out)))
  have HC4 := Aside0.mk hC4
  have HCA := Aside0.mk hc4
  have HCL := Aside0.mk hl4
  clear hk4 hs4 hf4 hc4 hl4 hC4
  refine hK.out _ _ ⟨blk_cell H84.out 0, blk_cell H84.out 1, blk_cell H84.out 2, blk_cell H84.out 3, blk_cell H84.out 4, blk_cell H84.out 5, blk_cell H84.out 6, blk_cell H84.out 7, blk_cell H84.out 8, blk_cell H84.out 9⟩ (fun hHeld => ?_)
  clear hK K
  refine norm_ (a' := ?_) ?_ ?_
  rotate_left
  · show Act.put _ (some 99) _ = _
    simp only [Act.put, List.setIfInBounds_toArray, List.set_cons_zero, List.set_cons_succ, i64_w, i32_w]
    rfl
  refine one_ (i := 4) (N := some 101) #[true, true, true, true, true, false, false] rfl rfl (by kernel_rfl) (by decide) (fun K hK => ?_)
  refine goes_ Try.func17 (by kernel_rfl) rfl #[.slice A4 gl.length c4, .slice A9 gl.length c9] (by rfl) rfl rfl (by simp only [List.map_toArray, List.map_cons, List.map_nil]; rfl) ?_
  with_reducible refine (same_ll gl A4 c4 A9 c9 _ HCA.out HC4.out HGN.out).mono ?_
  rintro e w5 ⟨rfl, hb5⟩
  refine ⟨_, rfl, ?_⟩
  have HM5 := Aside0.mk (HM4.out.below hb5.below)
  have H85 := Aside0.mk (blk_below H84.out hb5.below)
  have H65 := Aside0.mk (blk_below H64.out hb5.below)
  clear hb5
  have zf0 : w5.frozen? ⟨b4 + 1 + 1, 0, none⟩ = false := blk_frozen H65.out 0
  have zf1 : w5.frozen? ⟨b4 + 1 + 1, 1, none⟩ = false := blk_frozen H65.out 1
  have zf2 : w5.frozen? ⟨b4 + 1 + 1, 2, none⟩ = false := blk_frozen H65.out 2
  have zf3 : w5.frozen? ⟨b4 + 1 + 1, 3, none⟩ = false := blk_frozen H65.out 3
  have zf4 : w5.frozen? ⟨b4 + 1 + 1, 4, none⟩ = false := blk_frozen H65.out 4
  have zf5 : w5.frozen? ⟨b4 + 1 + 1, 5, none⟩ = false := blk_frozen H65.out 5
  have zf6 : w5.frozen? ⟨b4 + 1 + 1, 6, none⟩ = false := blk_frozen H65.out 6
  have zf7 : w5.frozen? ⟨b4 + 1 + 1, 7, none⟩ = false := blk_frozen H65.out 7
  have zf8 : w5.frozen? ⟨b4 + 1 + 1, 8, none⟩ = false := blk_frozen H65.out 8
  have zf9 : w5.frozen? ⟨b4 + 1 + 1, 9, none⟩ = false := blk_frozen H65.out 9
  have zc0 := blk_cell H65.out 0
  have zc1 := blk_cell H65.out 1
  have zc2 := blk_cell H65.out 2
  have zc3 := blk_cell H65.out 3
  have zc4 := blk_cell H65.out 4
  have zc5 := blk_cell H65.out 5
  have zc6 := blk_cell H65.out 6
  have zc7 := blk_cell H65.out 7
  have zc8 := blk_cell H65.out 8
  have zc9 := blk_cell H65.out 9
  refine hK.out _ _ ⟨blk_cell H85.out 0, blk_cell H85.out 1, blk_cell H85.out 2, blk_cell H85.out 3, blk_cell H85.out 4, blk_cell H85.out 5, blk_cell H85.out 6, blk_cell H85.out 7, blk_cell H85.out 8, blk_cell H85.out 9⟩ (fun hHeld => ?_)
  clear hK K
  refine norm_ (a' := ?_) ?_ ?_
  rotate_left
  · show Act.put _ (some 101) _ = _
    simp only [Act.put, List.setIfInBounds_toArray, List.set_cons_zero, List.set_cons_succ, i64_w, i32_w]
    rfl
  refine last_ (i := 5) (N := none) #[true, true, true, true, true, true, false] rfl rfl (by kernel_rfl) (by decide) (fun K hK => ?_)
  refine skip_ (w1 := ?_) (by rfl) rfl ?_ ?_
  rotate_left
  · go_simp
    rfl
  refine hK.out _ _ ?_
  clear hK K
  refine pure_ (i := 6) (N := some 7) (v := ?_) (a' := ?_) #[true, true, true, true, true, true, true] rfl rfl (by kernel_rfl) (fun _ _ _ h => h) (Or.inl ⟨by rfl, ?_⟩) ?_ ?_
  rotate_left
  · intro w'
    go_simp
    with_reducible rfl
  rotate_left
  · simp only [Act.put, List.setIfInBounds_toArray, List.set_cons_zero, List.set_cons_succ, i64_w, i32_w]
    rfl
  refine done_ (by kernel_rfl) ?_
  have hF6 := fr_set10 w5 (b4 + 1 + 1) (.int .i64 r'.most) (.int .i64 r'.again) (.slice As' r'.said.length cs') (.int .i64 r'.heard) (.int .i64 r'.out) (.slice At' r'.took.length ct') (.int .i64 r'.gave) (.int .i64 r'.last) (.bool r'.went) (.bool r'.owes)
  have h6F := put10 H65.out (.int .i64 r'.most) (.int .i64 r'.again) (.slice As' r'.said.length cs') (.int .i64 r'.heard) (.int .i64 r'.out) (.slice At' r'.took.length ct') (.int .i64 r'.gave) (.int .i64 r'.last) (.bool r'.went) (.bool r'.owes)
  have hMF := HM5.out.far (b := b4 + 1 + 1) (fun hs => HNS.out hs) (fun hp => hp.1.elim HBS.out.2.2 (fun h' => Nat.not_lt.2 h' (blk_lt H6.out))) (.inr (Nat.le_trans HM.out.fr.size (by have := HB4.out; omega))) hF6
  generalize (((((((((w5.setCell ⟨b4 + 1 + 1, 0, none⟩ (.int .i64 r'.most)).setCell ⟨b4 + 1 + 1, 1, none⟩ (.int .i64 r'.again)).setCell ⟨b4 + 1 + 1, 2, none⟩ (.slice As' r'.said.length cs')).setCell ⟨b4 + 1 + 1, 3, none⟩ (.int .i64 r'.heard)).setCell ⟨b4 + 1 + 1, 4, none⟩ (.int .i64 r'.out)).setCell ⟨b4 + 1 + 1, 5, none⟩ (.slice At' r'.took.length ct')).setCell ⟨b4 + 1 + 1, 6, none⟩ (.int .i64 r'.gave)).setCell ⟨b4 + 1 + 1, 7, none⟩ (.int .i64 r'.last)).setCell ⟨b4 + 1 + 1, 8, none⟩ (.bool r'.went)).setCell ⟨b4 + 1 + 1, 9, none⟩ (.bool r'.owes) = wF at h6F hMF ⊢
  have HMF' := Aside0.mk hMF
  have r0 : wF.cell? ⟨b4 + 1 + 1, 0, none⟩ = some (.int .i64 r'.most) := blk_cell h6F 0
  have r1 : wF.cell? ⟨b4 + 1 + 1, 1, none⟩ = some (.int .i64 r'.again) := blk_cell h6F 1
  have r2 : wF.cell? ⟨b4 + 1 + 1, 2, none⟩ = some (.slice As' r'.said.length cs') := blk_cell h6F 2
  have r3 : wF.cell? ⟨b4 + 1 + 1, 3, none⟩ = some (.int .i64 r'.heard) := blk_cell h6F 3
  have r4 : wF.cell? ⟨b4 + 1 + 1, 4, none⟩ = some (.int .i64 r'.out) := blk_cell h6F 4
  have r5 : wF.cell? ⟨b4 + 1 + 1, 5, none⟩ = some (.slice At' r'.took.length ct') := blk_cell h6F 5
  have r6 : wF.cell? ⟨b4 + 1 + 1, 6, none⟩ = some (.int .i64 r'.gave) := blk_cell h6F 6
  have r7 : wF.cell? ⟨b4 + 1 + 1, 7, none⟩ = some (.int .i64 r'.last) := blk_cell h6F 7
  have r8 : wF.cell? ⟨b4 + 1 + 1, 8, none⟩ = some (.bool r'.went) := blk_cell h6F 8
  have r9 : wF.cell? ⟨b4 + 1 + 1, 9, none⟩ = some (.bool r'.owes) := blk_cell h6F 9
  clear hF6 h6F hMF
  go_wp2
  refine bodyPost_ret (v := .tuple #[.agg (rfC r' (.slice As' r'.said.length cs') (.slice At' r'.took.length ct')), .bool true]) (by simp [results, Try.results14, go_sem, *]) rfl ?_
  exact ⟨_, _, r', _, _, rfl, by rw [HR.out]; unfold stepR; rw [HK.out]; rfl, by have h9 := HMF'.out; rw [← HR.out] at h9; exact h9⟩
/-- Whatever is done, is answered as the document says; both go on side by side. -/
theorem do_ok (n : Nat) (hn : n < 80) (ws w : World) (S0 Ps0 S Ps Po : Nat → Prop) (g : Nat) (r : Rf) (vs vt : Value) (K : Int) (Am : Option Addr) (cm : Nat) (m : List Int) (now f h : Int) (Al : Option Addr) (cl : Nat) (l : List (List Int)) (hM : Mv ws S0 Ps0 w g S Ps r r vs vt) (ok : OkR n r) (hm : Kd.F (Kd.int .u8) w Po Am m.length m) (hmc : m.length ≤ cm) (hl : Kd.F kM w Po Al l.length l) (hlc : l.length ≤ cl) (hPo : ∀ k, Po k → ¬ S k ∧ k < w.heap.size) :
    Calls Try.prog 14 #[.pointer (some ⟨g, 0, none⟩), .agg (rfC r vs vt), .agg #[.int .i64 K, .slice Am m.length cm, .int .i64 now, .int .i64 f, .slice Al l.length cl, .int .i64 h]] w fun e w' => ∃ S' Ps' r' vs' vt', e = .returned (.tuple #[.agg (rfC r' vs' vt'), .bool true]) ∧ r' = stepR r K m now f l h ∧ Mv ws S0 Ps0 w' g S' Ps' r' r' vs' vt' := by
  have hk := modN_in K 4 (by decide) (by decide)
  have h4 : modN K 4 = 0 ∨ modN K 4 = 1 ∨ modN K 4 = 2 ∨ modN K 4 = 3 := by omega
  rcases h4 with h4 | h4 | h4 | h4
  · exact do0 n hn ws w S0 Ps0 S Ps Po g r vs vt K Am cm m now f h Al cl l hM ok hm hmc hl hlc hPo h4
  · exact do1 n hn ws w S0 Ps0 S Ps Po g r vs vt K Am cm m now f h Al cl l hM ok hm hmc hl hlc hPo h4
  · exact do2 n hn ws w S0 Ps0 S Ps Po g r vs vt K Am cm m now f h Al cl l hM ok hm hmc hl hlc hPo h4
  · exact do3 n hn ws w S0 Ps0 S Ps Po g r vs vt K Am cm m now f h Al cl l hM ok hm hmc hl hlc hPo h4
end Go.Proofs.Yteeljnlhgaljaaa
