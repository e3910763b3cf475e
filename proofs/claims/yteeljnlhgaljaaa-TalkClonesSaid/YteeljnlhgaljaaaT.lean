/- By hand: a message is said. (The drawing region's rows are printed by rwt.py.) -/
import Derived.Test.YteeljnlhgaljaaaS
import Derived.Deep.RegionHeld3
import Derived.Deep.RegionWith
import Derived.Deep.DeepCutAuto
import Derived.Outline
namespace Go.Proofs.Yteeljnlhgaljaaa
set_option linter.unusedVariables false
set_option linter.unusedSimpArgs false
open Go.RowKit Go.Proofs.YteeljnlhgaljaaaW.PrintWords Go.Proofs.YteeljnlhgaljaaaW.PrintLast Go.Proofs.Yteeljnlhgaljaaa.P

theorem info34' : (Try.prog.info? 34).map (fun i => (i.zero, i.size, i.bytes)) = some (some (.slice none 0 0), 1, 24) := by kernel_rfl
set_option maxHeartbeats 1000000 in
set_option maxRecDepth 100000 in
theorem say_ok' (g : Nat) (S Sw Sg : Nat → Prop) (vw vg : Value) (t : Tk) (A : Option Addr) (c : Nat) (m : List Int) (w : World) (ht : IsTk' w g S Sw Sg vw vg t) (hm : Kd.C (Kd.int .u8) w A m.length m) (hc : m.length ≤ c) (hl : m.length ≤ 4096)
    (hf : (t.wait.length : Int) < t.most) (hmost : t.most ≤ 64) (hs : 0 ≤ t.said ∧ t.said < 1000000) (hlt : ∀ k, Sg k → k < w.heap.size) :
    Calls Try.prog 22 #[.pointer (some ⟨g, 0, none⟩), .slice A m.length c] w fun e w' => ∃ S' : Nat → Prop, e = .returned (.int .i64 0) ∧ IsTk w' g S' { t with wait := t.wait ++ [m], said := t.said + 1 } ∧ (∀ k, S' k → S k ∨ w.heap.size ≤ k) ∧ Fr S w w' := by
  obtain ⟨Aw, cw, rfl, hcw, hCw⟩ := Kd.R_reads ht.wait
  have hx0 : w.cell? ⟨g, 0, none⟩ = some (.int .i64 t.most) := blk_cell ht.blk 0
  have hx6 : w.cell? ⟨g, 6, none⟩ = some (.slice Aw t.wait.length cw) := blk_cell ht.blk 6
  have hne : Aside0 (some g ≠ (Value.slice Aw t.wait.length cw).ownBlock) := Aside0.mk (Kd.R_away ht.wait (fun k hk => (ht.inw k hk).2.1))
  have hgl : Aside0 (g < w.heap.size) := Aside0.mk (blk_lt ht.blk)
  have hx6f : w.frozen? ⟨g, 6, none⟩ = false := blk_frozen ht.blk 6
  have hT := Aside0.mk ht
  have hM := Aside0.mk hm
  have hC := Aside0.mk hc
  have hKl : Aside0 (slices_Clone_byte_byte.f m = some m) := Aside0.mk (if_pos (by omega))
  have hge : decide (t.most ≤ (t.wait.length : Int)) = false := decide_eq_false (by omega)
  have hlw : Aside0 (t.wait.length < 64) := Aside0.mk (by omega)
  have hLT := Aside0.mk hlt
  clear ht hm hCw hcw hc hlt
  go_enter Try.func22, Try.ntmps22
  go_wp2
  go_quiet (fail)
  go_wp2
  have hB1 : Aside0 (Below w.heap.size w (w.drewN nq).drew) := Aside0.mk (below_drew (pw_below_drewN (Below.refl _ _) _))
  refine start_ (n := 12) (S := fun w' => w'.cell? ⟨g, 6, none⟩ = some (.slice Aw t.wait.length cw)) (ds := [11]) #[false, false, false, false, false, false, false, false, false, false, false, false] (by kernel_rfl) rfl rfl (hx6) (fun hHeld => ?_)
  refine pure_ (i := 0) (N := some 24) (v := ?_) (a' := ?_) #[true, false, false, false, false, false, false, false, false, false, false, false] rfl rfl (by kernel_rfl) (fun _ _ _ h => h) (Or.inl ⟨by rfl, ?_⟩) ?_ ?_
  rotate_left
  · intro w'
    go_simp
    with_reducible rfl
  rotate_left
  · simp only [Act.put, List.setIfInBounds_toArray, List.set_cons_zero, List.set_cons_succ, i64_w, i32_w]
    rfl
  refine pure_ (i := 1) (N := some 25) (v := ?_) (a' := ?_) #[true, true, false, false, false, false, false, false, false, false, false, false] rfl rfl (by kernel_rfl) (fun _ _ _ h => h) (Or.inl ⟨by rfl, ?_⟩) ?_ ?_
  rotate_left
  · intro w'
    go_simp
    with_reducible rfl
  rotate_left
  · simp only [Act.put, List.setIfInBounds_toArray, List.set_cons_zero, List.set_cons_succ, i64_w, i32_w]
    rfl
  refine pure_ (i := 2) (N := some 26) (v := ?_) (a' := ?_) #[true, true, true, false, false, false, false, false, false, false, false, false] rfl rfl (by kernel_rfl) (fun _ _ _ h => h) (Or.inl ⟨by rfl, ?_⟩) ?_ ?_
  rotate_left
  · intro w'
    go_simp
    with_reducible rfl
  rotate_left
  · simp only [Act.put, List.setIfInBounds_toArray, List.set_cons_zero, List.set_cons_succ, i64_w, i32_w]
    rfl
  refine pure_ (i := 3) (N := some 27) (v := ?_) (a' := ?_) #[true, true, true, true, false, false, false, false, false, false, false, false] rfl rfl (by kernel_rfl) (fun _ _ _ h => h) (Or.inl ⟨by rfl, ?_⟩) ?_ ?_
  rotate_left
  · intro w'
    go_simp
    with_reducible rfl
  rotate_left
  · simp only [Act.put, List.setIfInBounds_toArray, List.set_cons_zero, List.set_cons_succ, i64_w, i32_w]
    rfl
  refine pure_ (i := 5) (N := some 29) (v := ?_) (a' := ?_) #[true, true, true, true, false, true, false, false, false, false, false, false] rfl rfl (by kernel_rfl) (fun _ _ _ h => h) (Or.inl ⟨by rfl, ?_⟩) ?_ ?_
  rotate_left
  · intro w'
    go_simp
    with_reducible rfl
  rotate_left
  · simp only [Act.put, List.setIfInBounds_toArray, List.set_cons_zero, List.set_cons_succ, i64_w, i32_w]
    rfl
  refine take_ (i := 4) (N := some 28) (v := ?_) (a' := ?_) #[true, true, true, true, true, true, false, false, false, false, false, false] rfl rfl (by kernel_rfl) (fun _ _ _ h => h) (Or.inl ⟨by rfl, ?_⟩) hHeld ?_ ?_
  rotate_left
  · intro w' s0
    go_simp
    with_reducible rfl
  rotate_left
  · simp only [Act.put, List.setIfInBounds_toArray, List.set_cons_zero, List.set_cons_succ, i64_w, i32_w]
    rfl
  refine one_ (i := 6) (N := some 30) #[true, true, true, true, true, true, true, false, false, false, false, false] rfl rfl (by kernel_rfl) (by decide) (fun K hK => ?_)
  refine goes_ Try.func39 (by kernel_rfl) rfl #[.slice A m.length c] (by rfl) rfl rfl (by simp only [List.map_toArray, List.map_cons, List.map_nil]; rfl) ?_
  with_reducible refine (slices_Clone_byte_byte.calls A c m m _ (Kd.C_below hM.out hB1.out) hC.out hKl.out).mono ?_
  rintro e w2 ⟨v0, rfl, hv, hb⟩
  refine ⟨_, rfl, ?_⟩
  obtain ⟨Av, cv, rfl, hcv, hCv⟩ := Kd.R_reads hv
  have hB2 := Aside0.mk (below_then hB1.out hB1.out.size hb)
  have hV := Aside0.mk (Kd.R_lower (Kd.R_mono (Kd.R_bound hv) (fun k hk => Nat.le_trans hB1.out.size hk.2.1)) (Nat.zero_le _))
  clear hcv hCv hv hb
  refine hK.out _ _ (pw_cell_below hB2.out hx6) (fun hHeld => ?_)
  clear hK K
  refine norm_ (a' := ?_) ?_ ?_
  rotate_left
  · show Act.put _ (some 30) _ = _
    simp only [Act.put, List.setIfInBounds_toArray, List.set_cons_zero, List.set_cons_succ, i64_w, i32_w]
    rfl
  refine one_ (i := 7) (N := some 31) #[true, true, true, true, true, true, true, true, false, false, false, false] rfl rfl (by kernel_rfl) (by decide) (fun K hK => ?_)
  refine value_ (w1 := ?_) (v := ?_) (by rfl) rfl ?_ ?_
  rotate_left 2
  · go_simp
    constructor
    · rfl
    · rfl
  refine hK.out _ _ (pw_cell_below (below_then hB2.out hB2.out.size (below_alloc (Below.refl _ _) _)) hx6) (fun hHeld => ?_)
  clear hK K
  refine norm_ (a' := ?_) ?_ ?_
  rotate_left
  · show Act.put _ (some 31) _ = _
    simp only [Act.put, List.setIfInBounds_toArray, List.set_cons_zero, List.set_cons_succ, i64_w, i32_w]
    rfl
  refine one_ (i := 8) (N := some 32) #[true, true, true, true, true, true, true, true, true, false, false, false] rfl rfl (by kernel_rfl) (by decide) (fun K hK => ?_)
  refine Kd.R_append_step kM (w0 := w) 0 (by rfl) (.tmp 28) (.tmp 31) 25 34 (.slice none 0 0) 24 (by rfl) Try.underlying25 info34' rfl (by decide) (by omega) (.slice Aw t.wait.length cw) t.wait m [.slice Av m.length cv] (fun k => Sw k ∨ w.heap.size ≤ k) (fun k => w.heap.size ≤ k) (by rfl) (by rfl) ⟨_, rfl, hV.out⟩ (fun k hk => ⟨.inr hk, fun e => Nat.lt_irrefl _ (Nat.lt_of_lt_of_le (Kd.R_lt hT.out.wait k e.symm) hk)⟩) (fun k hk => .inr (Nat.le_trans hB2.out.size hk)) (Kd.R_below (Kd.R_mono hT.out.wait (fun _ h => .inl h)) hB2.out) ⟨hB2.out.os, hB2.out.tape, hB2.out.output, hB2.out.size, fun k hk => by omega⟩ (Nat.zero_le _) (by have := hlw.out; omega) ?_
  intro v1 w3 ho hb1 hg hat
  obtain ⟨A1, c1, rfl⟩ := Kd.R_slice ho
  have hO := Aside0.mk ho
  have hG := Aside0.mk hg
  have hfz : w3.frozen? ⟨g, 6, none⟩ = false := (World.frozen?_of_block ((hG.out.block g (Nat.lt_of_lt_of_le hgl.out hB2.out.size) hne.out).trans (hB2.out.block g hgl.out))).trans hx6f
  clear ho hb1 hg hat
  refine hK.out _ _ ((World.cell?_of_block (hG.out.block g (Nat.lt_of_lt_of_le hgl.out hB2.out.size) hne.out)).trans (pw_cell_below hB2.out hx6)) (fun hHeld => ?_)
  clear hK K
  refine norm_ (a' := ?_) ?_ ?_
  rotate_left
  · show Act.put _ (some 32) _ = _
    simp only [Act.put, List.setIfInBounds_toArray, List.set_cons_zero, List.set_cons_succ, i64_w, i32_w]
    rfl
  refine pure_ (i := 9) (N := some 33) (v := ?_) (a' := ?_) #[true, true, true, true, true, true, true, true, true, true, false, false] rfl rfl (by kernel_rfl) (fun _ _ _ h => h) (Or.inl ⟨by rfl, ?_⟩) ?_ ?_
  rotate_left
  · intro w'
    go_simp
    with_reducible rfl
  rotate_left
  · simp only [Act.put, List.setIfInBounds_toArray, List.set_cons_zero, List.set_cons_succ, i64_w, i32_w]
    rfl
  refine pure_ (i := 10) (N := some 34) (v := ?_) (a' := ?_) #[true, true, true, true, true, true, true, true, true, true, true, false] rfl rfl (by kernel_rfl) (fun _ _ _ h => h) (Or.inl ⟨by rfl, ?_⟩) ?_ ?_
  rotate_left
  · intro w'
    go_simp
    with_reducible rfl
  rotate_left
  · simp only [Act.put, List.setIfInBounds_toArray, List.set_cons_zero, List.set_cons_succ, i64_w, i32_w]
    rfl
  refine last_ (i := 11) (N := none) #[true, true, true, true, true, true, true, true, true, true, true, true] rfl rfl (by kernel_rfl) (by decide) (fun K hK => ?_)
  refine skip_ (w1 := ?_) (by rfl) rfl ?_ ?_
  rotate_left
  · go_simp
    rfl
  refine hK.out _ _ ?_
  clear hK K
  refine done_ (by kernel_rfl) ?_
  have hb3 := blk_grown (blk_below hT.out.blk hB2.out) hG.out hne.out
  have hb4 := blk_put hb3 6 (Value.slice A1 (t.wait.length + 1) c1) rfl
  have hO4 := Kd.R_set hO.out hb3 (by decide) 6 (Value.slice A1 (t.wait.length + 1) c1)
  have hg4 := Kd.R_set (Kd.R_grown (Kd.R_below hT.out.got hB2.out) hG.out (fun k hk e => (hT.out.inw k (hT.out.wait.1 k e.symm)).2.2 hk)) hb3 (by decide) 6 (Value.slice A1 (t.wait.length + 1) c1)
  have hf4 : Fr S w (w3.setCell ⟨g, 6, none⟩ (Value.slice A1 (t.wait.length + 1) c1)) := ((Fr.of_below hB2.out).trans (Fr.of_grown (S := S) hG.out (fun k hk => (hT.out.inw k (hT.out.wait.1 k hk)).1)) (fun k hk => .inl hk)).trans (Fr.setCell (S := S) w3 hT.out.own _) (fun k hk => .inl hk)
  have hy2 : (w3.setCell ⟨g, 6, none⟩ (Value.slice A1 (t.wait.length + 1) c1)).cell? ⟨g, 2, none⟩ = some (.int .i64 t.said) := blk_cell hb4 2
  have hy2f : (w3.setCell ⟨g, 6, none⟩ (Value.slice A1 (t.wait.length + 1) c1)).frozen? ⟨g, 2, none⟩ = false := blk_frozen hb4 2
  have hb4 := Aside0.mk hb4
  have hO4 := Aside0.mk hO4
  have hg4 := Aside0.mk hg4
  have hf4 := Aside0.mk hf4
  obtain ⟨hs0, hs1⟩ := hs
  clear hb3 hx0 hx6 hx6f
  generalize w3.setCell ⟨g, 6, none⟩ (Value.slice A1 (t.wait.length + 1) c1) = w4 at hb4 hO4 hg4 hf4 hy2 hy2f ⊢
  go_wp2
  go_ret
  refine ⟨fun k => S k ∨ w.heap.size ≤ k, rfl, ⟨fun k => (Sw k ∨ w.heap.size ≤ k) ∧ k ≠ g, Sg, .slice A1 (t.wait.length + 1) c1, vg, ?_⟩, fun k hk => hk, hf4.out.trans (Fr.setCell (S := S) w4 hT.out.own _) (fun k hk => .inl hk)⟩
  have hO5 := hO4.out
  rw [show (t.wait ++ [m]).length = t.wait.length + 1 from by simp] at hO5
  exact ⟨.inl hT.out.own, fun k hk => ⟨hk.1.elim (fun h => .inl (hT.out.inw k h).1) .inr, hk.2, fun hg => hk.1.elim (fun h => (hT.out.inw k h).2.2 hg) (fun h => Nat.lt_irrefl _ (Nat.lt_of_lt_of_le (hLT.out k hg) h))⟩, fun k hk => ⟨.inl (hT.out.ing k hk).1, (hT.out.ing k hk).2⟩, blk_put hb4.out 2 _ rfl,
    Kd.R_far (Kd.R_types hO5 hb4.out (by decide)) (fun k hk => hk.2) _, Kd.R_far hg4.out (fun k hk => (hT.out.ing k hk).2) _⟩
theorem say_ok (g : Nat) (S : Nat → Prop) (t : Tk) (A : Option Addr) (c : Nat) (m : List Int) (w : World) (ht : IsTk w g S t) (hm : Kd.C (Kd.int .u8) w A m.length m) (hc : m.length ≤ c) (hl : m.length ≤ 4096)
    (hf : (t.wait.length : Int) < t.most) (hmost : t.most ≤ 64) (hs : 0 ≤ t.said ∧ t.said < 1000000) :
    Calls Try.prog 22 #[.pointer (some ⟨g, 0, none⟩), .slice A m.length c] w fun e w' => ∃ S' : Nat → Prop, e = .returned (.int .i64 0) ∧ IsTk w' g S' { t with wait := t.wait ++ [m], said := t.said + 1 } ∧ (∀ k, S' k → S k ∨ w.heap.size ≤ k) ∧ Fr S w w' := by
  obtain ⟨Sw, Sg, vw, vg, ht⟩ := ht
  refine (say_ok' g _ _ _ vw vg t A c m w ht.tight hm hc hl hf hmost hs (fun k hk => hk.2)).mono ?_
  rintro e w' ⟨S', he, h1, h2, h3⟩
  exact ⟨S', he, h1, fun k hk => (h2 k hk).imp_left (fun h => h.1), h3.mono (fun k hk => .inl hk.1)⟩
end Go.Proofs.Yteeljnlhgaljaaa
