/- By hand: a packet is heard. (The drawing regions' rows are printed by rwt.py.) -/
import Derived.Test.YteeljnlhgaljaaaH
namespace Go.Proofs.Yteeljnlhgaljaaa
set_option linter.unusedVariables false
set_option linter.unusedSimpArgs false
open Go.RowKit Go.Proofs.YteeljnlhgaljaaaW.PrintWords Go.Proofs.YteeljnlhgaljaaaW.PrintLast Go.Proofs.YteeljnlhgaljaaaW.PrintMore Go.Proofs.Yteeljnlhgaljaaa.P

attribute [local go_sem] max2_int min2_int max_two min_two max_three min_three max_four min_four

/-- What the other end has heard waits no more. -/
def acked (t : Tk) (h : Int) : Tk := if 0 < h - t.done then { t with wait := t.wait.drop (h - t.done).toNat, done := h, gone := if t.gone < h then h else t.gone } else t
/-- What is got. -/
def gotP (t : Tk) (f : Int) (l : List (List Int)) : Tk := if t.heard - f < l.length then { t with got := t.got ++ l.drop (t.heard - f).toNat, heard := f + l.length } else t
def owed (t : Tk) (l : List (List Int)) : Tk := { t with owes := t.owes || decide (0 < l.length) }
theorem delete_int (b cap : Nat) (n : Int) (l : List (List Int)) (ok : Nat → Prop) (w : World) (h : kM.R 34 w 0 ok (.slice (some ⟨b, 0, none⟩) l.length cap) l) (hj0 : 0 < n) (hj : n ≤ (l.length : Int)) :
    Calls Try.prog 38 #[.slice (some ⟨b, 0, none⟩) l.length cap, .int .i64 0, .int .i64 n] w fun e w' => e = .returned (.slice (some ⟨b, 0, none⟩) (l.drop n.toNat).length cap) ∧ kM.R 34 w' 0 ok (.slice (some ⟨b, 0, none⟩) (l.drop n.toNat).length cap) (l.drop n.toNat) ∧ Fr (fun k => k = b) w w' := by
  have := delete_ok b cap n.toNat l ok w h (by omega) (by omega)
  rwa [show ((n.toNat : Nat) : Int) = n from by omega] at this
theorem copied_any (ad : Addr) (n c : Nat) (l : List (List Int)) (w : World) (h : Kd.C kM w (if c = n then some ad else (some ad).map (·.add (n * kM.sz))) (l.drop n).length (l.drop n)) (hn : n < l.length) (hc : l.length ≤ c) (hm : l.any longM = false) (hl : ¬ 64 < l.length) :
    Calls Try.prog 35 #[.slice (some (ad.add n)) (l.length - n) (c - n)] w fun e w' => ∃ v : Value, e = .returned v ∧ kM.R 34 w' w.heap.size (fun _ => True) v (l.drop n) ∧ Below w.heap.size w w' := by
  rw [if_neg (by omega)] at h
  have h2 : Kd.C kM w (some (ad.add n)) (l.drop n).length (l.drop n) := by
    have : (some ad).map (·.add (n * kM.sz)) = some (ad.add n) := by show some (ad.add (n * 1)) = _; rw [Nat.mul_one]
    rwa [this] at h
  have := copied_ok (some (ad.add n)) (c - n) (l.drop n) w h2 (by rw [List.length_drop]; omega) (by rw [List.length_drop]; omega) (fun m hm' => by
    have h3 := List.any_eq_false.1 hm m (List.mem_of_mem_drop hm')
    have : ¬ 4096 < m.length := by simpa [longM] using h3
    omega)
  rwa [List.length_drop] at this
set_option maxRecDepth 100000 in
set_option maxHeartbeats 2000000 in
theorem hear_ok (g : Nat) (S Sw Sg : Nat → Prop) (vw vg : Value) (t : Tk) (f h : Int) (A : Option Addr) (c : Nat) (l : List (List Int)) (w : World) (ht : IsTk' w g S Sw Sg vw vg t) (hSl : ∀ k, S k → k < w.heap.size) (hl : ∀ W, Fr S w W → Kd.C kM W A l.length l) (hc : l.length ≤ c) (hb : badP f h l = false) (hs : h ≤ t.said)
    (hw : (t.wait.length : Int) = t.said - t.done) (hd : 0 ≤ t.done) (hsa : t.said < 1000000) (hge : t.gone ≤ t.said) (hge0 : 0 ≤ t.gone) (hhr : 0 ≤ t.heard ∧ t.heard < 1000000) (hgl : t.got.length < 1000000) :
    Calls Try.prog 20 #[.pointer (some ⟨g, 0, none⟩), .agg #[.int .i64 f, .slice A l.length c, .int .i64 h]] w fun e w' => ∃ S', e = .returned (.int .i64 (if t.heard < f then 20 else 0)) ∧ IsTk w' g S' (if t.heard < f then owed (acked t h) l else gotP (owed (acked t h) l) f l) ∧ (∀ k, S' k → S k ∨ w.heap.size ≤ k) ∧ Fr S w w' := by
  simp only [badP, Bool.or_eq_false_iff] at hb
  obtain ⟨⟨⟨k1, k2⟩, k3'⟩, k4⟩ := hb
  have k3 : decide ((64 : Int) < (l.length : Int)) = false := decide_eq_false (by have := of_decide_eq_false k3'; omega)
  have k5 : decide (t.said < h) = false := decide_eq_false (by omega)
  obtain ⟨B, hB⟩ : ∃ B, B = w.heap.size := ⟨_, rfl⟩
  obtain ⟨w0, hw0⟩ : ∃ w0, w0 = w.alloc (.cells #[.int .i64 f, .slice A l.length c, .int .i64 h] 36) := ⟨_, rfl⟩
  have hb0 : Below w.heap.size w w0 := hw0 ▸ below_alloc (Below.refl _ _) _
  have hbx0 : w0.heap[B]? = some (.cells #[.int .i64 f, .slice A l.length c, .int .i64 h] 36 (0, 0)) := by rw [hw0, hB]; exact blk_new w _
  have ht0 := ht.frame (Fr.of_below (S := fun _ => False) hb0) (fun _ _ h => h)
  have hf0 : Fr S w w0 := Fr.of_below hb0
  have hl0 := hl w0 hf0
  have hLA := Aside0.mk hl
  have x2 : w0.cell? ⟨g, 2, none⟩ = some (.int .i64 t.said) := blk_cell ht0.blk 2
  have x3 : w0.cell? ⟨g, 3, none⟩ = some (.int .i64 t.done) := blk_cell ht0.blk 3
  have y2 : w0.cell? ⟨B, 2, none⟩ = some (.int .i64 h) := blk_cell hbx0 2
  have y1 : w0.cell? ⟨B, 1, none⟩ = some (.slice A l.length c) := blk_cell hbx0 1
  have y0 : w0.cell? ⟨B, 0, none⟩ = some (.int .i64 f) := blk_cell hbx0 0
  have K4 := Aside0.mk k4
  have hT := Aside0.mk ht0
  have hL := Aside0.mk hl0
  have hX := Aside0.mk hbx0
  have hF0 := Aside0.mk hf0
  have hBS := Aside0.mk (fun k (hk : S k) => show k ≠ B by have := hSl k hk; omega)
  have hBw := Aside0.mk (show w.heap.size ≤ B from Nat.le_of_eq hB.symm)
  have hgB := Aside0.mk (hBS.out g ht.own)
  have hW := Aside0.mk hw
  have hD := Aside0.mk hd
  have hSa := Aside0.mk hsa
  have hGe := Aside0.mk hge
  have hGe0 := Aside0.mk hge0
  have hHs := Aside0.mk hs
  have hh0 := Aside0.mk (of_decide_eq_false k2)
  have hC := Aside0.mk hc
  have hHr := Aside0.mk hhr
  have hGL := Aside0.mk hgl
  have hf0' := Aside0.mk (of_decide_eq_false k1)
  have hl64 := Aside0.mk (of_decide_eq_false k3')
  have hLTS := Aside0.mk hSl
  have hws := Aside0.mk hb0.size
  clear hl k4 ht k3' hs ht0 hl0 hbx0 hf0 hSl hw hd hsa hge hge0 hc hhr hgl
  have hHd : IntKind.i64.wrap (h - t.done) = h - t.done := IntWalk.i64_in _ (by have := hD.out; have := hSa.out; have := hHs.out; have := hh0.out; have := hW.out; omega)
  go_enter Try.func20, Try.ntmps20
  go_wp2_with fail
  rw [← hw0, ← hB]
  clear hw0 hB
  refine (containsLong_any l A c _ hL.out).mono ?_
  rintro e w1 ⟨rfl, rfl⟩
  rw [K4.out]
  go_wp2
  go_quiet (fail)
  go_wp2
  go_quiet (fail)
  go_upto_if 48 with fail
  go_cut [] (fun wc => Aside0 (∃ vw', IsTk' wc g S Sw Sg vw' vg (acked t h)) ∧ Aside0 (wc.heap[B]? = some (.cells #[.int .i64 f, .slice A l.length c, .int .i64 h] 36 (0, 0))) ∧ Aside0 (Fr S w0 wc))
  case first =>
    by_cases hn : 0 < h - t.done
    · have hn1 : decide (0 < h - t.done) = true := decide_eq_true hn
      have hn2 : decide (t.done < h) = true := decide_eq_true (by omega)
      have hn3 : t.done < h := by omega
      have hN := Aside0.mk hn
      have hNl := Aside0.mk (show h - t.done ≤ (t.wait.length : Int) by have := hW.out; have := hHs.out; omega)
      obtain ⟨b, cap, rfl, -, hblt, -⟩ := Kd.R_form hT.out.wait (by have := hNl.out; omega)
      have hbS := hT.out.wait.1 b rfl
      have hbg := Aside0.mk (hT.out.inw b hbS).2.1
      have hbB := Aside0.mk (hBS.out b (hT.out.inw b hbS).1)
      have hbSS := Aside0.mk (hT.out.inw b hbS).1
      have hbG := Aside0.mk (hT.out.inw b hbS).2.2
      have x6 : w0.cell? ⟨g, 6, none⟩ = some (.slice (some ⟨b, 0, none⟩) t.wait.length cap) := blk_cell hT.out.blk 6
      clear hn hbS hblt
      go_wp2_with fail
      refine (delete_int b cap (h - t.done) t.wait Sw _ (Kd.R_drewN hT.out.wait _) hN.out hNl.out).mono ?_
      rintro e w2 ⟨rfl, hv, hfr⟩
      have hV := Aside0.mk hv
      have hF2 : Aside0 (Fr S w0 w2) := Aside0.mk ⟨hfr.os, hfr.tape, hfr.output, hfr.size, fun k hk hn => hfr.block k hk (fun e => hn (e ▸ hbSS.out))⟩
      have hg2 : Aside0 (w2.heap[g]? = some (.cells (tkCells t (.slice (some ⟨b, 0, none⟩) t.wait.length cap) vg) 82 (0, 0))) := Aside0.mk ((hfr.block g (blk_lt hT.out.blk) (Ne.symm hbg.out)).trans hT.out.blk)
      have hx2 : Aside0 (w2.heap[B]? = some (.cells #[.int .i64 f, .slice A l.length c, .int .i64 h] 36 (0, 0))) := Aside0.mk ((hfr.block B (blk_lt hX.out) (Ne.symm hbB.out)).trans hX.out)
      have hGG : Aside0 (kM.R 34 w2 0 Sg vg t.got) := Aside0.mk (Kd.R_step hT.out.got (fun k hk hlt => hfr.block k hlt (fun e => hbG.out (e ▸ hk))))
      have z6 : w2.cell? ⟨g, 6, none⟩ = some (.slice (some ⟨b, 0, none⟩) t.wait.length cap) := blk_cell hg2.out 6
      have z6f : w2.frozen? ⟨g, 6, none⟩ = false := blk_frozen hg2.out 6
      have z3 : w2.cell? ⟨g, 3, none⟩ = some (.int .i64 t.done) := blk_cell hg2.out 3
      have z3f : w2.frozen? ⟨g, 3, none⟩ = false := blk_frozen hg2.out 3
      have zB : w2.cell? ⟨B, 2, none⟩ = some (.int .i64 h) := blk_cell hx2.out 2
      have hne : g ≠ B := hgB.out
      have hne' : B ≠ g := Ne.symm hgB.out
      clear hv hfr x2 x3 x6 y0 y1 y2
      go_wp2
      have hg3 := blk_put (blk_put hg2.out 6 (.slice (some ⟨b, 0, none⟩) (t.wait.length - (h - t.done).toNat) cap) rfl) 3 (.int .i64 h) rfl
      have hx3 := blk_far (blk_far hx2.out (p := ⟨g, 6, none⟩) hne' (.slice (some ⟨b, 0, none⟩) (t.wait.length - (h - t.done).toNat) cap)) (p := ⟨g, 3, none⟩) hne' (.int .i64 h)
      have hF3 : Fr S w0 ((w2.setCell ⟨g, 6, none⟩ (.slice (some ⟨b, 0, none⟩) (t.wait.length - (h - t.done).toNat) cap)).setCell ⟨g, 3, none⟩ (.int .i64 h)) := (hF2.out.trans (Fr.setCell (S := S) _ hT.out.own _) (fun k h => .inl h)).trans (Fr.setCell (S := S) _ hT.out.own _) (fun k h => .inl h)
      have hV3 := Kd.R_far (Kd.R_far hV.out (p := ⟨g, 6, none⟩) (fun k h => (hT.out.inw k h).2.1) (.slice (some ⟨b, 0, none⟩) (t.wait.length - (h - t.done).toNat) cap)) (p := ⟨g, 3, none⟩) (fun k h => (hT.out.inw k h).2.1) (.int .i64 h)
      have hG3 := Kd.R_far (Kd.R_far hGG.out (p := ⟨g, 6, none⟩) (fun k h => (hT.out.ing k h).2) (.slice (some ⟨b, 0, none⟩) (t.wait.length - (h - t.done).toNat) cap)) (p := ⟨g, 3, none⟩) (fun k h => (hT.out.ing k h).2) (.int .i64 h)
      rw [List.length_drop] at hV3
      have hg3 := Aside0.mk hg3
      have hx3 := Aside0.mk hx3
      have hF3 := Aside0.mk hF3
      have hV3 := Aside0.mk hV3
      have hG3 := Aside0.mk hG3
      clear z6 z6f z3 z3f zB
      generalize (w2.setCell ⟨g, 6, none⟩ (.slice (some ⟨b, 0, none⟩) (t.wait.length - (h - t.done).toNat) cap)).setCell ⟨g, 3, none⟩ (.int .i64 h) = w3 at hg3 hx3 hF3 hV3 hG3 ⊢
      have u4f : w3.frozen? ⟨g, 4, none⟩ = false := blk_frozen hg3.out 4
      have u4 : w3.cell? ⟨g, 4, none⟩ = some (.int .i64 t.gone) := blk_cell hg3.out 4
      have hAck := Aside0.mk (show acked t h = { t with wait := t.wait.drop (h - t.done).toNat, done := h, gone := if t.gone < h then h else t.gone } from if_pos hN.out)
      by_cases hmx : t.gone < h
      all_goals
        refine start_ (n := 16) (S := fun w' => w'.cell? ⟨g, 4, none⟩ = some (.int .i64 t.gone) ∧ w'.cell? ⟨g, 3, none⟩ = some (.int .i64 h)) (ds := [15]) #[false, false, false, false, false, false, false, false, false, false, false, false, false, false, false, false] (by kernel_rfl) rfl rfl ⟨blk_cell hg3.out 4, blk_cell hg3.out 3⟩ (fun hHeld => ?_)
        refine pure_ (i := 0) (N := some 64) (v := ?_) (a' := ?_) #[true, false, false, false, false, false, false, false, false, false, false, false, false, false, false, false] rfl rfl (by kernel_rfl) (fun _ _ _ h => h) (Or.inl ⟨by rfl, ?_⟩) ?_ ?_
        rotate_left
        · intro w'
          go_simp
          with_reducible rfl
        rotate_left
        · simp only [Act.put, List.setIfInBounds_toArray, List.set_cons_zero, List.set_cons_succ, i64_w, i32_w]
          rfl
        refine pure_ (i := 1) (N := some 65) (v := ?_) (a' := ?_) #[true, true, false, false, false, false, false, false, false, false, false, false, false, false, false, false] rfl rfl (by kernel_rfl) (fun _ _ _ h => h) (Or.inl ⟨by rfl, ?_⟩) ?_ ?_
        rotate_left
        · intro w'
          go_simp
          with_reducible rfl
        rotate_left
        · simp only [Act.put, List.setIfInBounds_toArray, List.set_cons_zero, List.set_cons_succ, i64_w, i32_w]
          rfl
        refine pure_ (i := 2) (N := some 66) (v := ?_) (a' := ?_) #[true, true, true, false, false, false, false, false, false, false, false, false, false, false, false, false] rfl rfl (by kernel_rfl) (fun _ _ _ h => h) (Or.inl ⟨by rfl, ?_⟩) ?_ ?_
        rotate_left
        · intro w'
          go_simp
          with_reducible rfl
        rotate_left
        · simp only [Act.put, List.setIfInBounds_toArray, List.set_cons_zero, List.set_cons_succ, i64_w, i32_w]
          rfl
        refine pure_ (i := 3) (N := some 67) (v := ?_) (a' := ?_) #[true, true, true, true, false, false, false, false, false, false, false, false, false, false, false, false] rfl rfl (by kernel_rfl) (fun _ _ _ h => h) (Or.inl ⟨by rfl, ?_⟩) ?_ ?_
        rotate_left
        · intro w'
          go_simp
          with_reducible rfl
        rotate_left
        · simp only [Act.put, List.setIfInBounds_toArray, List.set_cons_zero, List.set_cons_succ, i64_w, i32_w]
          rfl
        refine pure_ (i := 4) (N := some 68) (v := ?_) (a' := ?_) #[true, true, true, true, true, false, false, false, false, false, false, false, false, false, false, false] rfl rfl (by kernel_rfl) (fun _ _ _ h => h) (Or.inl ⟨by rfl, ?_⟩) ?_ ?_
        rotate_left
        · intro w'
          go_simp
          with_reducible rfl
        rotate_left
        · simp only [Act.put, List.setIfInBounds_toArray, List.set_cons_zero, List.set_cons_succ, i64_w, i32_w]
          rfl
        refine pure_ (i := 6) (N := some 70) (v := ?_) (a' := ?_) #[true, true, true, true, true, false, true, false, false, false, false, false, false, false, false, false] rfl rfl (by kernel_rfl) (fun _ _ _ h => h) (Or.inl ⟨by rfl, ?_⟩) ?_ ?_
        rotate_left
        · intro w'
          go_simp
          with_reducible rfl
        rotate_left
        · simp only [Act.put, List.setIfInBounds_toArray, List.set_cons_zero, List.set_cons_succ, i64_w, i32_w]
          rfl
        refine pure_ (i := 7) (N := some 71) (v := ?_) (a' := ?_) #[true, true, true, true, true, false, true, true, false, false, false, false, false, false, false, false] rfl rfl (by kernel_rfl) (fun _ _ _ h => h) (Or.inl ⟨by rfl, ?_⟩) ?_ ?_
        rotate_left
        · intro w'
          go_simp
          with_reducible rfl
        rotate_left
        · simp only [Act.put, List.setIfInBounds_toArray, List.set_cons_zero, List.set_cons_succ, i64_w, i32_w]
          rfl
        refine pure_ (i := 8) (N := some 72) (v := ?_) (a' := ?_) #[true, true, true, true, true, false, true, true, true, false, false, false, false, false, false, false] rfl rfl (by kernel_rfl) (fun _ _ _ h => h) (Or.inl ⟨by rfl, ?_⟩) ?_ ?_
        rotate_left
        · intro w'
          go_simp
          with_reducible rfl
        rotate_left
        · simp only [Act.put, List.setIfInBounds_toArray, List.set_cons_zero, List.set_cons_succ, i64_w, i32_w]
          rfl
        refine pure_ (i := 9) (N := some 73) (v := ?_) (a' := ?_) #[true, true, true, true, true, false, true, true, true, true, false, false, false, false, false, false] rfl rfl (by kernel_rfl) (fun _ _ _ h => h) (Or.inl ⟨by rfl, ?_⟩) ?_ ?_
        rotate_left
        · intro w'
          go_simp
          with_reducible rfl
        rotate_left
        · simp only [Act.put, List.setIfInBounds_toArray, List.set_cons_zero, List.set_cons_succ, i64_w, i32_w]
          rfl
        refine take_ (i := 5) (N := some 69) (v := ?_) (a' := ?_) #[true, true, true, true, true, true, true, true, true, true, false, false, false, false, false, false] rfl rfl (by kernel_rfl) (fun _ _ _ h => h) (Or.inl ⟨by rfl, ?_⟩) hHeld ?_ ?_
        rotate_left
        · rintro w' ⟨s0, s1⟩
          go_simp
          with_reducible rfl
        rotate_left
        · simp only [Act.put, List.setIfInBounds_toArray, List.set_cons_zero, List.set_cons_succ, i64_w, i32_w]
          rfl
        refine take_ (i := 10) (N := some 74) (v := ?_) (a' := ?_) #[true, true, true, true, true, true, true, true, true, true, true, false, false, false, false, false] rfl rfl (by kernel_rfl) (fun _ _ _ h => h) (Or.inl ⟨by rfl, ?_⟩) hHeld ?_ ?_
        rotate_left
        · rintro w' ⟨s0, s1⟩
          go_simp
          with_reducible rfl
        rotate_left
        · simp only [Act.put, List.setIfInBounds_toArray, List.set_cons_zero, List.set_cons_succ, i64_w, i32_w]
          rfl
        refine pure_ (i := 11) (N := some 75) (v := ?_) (a' := ?_) #[true, true, true, true, true, true, true, true, true, true, true, true, false, false, false, false] rfl rfl (by kernel_rfl) (fun _ _ _ h => h) (Or.inl ⟨by rfl, ?_⟩) ?_ ?_
        rotate_left
        · intro w'
          go_simp
          with_reducible rfl
        rotate_left
        · simp only [Act.put, List.setIfInBounds_toArray, List.set_cons_zero, List.set_cons_succ, i64_w, i32_w]
          rfl
        refine pure_ (i := 12) (N := some 76) (v := ?_) (a' := ?_) #[true, true, true, true, true, true, true, true, true, true, true, true, true, false, false, false] rfl rfl (by kernel_rfl) (fun _ _ _ h => h) (Or.inl ⟨by rfl, ?_⟩) ?_ ?_
        rotate_left
        · intro w'
          go_simp
          with_reducible rfl
        rotate_left
        · simp only [Act.put, List.setIfInBounds_toArray, List.set_cons_zero, List.set_cons_succ, i64_w, i32_w]
          rfl
        refine pure_ (i := 13) (N := some 77) (v := ?_) (a' := ?_) #[true, true, true, true, true, true, true, true, true, true, true, true, true, true, false, false] rfl rfl (by kernel_rfl) (fun _ _ _ h => h) (Or.inl ⟨by rfl, ?_⟩) ?_ ?_
        rotate_left
        · intro w'
          go_simp
          with_reducible rfl
        rotate_left
        · simp only [Act.put, List.setIfInBounds_toArray, List.set_cons_zero, List.set_cons_succ, i64_w, i32_w]
          rfl
        refine pure_ (i := 14) (N := some 78) (v := ?_) (a' := ?_) #[true, true, true, true, true, true, true, true, true, true, true, true, true, true, true, false] rfl rfl (by kernel_rfl) (fun _ _ _ h => h) (Or.inl ⟨by rfl, ?_⟩) ?_ ?_
        rotate_left
        · intro w'
          go_simp
          with_reducible rfl
        rotate_left
        · simp only [Act.put, List.setIfInBounds_toArray, List.set_cons_zero, List.set_cons_succ, i64_w, i32_w]
          rfl
        refine last_ (i := 15) (N := none) #[true, true, true, true, true, true, true, true, true, true, true, true, true, true, true, true] rfl rfl (by kernel_rfl) (by decide) (fun K hK => ?_)
        refine skip_ (w1 := ?_) (by rfl) rfl ?_ ?_
        rotate_left
        · go_simp
          rfl
        refine hK.out _ _ ?_
        clear hK K
        refine done_ (by kernel_rfl) ?_
        go_wp2
        go_meet
        refine ⟨⟨.slice (some ⟨b, 0, none⟩) (t.wait.length - (h - t.done).toNat) cap, ?_⟩, ⟨blk_far hx3.out (p := ⟨g, 4, none⟩) hne' _⟩, ⟨(hF3.out.trans (Fr.setCell (S := S) _ hT.out.own _) (fun k h => .inl h)).trans (Fr.drew (S := S) _) (fun k h => .inl h)⟩⟩
        rw [hAck.out]
        refine ⟨hT.out.own, hT.out.inw, hT.out.ing, ?_, Kd.R_far hV3.out (p := ⟨g, 4, none⟩) (fun k h => (hT.out.inw k h).2.1) _, Kd.R_far hG3.out (p := ⟨g, 4, none⟩) (fun k h => (hT.out.ing k h).2) _⟩
        first | rw [if_pos hmx] | rw [if_neg (Int.not_lt.2 hmx)]
        exact blk_put hg3.out 4 _ rfl
    · have hn1 : decide (0 < h - t.done) = false := decide_eq_false hn
      have hn2 : decide (t.done < h) = false := decide_eq_false (by omega)
      have hn3 : ¬ t.done < h := by omega
      have hn4 : h ≤ t.done := by omega
      have hA := Aside0.mk (show acked t h = t from if_neg hn)
      go_wp2
      go_meet
      refine ⟨⟨vw, ?_⟩, ⟨hX.out⟩, ⟨Fr.of_below (pw_below_drewN (Below.refl _ _) _)⟩⟩
      rw [hA.out]
      exact hT.out.frame (S' := fun _ => False) (Fr.of_below (pw_below_drewN (Below.refl _ _) _)) (fun _ _ h => h)
  case rest =>
    obtain ⟨hcT, hcX, hcF⟩ := hcut
    obtain ⟨vw', hT1⟩ := hcT.out
    have hT1 := Aside0.mk hT1
    obtain ⟨t1, ht1⟩ : ∃ t1, t1 = acked t h := ⟨_, rfl⟩
    rw [← ht1] at hT1
    have HT1 := Aside0.mk ht1
    have hhe : t1.heard = t.heard := by rw [ht1]; unfold acked; split <;> rfl
    have hgo : t1.got = t.got := by rw [ht1]; unfold acked; split <;> rfl
    have HHE := Aside0.mk hhe
    have HGO := Aside0.mk hgo
    clear ht1 hcT hhe x2 x3 y0 y1 y2 hHd k1 k2 k3 k5
    have hne : g ≠ B := hgB.out
    have hne' : B ≠ g := Ne.symm hgB.out
    go_upto_region 12 with fail
    go_cut [] (fun wd => Aside0 (IsTk' wd g S Sw Sg vw' vg (owed t1 l)) ∧ Aside0 (wd.heap[B]? = some (.cells #[.int .i64 f, .slice A l.length c, .int .i64 h] 36 (0, 0))) ∧ Aside0 (Fr S w0 wd))
    case first =>
      have v10 : wc.cell? ⟨g, 10, none⟩ = some (.bool t1.owes) := blk_cell hT1.out.blk 10
      have v10f : wc.frozen? ⟨g, 10, none⟩ = false := blk_frozen hT1.out.blk 10
      have vB : wc.cell? ⟨B, 1, none⟩ = some (.slice A l.length c) := blk_cell hcX.out 1
      have hfin : ∀ x : Bool, x = (t1.owes || decide (0 < l.length)) → Aside0 (IsTk' (wc.setCell ⟨g, 10, none⟩ (.bool x)) g S Sw Sg vw' vg (owed t1 l)) ∧ Aside0 ((wc.setCell ⟨g, 10, none⟩ (.bool x)).heap[B]? = some (.cells #[.int .i64 f, .slice A l.length c, .int .i64 h] 36 (0, 0))) ∧ Aside0 (Fr S w0 (wc.setCell ⟨g, 10, none⟩ (.bool x))) := by
        rintro x rfl
        exact ⟨⟨hT1.out.own, hT1.out.inw, hT1.out.ing, blk_put hT1.out.blk 10 _ rfl, Kd.R_far hT1.out.wait (fun k h => (hT1.out.inw k h).2.1) _, Kd.R_far hT1.out.got (fun k h => (hT1.out.ing k h).2) _⟩, ⟨blk_far hcX.out hne' _⟩, ⟨hcF.out.trans (Fr.setCell (S := S) _ hT1.out.own _) (fun k h => .inl h)⟩⟩
      have hFin := Aside0.mk hfin
      clear hfin
      cases ho : t1.owes
      · rw [ho] at v10
        have HO := Aside0.mk ho
        clear ho
        go_wp2
        go_meet
        exact hFin.out _ (by rw [HO.out]; simp)
      · rw [ho] at v10
        have HO := Aside0.mk ho
        clear ho
        go_wp2
        go_meet
        exact hFin.out _ (by rw [HO.out]; simp)
    case rest =>
      obtain ⟨hT2, hX2, hF2⟩ := hcut
      have hF2w := Aside0.mk (hF0.out.trans hF2.out (fun k h => .inl h))
      have hcw := Aside0.mk (hLA.out _ hF2w.out)
      have v5 : wc.cell? ⟨g, 5, none⟩ = some (.int .i64 t.heard) := (blk_cell hT2.out.blk 5).trans (by show some (Value.int .i64 t1.heard) = _; rw [HHE.out])
      have vB0 : wc.cell? ⟨B, 0, none⟩ = some (.int .i64 f) := blk_cell hX2.out 0
      have vB1 : wc.cell? ⟨B, 1, none⟩ = some (.slice A l.length c) := blk_cell hX2.out 1
      by_cases he : t.heard < f
      · have he1 : decide (t.heard < f) = true := decide_eq_true he
        go_wp2
        go_quiet (fail)
        go_wp2
        go_ret
        rw [← HT1.out]
        exact ⟨rfl, S, ⟨Sw, Sg, vw', vg, hT2.out.frame (S' := fun _ => False) (Fr.of_below (pw_below_drewN (Below.refl _ _) _)) (fun _ _ h => h)⟩, fun k h => .inl h, hF2w.out.trans (Fr.drewN (S := S) _ _) (fun k h => .inl h)⟩
      · have he1 : decide (t.heard < f) = false := decide_eq_false he
        have hfb : f < 1000000 := by have := hHr.out.2; omega
        have hfw : IntKind.i64.wrap (t.heard - f) = t.heard - f := IntWalk.i64_in _ (by have := hHr.out.1; have := hHr.out.2; have := hf0'.out; omega)
        have HE := Aside0.mk (Int.not_lt.1 he)
        have he2 : f ≤ t.heard := Int.not_lt.1 he
        by_cases hn : t.heard - f < l.length
        · have hn1 : decide (t.heard - f < (l.length : Int)) = true := decide_eq_true hn
          go_wp2
          go_quiet (fail)
          go_wp2
          go_quiet (fail)
          go_wp2
          obtain ⟨n, hnn⟩ : ∃ n : Nat, n = (t.heard - f).toNat := ⟨_, rfl⟩
          have hnI : t.heard - f = (n : Int) := by have := HE.out; omega
          have hnl : n < l.length := by omega
          obtain ⟨Ag, cg, rfl, -, -⟩ := Kd.R_reads hT2.out.got
          obtain ⟨ad, -, -, rfl, -, -, -⟩ := at_L1 hcw.out (n : Int) (by omega) (by omega)
          have hcn : ¬ (c = n) := by have := hC.out; omega
          have hCD := Aside0.mk (Kd.C_drop hcw.out (Nat.le_of_lt hnl) hC.out)
          have u7 : wc.cell? ⟨g, 7, none⟩ = some (.slice Ag t.got.length cg) := (blk_cell hT2.out.blk 7).trans (by show some (Value.slice Ag t1.got.length cg) = _; rw [HGO.out])
          have u7f : wc.frozen? ⟨g, 7, none⟩ = false := blk_frozen hT2.out.blk 7
          rw [hnI]
          have hNI := Aside0.mk hnI
          have hNL := Aside0.mk hnl
          clear hn hnn hnI hn1 he he1 he2
          generalize hWW : wc.drewN _ = wE
          have hbE : Below wc.heap.size wc wE := hWW ▸ pw_below_drewN (Below.refl _ _) _
          have hTE := Aside0.mk (hT2.out.frame (S' := fun _ => False) (Fr.of_below hbE) (fun _ _ h => h))
          have hGE : Aside0 (kM.R 34 wE 0 Sg (.slice Ag t.got.length cg) t.got) := Aside0.mk (by have := hTE.out.got; rw [show (owed t1 l).got = t.got from HGO.out] at this; exact this)
          have hXE := Aside0.mk (blk_below hX2.out hbE)
          have hFE := Aside0.mk (hF2w.out.trans (Fr.of_below (S := S) hbE) (fun k h => .inl h))
          have hCE := Aside0.mk (Kd.C_below hCD.out (below_drew hbE))
          clear hWW hbE v5 vB0 vB1 u7 u7f
          have hSgl := Aside0.mk (fun k (hk : Sg k) => hLTS.out k (hTE.out.ing k hk).1)
          have hnk0 : (0 : Int) ≤ (n : Int) := by omega
          have hnk1 : (n : Int) ≤ (l.length : Int) := by have := hNL.out; omega
          have hnk2 : (l.length : Int) ≤ (c : Int) := by have := hC.out; omega
          refine start_ (n := 14) (S := fun w' => w'.cell? ⟨g, 7, none⟩ = some (.slice Ag t.got.length cg) ∧ w'.cell? ⟨B, 1, none⟩ = some (.slice (some ad) l.length c)) (ds := [13]) #[false, false, false, false, false, false, false, false, false, false, false, false, false, false] (by kernel_rfl) rfl rfl ⟨(blk_cell hTE.out.blk 7).trans (by show some (Value.slice Ag t1.got.length cg) = _; rw [HGO.out]), blk_cell hXE.out 1⟩ (fun hHeld => ?_)
          refine pure_ (i := 0) (N := some 113) (v := ?_) (a' := ?_) #[true, false, false, false, false, false, false, false, false, false, false, false, false, false] rfl rfl (by kernel_rfl) (fun _ _ _ h => h) (Or.inl ⟨by rfl, ?_⟩) ?_ ?_
          rotate_left
          · intro w'
            go_simp
            with_reducible rfl
          rotate_left
          · simp only [Act.put, List.setIfInBounds_toArray, List.set_cons_zero, List.set_cons_succ, i64_w, i32_w]
            rfl
          refine pure_ (i := 1) (N := some 114) (v := ?_) (a' := ?_) #[true, true, false, false, false, false, false, false, false, false, false, false, false, false] rfl rfl (by kernel_rfl) (fun _ _ _ h => h) (Or.inl ⟨by rfl, ?_⟩) ?_ ?_
          rotate_left
          · intro w'
            go_simp
            with_reducible rfl
          rotate_left
          · simp only [Act.put, List.setIfInBounds_toArray, List.set_cons_zero, List.set_cons_succ, i64_w, i32_w]
            rfl
          refine pure_ (i := 2) (N := some 115) (v := ?_) (a' := ?_) #[true, true, true, false, false, false, false, false, false, false, false, false, false, false] rfl rfl (by kernel_rfl) (fun _ _ _ h => h) (Or.inl ⟨by rfl, ?_⟩) ?_ ?_
          rotate_left
          · intro w'
            go_simp
            with_reducible rfl
          rotate_left
          · simp only [Act.put, List.setIfInBounds_toArray, List.set_cons_zero, List.set_cons_succ, i64_w, i32_w]
            rfl
          refine pure_ (i := 3) (N := some 116) (v := ?_) (a' := ?_) #[true, true, true, true, false, false, false, false, false, false, false, false, false, false] rfl rfl (by kernel_rfl) (fun _ _ _ h => h) (Or.inl ⟨by rfl, ?_⟩) ?_ ?_
          rotate_left
          · intro w'
            go_simp
            with_reducible rfl
          rotate_left
          · simp only [Act.put, List.setIfInBounds_toArray, List.set_cons_zero, List.set_cons_succ, i64_w, i32_w]
            rfl
          refine pure_ (i := 5) (N := some 118) (v := ?_) (a' := ?_) #[true, true, true, true, false, true, false, false, false, false, false, false, false, false] rfl rfl (by kernel_rfl) (fun _ _ _ h => h) (Or.inl ⟨by rfl, ?_⟩) ?_ ?_
          rotate_left
          · intro w'
            go_simp
            with_reducible rfl
          rotate_left
          · simp only [Act.put, List.setIfInBounds_toArray, List.set_cons_zero, List.set_cons_succ, i64_w, i32_w]
            rfl
          refine pure_ (i := 7) (N := some 120) (v := ?_) (a' := ?_) #[true, true, true, true, false, true, false, true, false, false, false, false, false, false] rfl rfl (by kernel_rfl) (fun _ _ _ h => h) (Or.inl ⟨by rfl, ?_⟩) ?_ ?_
          rotate_left
          · intro w'
            go_simp
            with_reducible rfl
          rotate_left
          · simp only [Act.put, List.setIfInBounds_toArray, List.set_cons_zero, List.set_cons_succ, i64_w, i32_w]
            rfl
          refine take_ (i := 4) (N := some 117) (v := ?_) (a' := ?_) #[true, true, true, true, true, true, false, true, false, false, false, false, false, false] rfl rfl (by kernel_rfl) (fun _ _ _ h => h) (Or.inl ⟨by rfl, ?_⟩) hHeld ?_ ?_
          rotate_left
          · rintro w' ⟨s0, s1⟩
            go_simp
            with_reducible rfl
          rotate_left
          · simp only [Act.put, List.setIfInBounds_toArray, List.set_cons_zero, List.set_cons_succ, i64_w, i32_w]
            rfl
          refine take_ (i := 6) (N := some 119) (v := ?_) (a' := ?_) #[true, true, true, true, true, true, true, true, false, false, false, false, false, false] rfl rfl (by kernel_rfl) (fun _ _ _ h => h) (Or.inl ⟨by rfl, ?_⟩) hHeld ?_ ?_
          rotate_left
          · rintro w' ⟨s0, s1⟩
            go_simp
            with_reducible rfl
          rotate_left
          · simp only [Act.put, List.setIfInBounds_toArray, List.set_cons_zero, List.set_cons_succ, i64_w, i32_w]
            rfl
          refine pure_ (i := 8) (N := some 121) (v := ?_) (a' := ?_) #[true, true, true, true, true, true, true, true, true, false, false, false, false, false] rfl rfl (by kernel_rfl) (fun _ _ _ h => h) (Or.inl ⟨by rfl, ?_⟩) ?_ ?_
          rotate_left
          · intro w'
            go_simp
            with_reducible rfl
          rotate_left
          · simp only [Act.put, List.setIfInBounds_toArray, List.set_cons_zero, List.set_cons_succ, i64_w, i32_w]
            rfl
          refine one_ (i := 9) (N := some 122) #[true, true, true, true, true, true, true, true, true, true, false, false, false, false] rfl rfl (by kernel_rfl) (by decide) (fun K hK => ?_)
          refine goes_ Try.func35 (by kernel_rfl) rfl #[.slice (some (ad.add n)) (l.length - n) (c - n)] (by rfl) rfl rfl (by simp only [List.map_toArray, List.map_cons, List.map_nil]; rfl) ?_
          with_reducible refine (copied_any ad n c l _ hCE.out hNL.out hC.out K4.out hl64.out).mono ?_
          rintro e w3 ⟨v0, rfl, hv, hb⟩
          refine ⟨_, rfl, ?_⟩
          have hV := Aside0.mk (Kd.R_lower (Kd.R_mono (Kd.R_bound hv) (fun k hk => Nat.le_trans hFE.out.size hk.2.1)) (Nat.zero_le _))
          have hb3 : Aside0 (Below wE.heap.size wE w3) := Aside0.mk (below_then (below_drew (Below.refl _ _)) (Nat.le_refl _) hb)
          clear hv hb
          obtain ⟨Av, cv, rfl, -, hrow⟩ := hV.out.2.reads
          have hRow := Aside0.mk hrow
          clear hrow
          refine hK.out _ _ ⟨(blk_cell (blk_below hTE.out.blk hb3.out) 7).trans (by show some (Value.slice Ag t1.got.length cg) = _; rw [HGO.out]), blk_cell (blk_below hXE.out hb3.out) 1⟩ (fun hHeld => ?_)
          clear hK K
          refine norm_ (a' := ?_) ?_ ?_
          rotate_left
          · show Act.put _ (some 122) _ = _
            simp only [Act.put, List.setIfInBounds_toArray, List.set_cons_zero, List.set_cons_succ, i64_w, i32_w]
            rfl
          refine one_ (i := 10) (N := some 123) #[true, true, true, true, true, true, true, true, true, true, true, false, false, false] rfl rfl (by kernel_rfl) (by decide) (fun K hK => ?_)
          refine Kd.R_append_rows_step kM (w0 := wE) 0 (by rfl) (.tmp 117) (.tmp 122) 25 34 (.slice none 0 0) 24 (by rfl) Try.underlying25 info34' rfl (by decide) (by omega) (.slice Ag t.got.length cg) t.got (l.drop n) Av (l.drop n).length cv (fun k => Sg k ∨ w.heap.size ≤ k) _ (by rfl) (by rfl) (Kd.R_mono (Kd.R_below hGE.out hb3.out) (fun _ h => .inl h)) hRow.out (fun _ _ h => h) (fun k hk => ⟨.inr hk.1, fun e => by have := hSgl.out k (hGE.out.1 k e.symm); have := hk.1; omega⟩) (fun k hk => .inr (Nat.le_trans hFE.out.size (Nat.le_trans hb3.out.size hk))) ⟨hb3.out.os, hb3.out.tape, hb3.out.output, hb3.out.size, fun k hk => by omega⟩ (Nat.zero_le _) (by have := hGL.out; have := hl64.out; rw [List.length_drop]; omega) ?_
          intro v1 w4 ho hb1 hg hat
          obtain ⟨A1, c1, rfl⟩ := Kd.R_slice ho
          have hO := Aside0.mk ho
          have hGr := Aside0.mk hg
          clear ho hb1 hg hat
          have hB4 := Aside0.mk (blk_grown (blk_below hTE.out.blk hb3.out) hGr.out (Kd.R_away hGE.out (fun k hk => (hTE.out.ing k hk).2)))
          have q7f : w4.frozen? ⟨g, 7, none⟩ = false := blk_frozen hB4.out 7
          have q7 : w4.cell? ⟨g, 7, none⟩ = some (.slice Ag t1.got.length cg) := blk_cell hB4.out 7
          refine hK.out _ _ ⟨(blk_cell hB4.out 7).trans (by show some (Value.slice Ag t1.got.length cg) = _; rw [HGO.out]), blk_cell (blk_grown (blk_below hXE.out hb3.out) hGr.out (Kd.R_away hGE.out (fun k hk => hBS.out k (hTE.out.ing k hk).1))) 1⟩ (fun hHeld => ?_)
          clear hK K
          refine norm_ (a' := ?_) ?_ ?_
          rotate_left
          · show Act.put _ (some 123) _ = _
            simp only [Act.put, List.setIfInBounds_toArray, List.set_cons_zero, List.set_cons_succ, i64_w, i32_w]
            rfl
          refine pure_ (i := 11) (N := some 124) (v := ?_) (a' := ?_) #[true, true, true, true, true, true, true, true, true, true, true, true, false, false] rfl rfl (by kernel_rfl) (fun _ _ _ h => h) (Or.inl ⟨by rfl, ?_⟩) ?_ ?_
          rotate_left
          · intro w'
            go_simp
            with_reducible rfl
          rotate_left
          · simp only [Act.put, List.setIfInBounds_toArray, List.set_cons_zero, List.set_cons_succ, i64_w, i32_w]
            rfl
          refine pure_ (i := 12) (N := some 125) (v := ?_) (a' := ?_) #[true, true, true, true, true, true, true, true, true, true, true, true, true, false] rfl rfl (by kernel_rfl) (fun _ _ _ h => h) (Or.inl ⟨by rfl, ?_⟩) ?_ ?_
          rotate_left
          · intro w'
            go_simp
            with_reducible rfl
          rotate_left
          · simp only [Act.put, List.setIfInBounds_toArray, List.set_cons_zero, List.set_cons_succ, i64_w, i32_w]
            rfl
          refine last_ (i := 13) (N := none) #[true, true, true, true, true, true, true, true, true, true, true, true, true, true] rfl rfl (by kernel_rfl) (by decide) (fun K hK => ?_)
          refine skip_ (w1 := ?_) (by rfl) rfl ?_ ?_
          rotate_left
          · go_simp
            rfl
          refine hK.out _ _ ?_
          clear hK K
          refine done_ (by kernel_rfl) ?_
          have hX4 := blk_grown (blk_below hXE.out hb3.out) hGr.out (Kd.R_away hGE.out (fun k hk => hBS.out k (hTE.out.ing k hk).1))
          have hO' := hO.out
          rw [show (t.got ++ l.drop n).length = t.got.length + (l.length - n) by rw [List.length_append, List.length_drop]] at hO'
          have hg5 := Aside0.mk (blk_put hB4.out 7 (Value.slice A1 (t.got.length + (l.length - n)) c1) rfl)
          have hX5 := Aside0.mk (blk_far hX4 (p := ⟨g, 7, none⟩) hne' (Value.slice A1 (t.got.length + (l.length - n)) c1))
          have hW5 := Aside0.mk (Kd.R_far (p := ⟨g, 7, none⟩) (Kd.R_grown (Kd.R_below hTE.out.wait hb3.out) hGr.out (fun k hk e => (hTE.out.inw k hk).2.2 (hGE.out.1 k e.symm))) (fun k h => (hTE.out.inw k h).2.1) (Value.slice A1 (t.got.length + (l.length - n)) c1))
          have hO5 := Aside0.mk (Kd.R_far (p := ⟨g, 7, none⟩) (Kd.R_types hO' hB4.out (by decide)) (fun k h => h.2) (Value.slice A1 (t.got.length + (l.length - n)) c1))
          have hF5 : Aside0 (Fr S w (w4.setCell ⟨g, 7, none⟩ (Value.slice A1 (t.got.length + (l.length - n)) c1))) := Aside0.mk (((hFE.out.trans (Fr.of_below (S := S) hb3.out) (fun k h => .inl h)).trans (Fr.of_grown (S := S) hGr.out (fun k hk => (hTE.out.ing k (hGE.out.1 k hk)).1)) (fun k h => .inl h)).trans (Fr.setCell (S := S) _ hTE.out.own _) (fun k h => .inl h))
          clear hX4 hO' q7 q7f
          generalize w4.setCell ⟨g, 7, none⟩ (Value.slice A1 (t.got.length + (l.length - n)) c1) = w5 at hg5 hX5 hW5 hO5 hF5 ⊢
          have r0 : w5.cell? ⟨B, 0, none⟩ = some (.int .i64 f) := blk_cell hX5.out 0
          have r1 : w5.cell? ⟨B, 1, none⟩ = some (.slice (some ad) l.length c) := blk_cell hX5.out 1
          have r5 : w5.cell? ⟨g, 5, none⟩ = some (.int .i64 (owed t1 l).heard) := blk_cell hg5.out 5
          have r5f : w5.frozen? ⟨g, 5, none⟩ = false := blk_frozen hg5.out 5
          have he3 : f ≤ t.heard := HE.out
          have he4 : ¬ t.heard < f := Int.not_lt.2 HE.out
          have hfll : IntKind.i64.wrap (f + (l.length : Int)) = f + (l.length : Int) := IntWalk.i64_in _ (by have := hf0'.out; have := hl64.out; omega)
          go_wp2
          go_ret
          have hgp : gotP (owed t1 l) f l = { owed t1 l with got := t.got ++ l.drop n, heard := f + (l.length : Int) } := by
            unfold gotP
            rw [if_pos (by show t1.heard - f < _; rw [HHE.out, hNI.out]; have := hNL.out; omega)]
            show ({ owed t1 l with got := t1.got ++ l.drop (t1.heard - f).toNat, heard := _ } : Tk) = _
            rw [HHE.out, HGO.out, hNI.out]
            rfl
          rw [← HT1.out, hgp]
          refine ⟨rfl, fun k => S k ∨ w.heap.size ≤ k, ⟨Sw, fun k => (Sg k ∨ w.heap.size ≤ k) ∧ k ≠ g, vw', .slice A1 (t.got.length + (l.length - n)) c1, ⟨.inl hTE.out.own, fun k hk => ⟨.inl (hTE.out.inw k hk).1, (hTE.out.inw k hk).2.1, fun hk' => hk'.1.elim (hTE.out.inw k hk).2.2 (fun h' => by have := hLTS.out k (hTE.out.inw k hk).1; omega)⟩, fun k hk => ⟨hk.1.imp_left (fun h' => (hTE.out.ing k h').1), hk.2⟩, ?_, Kd.R_far hW5.out (fun k h => (hTE.out.inw k h).2.1) _, Kd.R_far hO5.out (fun k h => h.2) _⟩⟩, fun k hk => hk, hF5.out.trans (Fr.setCell (S := S) _ hTE.out.own _) (fun k h => .inl h)⟩
          exact blk_put hg5.out 5 _ rfl
        · have hn1 : decide (t.heard - f < (l.length : Int)) = false := decide_eq_false hn
          have HN := Aside0.mk hn
          have hn2 : (l.length : Int) ≤ t.heard - f := Int.not_lt.1 hn
          go_wp2
          go_quiet (fail)
          go_wp2
          go_quiet (fail)
          go_wp2
          go_ret
          have hgp : gotP (owed t1 l) f l = owed t1 l := if_neg (by show ¬ t1.heard - f < _; rw [HHE.out]; exact Int.not_lt.2 HN.out)
          rw [← HT1.out, hgp]
          exact ⟨rfl, S, ⟨Sw, Sg, vw', vg, hT2.out.frame (S' := fun _ => False) (Fr.of_below (pw_below_drewN (Below.refl _ _) _)) (fun _ _ h => h)⟩, fun k h => .inl h, hF2w.out.trans (Fr.drewN (S := S) _ _) (fun k h => .inl h)⟩
end Go.Proofs.Yteeljnlhgaljaaa
