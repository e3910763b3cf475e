/- By hand: told. -/
import Derived.Test.YteeljnlhgaljaaaD
import Derived.Test.YteeljnlhgaljaaaE2
import Derived.Lib.SlBytesConst
namespace Go.Proofs.Yteeljnlhgaljaaa
set_option linter.unusedVariables false
set_option linter.unusedSimpArgs false
open Go.RowKit Go.Proofs.YteeljnlhgaljaaaW.PrintWords Go.Proofs.YteeljnlhgaljaaaW.PrintLast Go.Proofs.Yteeljnlhgaljaaa.P

/-- A row of bytes that a literal has laid (and that a string may share). -/
theorem lit_reads {w : World} {b : Nat} {fr : Nat × Nat} {x : Int} (h : w.heap[b]? = some (.cells #[.int .u8 x] 5 fr)) : Kd.C (Kd.int .u8) w (some ⟨b, 0, none⟩) 1 [x] := by
  refine ⟨rfl, by decide, fun _ => ⟨_, rfl, fun j p hp => ⟨[.int .u8 x], rfl, ?_, fun i u hu => ?_⟩⟩⟩
  · have : j = 0 := by
      have := (List.getElem?_eq_some_iff.1 hp).1
      simpa using this
    subst this
    obtain rfl : x = p := by simpa using hp
    rfl
  · have hj : j = 0 := by
      have := (List.getElem?_eq_some_iff.1 hp).1
      simpa using this
    have hi : i = 0 := by
      have := (List.getElem?_eq_some_iff.1 hu).1
      simpa using this
    subst hj hi
    obtain rfl : Value.int .u8 x = u := by simpa using hu
    simp [World.cell?, Addr.add, h]
theorem lit_rows {w : World} {b0 b1 : Nat} {fr fr' : Nat × Nat} {x : Int} (h0 : w.heap[b0]? = some (.cells #[.int .u8 x] 5 fr)) (h1 : w.heap[b1]? = some (.cells #[.slice (some ⟨b0, 0, none⟩) 1 1] 34 fr')) : Kd.C kM w (some ⟨b1, 0, none⟩) 1 [[x]] := by
  refine ⟨rfl, by decide, fun _ => ⟨_, rfl, fun j p hp => ⟨[.slice (some ⟨b0, 0, none⟩) 1 1], rfl, ?_, fun i u hu => ?_⟩⟩⟩
  · have : j = 0 := by
      have := (List.getElem?_eq_some_iff.1 hp).1
      simpa using this
    subst this
    obtain rfl : [x] = p := by simpa using hp
    exact ⟨some ⟨b0, 0, none⟩, 1, rfl, Nat.le_refl _, lit_reads h0⟩
  · have hj : j = 0 := by
      have := (List.getElem?_eq_some_iff.1 hp).1
      simpa using this
    have hi : i = 0 := by
      have := (List.getElem?_eq_some_iff.1 hu).1
      simpa using this
    subst hj hi
    obtain rfl : Value.slice (some ⟨b0, 0, none⟩) 1 1 = u := by simpa using hu
    simp [World.cell?, Addr.add, h1]
theorem idle_is (g : Nat) (S : Nat → Prop) (t : Tk) (w : World) (ht : IsTk w g S t) {b : Bool} (hb : t.wait.isEmpty = b) :
    Calls Try.prog 15 #[.pointer (some ⟨g, 0, none⟩)] w fun e w' => e = .returned (.bool b) ∧ w = w' := hb ▸ idle_ok g S t w ht
theorem hear_is (g : Nat) (S Sw Sg : Nat → Prop) (vw vg : Value) (t : Tk) (f h : Int) (A : Option Addr) (c : Nat) (l : List (List Int)) (w : World) (ht : IsTk' w g S Sw Sg vw vg t) (hSl : ∀ k, S k → k < w.heap.size) (hl : ∀ W, Fr S w W → Kd.C kM W A l.length l) (hc : l.length ≤ c) (hb : badP f h l = false) (hs : h ≤ t.said)
    (hw : (t.wait.length : Int) = t.said - t.done) (hd : 0 ≤ t.done) (hsa : t.said < 1000000) (hge : t.gone ≤ t.said) (hge0 : 0 ≤ t.gone) (hhr : 0 ≤ t.heard ∧ t.heard < 1000000) (hgl : t.got.length < 1000000)  (r : Int) (t' : Tk) (hr : (if t.heard < f then (20 : Int) else 0) = r) (ht' : (if t.heard < f then owed (acked t h) l else gotP (owed (acked t h) l) f l) = t') :
    Calls Try.prog 20 #[.pointer (some ⟨g, 0, none⟩), .agg #[.int .i64 f, .slice A l.length c, .int .i64 h]] w fun e w' => ∃ S', e = .returned (.int .i64 r) ∧ IsTk w' g S' t' ∧ (∀ k, S' k → S k ∨ w.heap.size ≤ k) ∧ Fr S w w' := by
  subst hr ht'
  exact hear_ok g S Sw Sg vw vg t f h A c l w ht hSl hl hc hb hs hw hd hsa hge hge0 hhr hgl
theorem Two.out {w0 w w' : World} {ga gb : Nat} {Sa Sb : Nat → Prop} {ta tb ta' : Tk} {v : Value} {l : List (List Int)} (h : Two w0 w ga gb Sa Sb ta tb) (hv : kM.R 34 w' w.heap.size (fun _ => True) v l) (ht : IsTk w' ga (fun k => Sa k ∧ k < w.heap.size) ta') (hf : Fr Sa w w') :
    ∃ Sa', Two w0 w' ga gb Sa' Sb ta' tb ∧ Free w' (fun k => Sa' k ∨ Sb k) v l :=
  ⟨fun k => (Sa k ∧ k < w.heap.size) ∧ k < w'.heap.size, h.step ht (fun k hk => .inl hk.1) hf, Free.of_new hv (fun k hk => hk.elim (fun h' => h'.1.2) (h.ltb k))⟩
set_option maxRecDepth 100000 in
set_option maxHeartbeats 2000000 in
theorem told_any (w : World) : Calls Try.prog 12 #[] w fun e w' => e = .returned (.bool true) ∧ Below w.heap.size w w' := by
  go_enter Try.func12, Try.ntmps12
  go_wp2_with fail
  refine (new_ok 2 5 _ ⟨by omega, by omega, by omega, by omega⟩).mono ?_
  rintro e w1 ⟨rfl, ha1, hb1⟩
  have HA1 := Aside0.mk ha1
  have HB1 := Aside0.mk hb1
  clear ha1 hb1
  go_wp2_with fail
  refine (new_ok 2 5 _ ⟨by omega, by omega, by omega, by omega⟩).mono ?_
  rintro e w2 ⟨rfl, hb2, hbb⟩
  have H2 : Aside0 (Two w w2 w.heap.size w1.heap.size (fun k => k = w.heap.size) (fun k => k = w1.heap.size) (newTk 2 5) (newTk 2 5)) := Aside0.mk (by
    have hlt : w.heap.size < w1.heap.size := by obtain ⟨_, _, _, _, h⟩ := HA1.out; exact blk_lt h.blk
    have hlt2 : w1.heap.size < w2.heap.size := by obtain ⟨_, _, _, _, h⟩ := hb2; exact blk_lt h.blk
    exact ⟨HA1.out.below hbb, hb2, fun k e e' => by omega, fun k e => by omega, fun k e => by omega, fun k e => by omega, below_then HB1.out HB1.out.size hbb⟩)
  have HB2 := Aside0.mk (below_then HB1.out HB1.out.size hbb)
  generalize hga : w.heap.size = ga at H2 ⊢
  generalize hgb : w1.heap.size = gb at H2 ⊢
  have HGA := Aside0.mk hga
  clear hb2 hbb hga hgb HA1 HB1
  have kc := Lib.run_convert_bytes_const (P := Try.prog) w2 34 5 #[.int .u8 97] 1 1 Try.underlying34 Try.underlying5
  go_wp2_with fail
  clear kc
  generalize hw3 : w2.alloc _ = w3
  have hB23 : Below w2.heap.size w2 w3 := hw3 ▸ below_alloc (Below.refl _ _) _
  have hC3 : Kd.C (Kd.int .u8) w3 (some ⟨w2.heap.size, 0, none⟩) 1 [97] := lit_reads (by rw [← hw3]; exact blk_new w2 _)
  have H3 := Aside0.mk (H2.out.below hB23)
  clear hw3
  refine (say_ok _ _ _ _ 1 [97] _ H3.out.a hC3 (by simp) (by simp) (by simp) (by simp) (by simp)).mono ?_
  rintro e w4 ⟨S4, rfl, ht4, hs4, hf4⟩
  obtain ⟨Sa4, h4⟩ : ∃ Sa, Two w w4 ga gb Sa (fun k => k = gb) _ _ := ⟨_, H3.out.step ht4 hs4 hf4⟩
  have H4 := Aside0.mk h4
  clear hC3 ht4 hs4 hf4 h4
  go_wp2_with fail
  refine (tick_yes _ _ _ 0 _ H4.out.a (by simp) (by simp) (by simp [dueB]) (by simp) (by simp)).mono ?_
  rintro e w5 ⟨v5, rfl, hv5, ht5, hf5⟩
  obtain ⟨Sa5, h5, hfree5⟩ := H4.out.out hv5 ht5 hf5
  obtain ⟨A5, c5, rfl, hc5, hread5⟩ := hfree5.reads
  have H5 := Aside0.mk h5
  have F5 := Aside0.mk hfree5
  clear hv5 ht5 hf5 h5 hfree5 hread5
  go_wp2_with fail
  generalize hw6 : w5.alloc _ = w6
  have hb56 : Below w5.heap.size w5 w6 := hw6 ▸ below_alloc (Below.refl _ _) _
  have X6 := Aside0.mk (show w6.heap[w5.heap.size]? = some (.cells #[.int .i64 0, .slice A5 1 c5, .int .i64 0] 36 (0, 0)) from hw6 ▸ blk_new w5 _)
  have H6 := Aside0.mk (H5.out.below hb56)
  have F6 := Aside0.mk (F5.out.step (S' := fun k => Sa5 k ∨ k = gb) (Fr.of_below hb56) (fun k hk => .inl hk))
  have L6 := Aside0.mk (fun k (hk : Sa5 k) => H5.out.lta k hk)
  have L6b := Aside0.mk (H5.out.ltb gb rfl)
  generalize w5.heap.size = B5 at X6 L6 L6b ⊢
  clear hw6 hb56
  refine (tick_no _ _ _ 4 _ H6.out.a (by simp) (by simp) (by simp [dueB])).mono ?_
  rintro e w7 ⟨rfl, hb7⟩
  have X7 := Aside0.mk (blk_below X6.out hb7)
  have H7 := Aside0.mk (H6.out.below hb7)
  have F7 := Aside0.mk (F6.out.step (S' := fun k => Sa5 k ∨ k = gb) (Fr.of_below hb7) (fun k hk => .inl hk))
  clear hb7
  go_wp2_with fail
  generalize hw8 : w7.alloc _ = w8
  have hb78 : Below w7.heap.size w7 w8 := hw8 ▸ below_alloc (Below.refl _ _) _
  have X8 := Aside0.mk (blk_below X7.out hb78)
  have H8 := Aside0.mk (H7.out.below hb78)
  have F8 := Aside0.mk (F7.out.step (S' := fun k => Sa5 k ∨ k = gb) (Fr.of_below hb78) (fun k hk => .inl hk))
  clear hw8 hb78
  refine (tick_yes _ _ _ 5 _ H8.out.a (by simp) (by simp) (by simp [dueB]) (by simp) (by simp)).mono ?_
  rintro e w9 ⟨v9, rfl, hv9, ht9, hf9⟩
  obtain ⟨A9, c9, rfl⟩ := Kd.R_slice hv9
  have X9 := Aside0.mk ((hf9.block B5 (blk_lt X8.out) (fun h => Nat.lt_irrefl _ (L6.out B5 h))).trans X8.out)
  have H9 := Aside0.mk (H8.out.step ht9 (fun k hk => .inl hk.1) hf9)
  have F9 := Aside0.mk (F8.out.step (S' := fun k => Sa5 k ∨ k = gb) (hf9.mono (fun k hk => .inl (.inl hk))) (fun k hk => .inl hk))
  clear hv9 ht9 hf9
  have y0 : ∀ o, (w9.alloc o).cell? ⟨B5, 0, none⟩ = some (.int .i64 0) := fun o => blk_cell (blk_alloc X9.out o) 0
  have y1 : ∀ o, (w9.alloc o).cell? ⟨B5, 1, none⟩ = some (.slice A5 1 c5) := fun o => blk_cell (blk_alloc X9.out o) 1
  have y2 : ∀ o, (w9.alloc o).cell? ⟨B5, 2, none⟩ = some (.int .i64 0) := fun o => blk_cell (blk_alloc X9.out o) 2
  go_wp2_with fail
  clear y0 y1 y2
  generalize hw10 : w9.alloc _ = w10
  have hb910 : Below w9.heap.size w9 w10 := hw10 ▸ below_alloc (Below.refl _ _) _
  have H10 := Aside0.mk (H9.out.below hb910)
  have F10 := Aside0.mk (F9.out.step (S' := fun k => Sa5 k ∨ k = gb) (Fr.of_below hb910) (fun k hk => .inl hk))
  clear hw10 hb910
  obtain ⟨A', c', e', hc', hread⟩ := F10.out.reads
  obtain ⟨rfl, -, rfl⟩ : A5 = A' ∧ 1 = 1 ∧ c5 = c' := by injection e' with h1 h2 h3; exact ⟨h1, rfl, h3⟩
  obtain ⟨SwB, SgB, vwB, vgB, hTB⟩ := H10.out.b
  refine (hear_ok gb _ SwB SgB vwB vgB _ 0 0 A5 c5 [[97]] w10 hTB H10.out.ltb (fun W hW => hread W (hW.mono (fun k hk => .inl (.inr hk)))) hc' (by decide) (by decide) (by decide) (by decide) (by decide) (by decide) (by decide) (by decide) (by decide)).mono ?_
  rintro e w11 ⟨S11, rfl, ht11, hs11, hf11⟩
  rw [show (if (newTk 2 5).heard < 0 then (20 : Int) else 0) = 0 from rfl]
  rw [show (if (newTk 2 5).heard < 0 then owed (acked (newTk 2 5) 0) [[97]] else gotP (owed (acked (newTk 2 5) 0) [[97]]) 0 [[97]]) = (⟨2, 5, 0, 0, 0, 1, [], [[97]], 0, false, true⟩ : Tk) from rfl] at ht11
  obtain ⟨Sb11, Sa11, h11⟩ : ∃ Sb Sa, Two w w11 gb ga Sb Sa _ _ := ⟨_, _, H10.out.swap.step ht11 hs11 hf11⟩
  have H11 := Aside0.mk h11
  clear ht11 hs11 hf11 h11 hTB hread e' hc'
  go_wp2_with fail
  refine (got_ok gb _ _ _ H11.out.a).mono ?_
  rintro e w12 ⟨v12, S12, So, rfl, ht12, ho12, hs12, hso12, hf12⟩
  obtain ⟨A12, c12, rfl⟩ := Kd.R_slice ho12
  have O12 := Aside0.mk ho12
  have H12 := Aside0.mk (H11.out.step ht12 (fun k hk => .inl (hs12 k hk).1) hf12)
  clear ht12 ho12 hs12 hso12 hf12
  have kc := Lib.run_convert_bytes_const (P := Try.prog) w12 34 5 #[.int .u8 97] 1 1 Try.underlying34 Try.underlying5
  go_wp2_with fail
  clear kc
  have hbz : Below w12.heap.size w12 ((w12.alloc (.cells #[.int .u8 97] 5 (1, 2))).alloc (.cells #[.slice (some ⟨w12.heap.size, 0, none⟩) 1 1] 34)) := below_alloc (below_alloc (Below.refl _ _) _) _
  have hz0 : ((w12.alloc (.cells #[.int .u8 97] 5 (1, 2))).alloc (.cells #[.slice (some ⟨w12.heap.size, 0, none⟩) 1 1] 34)).heap[w12.heap.size]? = some (.cells #[.int .u8 97] 5 (1, 2)) := blk_alloc (blk_new w12 _) _
  have hz1 : ((w12.alloc (.cells #[.int .u8 97] 5 (1, 2))).alloc (.cells #[.slice (some ⟨w12.heap.size, 0, none⟩) 1 1] 34)).heap[w12.heap.size + 1]? = some (.cells #[.slice (some ⟨w12.heap.size, 0, none⟩) 1 1] 34 (0, 0)) := by
    have := blk_new (w12.alloc (.cells #[.int .u8 97] 5 (1, 2))) (.cells #[.slice (some ⟨w12.heap.size, 0, none⟩) 1 1] 34)
    simpa using this
  generalize (w12.alloc (.cells #[.int .u8 97] 5 (1, 2))).alloc (.cells #[.slice (some ⟨w12.heap.size, 0, none⟩) 1 1] 34) = w13 at hbz hz0 hz1 ⊢
  have H13 := Aside0.mk (H12.out.below hbz)
  refine (same_any A12 c12 [[97]] _ 1 [[97]] w13 (Kd.R_reads' (Kd.R_below O12.out hbz)).2.2 (lit_rows hz0 hz1) (by decide)).mono ?_
  rintro e w14 ⟨rfl, ⟨nd, rfl⟩⟩
  have H14 := Aside0.mk (H13.out.below (pw_below_drewN (Below.refl _ _) nd))
  rw [sameL_refl]
  clear hbz hz0 hz1
  go_wp2_with fail
  refine (idle_is ga _ _ _ H14.out.b (b := false) rfl).mono ?_
  rintro e w15 ⟨rfl, rfl⟩
  generalize w13.drewN nd = w15 at H14 ⊢
  go_wp2_with fail
  refine (tick_yes _ _ _ 1 _ H14.out.a (by simp) (by simp) (by simp [dueB]) (by simp) (by simp)).mono ?_
  rintro e w16 ⟨v16, rfl, hv16, ht16, hf16⟩
  obtain ⟨Sb16, h16, hfree16⟩ := H14.out.out hv16 ht16 hf16
  obtain ⟨A16, c16, rfl, hc16, -⟩ := hfree16.reads
  have H16 := Aside0.mk h16
  have F16 := Aside0.mk hfree16
  clear hv16 ht16 hf16 h16 hfree16
  go_wp2_with fail
  generalize hw17 : w16.alloc _ = w17
  have hb17 : Below w16.heap.size w16 w17 := hw17 ▸ below_alloc (Below.refl _ _) _
  have H17 := Aside0.mk (H16.out.below hb17)
  have F17 := Aside0.mk (F16.out.step (S' := fun k => Sb16 k ∨ _) (Fr.of_below hb17) (fun k hk => .inl hk))
  clear hw17 hb17
  obtain ⟨A', c', e', hc', hread⟩ := F17.out.reads
  obtain ⟨rfl, rfl⟩ : A16 = A' ∧ c16 = c' := by injection e' with h1 h2 h3; exact ⟨h1, h3⟩
  obtain ⟨SwB, SgB, vwB, vgB, hTB⟩ := H17.out.b
  refine (hear_is ga _ SwB SgB vwB vgB _ 0 1 A16 c16 [] w17 hTB H17.out.ltb (fun W hW => hread W (hW.mono (fun k hk => .inl (.inr hk)))) hc' (by decide) (by decide) (by decide) (by decide) (by decide) (by decide) (by decide) (by decide) (by decide) 0 ⟨2, 5, 1, 1, 1, 0, [], [], 5, true, false⟩ rfl rfl).mono ?_
  rintro e w18 ⟨S18, rfl, ht18, hs18, hf18⟩
  have h18 := H17.out.swap.step ht18 hs18 hf18
  have H18 := Aside0.mk h18
  clear ht18 hs18 hf18 h18 hTB hread e' hc'
  go_wp2_with fail
  refine (idle_is ga _ _ _ H18.out.a (b := true) rfl).mono ?_
  rintro e w19 ⟨rfl, rfl⟩
  go_wp2
  go_ret
  exact ⟨rfl, H18.out.fr⟩
end Go.Proofs.Yteeljnlhgaljaaa
