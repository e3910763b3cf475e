/- By hand: TalkStale. -/
import Derived.Test.YteeljnlhgaljaaaM
namespace Go.Proofs.Yteeljnlhgaljaaa
set_option linter.unusedVariables false
set_option linter.unusedSimpArgs false
open Go.RowKit Go.Proofs.YteeljnlhgaljaaaW.PrintWords Go.Proofs.YteeljnlhgaljaaaW.PrintLast Go.Proofs.YteeljnlhgaljaaaW.PrintMore Go.Proofs.Yteeljnlhgaljaaa.P
attribute [local go_sem] min2_int min_two   -- for this text's walks alone

/-- Two ends, a packet, and less of it. -/
structure St (w0 w : World) (ga gb : Nat) (Sa Sb : Nat → Prop) (ta tb : Tk) (pb lb : Nat) (A : Option Addr) (c : Nat) (l : List (List Int)) (kn : Nat) : Prop where
  two : Two w0 w ga gb Sa Sb ta tb
  pk : Free w (Un Sa Sb) (.slice A l.length c) l
  p : Blk w (Un Sa Sb) pb (.cells #[.int .i64 0, .slice A l.length c, .int .i64 0] 36 (0, 0))
  q : Blk w (Un Sa Sb) lb (.cells #[.int .i64 0, .slice A kn c, .int .i64 0] 36 (0, 0))
section
variable {w0 w w' : World} {ga gb : Nat} {Sa Sb Sa' Sb' : Nat → Prop} {ta tb ta' tb' : Tk} {pb lb : Nat} {A : Option Addr} {c : Nat} {l : List (List Int)} {kn : Nat}
theorem St.went (h : St w0 w ga gb Sa Sb ta tb pb lb A c l kn) (h' : Two w0 w' ga gb Sa' Sb' ta' tb') (hw : Went (Un Sa Sb) (Un Sa' Sb') w w') : St w0 w' ga gb Sa' Sb' ta' tb' pb lb A c l kn :=
  ⟨h', h.pk.went hw, h.p.went hw, h.q.went hw⟩
theorem St.hear (h : St w0 w ga gb Sa Sb ta tb pb lb A c l kn) (n : Nat) (hn : n ≤ l.length) (hl : l.length ≤ 64) (hm : ∀ m ∈ l, m.length ≤ 50) (hs : 0 ≤ tb.said) (fit : Fit tb) (h0 : 0 ≤ tb.heard) (tb' : Tk) (ht' : heardT tb 0 0 (l.take n) = tb') :
    Calls Try.prog 20 #[.pointer (some ⟨gb, 0, none⟩), .agg #[.int .i64 0, .slice A n c, .int .i64 0]] w fun e w' => e = .returned (.int .i64 0) ∧ ∃ Sb', St w0 w' ga gb Sa Sb' ta tb' pb lb A c l kn := by
  have hb : badP 0 0 (l.take n) = false := by
    simp only [badP, Bool.or_eq_false_iff, decide_eq_false_iff_not, List.any_eq_false]
    refine ⟨⟨⟨by omega, by omega⟩, by rw [List.length_take]; omega⟩, fun m h => ?_⟩
    have := hm m (List.mem_of_mem_take h)
    simp [longM]; omega
  refine (h.two.swap.hear 0 0 A c n (l.take n) (by rw [List.length_take]; omega) ((h.pk.take hn).swap) hb hs fit 0 tb' (by rw [if_neg (by omega)]) ht').mono ?_
  rintro e w' ⟨rfl, Sb', h2, hw⟩
  exact ⟨rfl, Sb', h.went h2.swap hw.swap⟩
theorem St.got (h : St w0 w ga gb Sa Sb ta tb pb lb A c l kn) : Calls Try.prog 21 #[.pointer (some ⟨gb, 0, none⟩)] w fun e w' => ∃ A' c', e = .returned (.slice A' tb.got.length c') ∧ ∃ Sb', St w0 w' ga gb Sa Sb' ta { tb with got := [] } pb lb A c l kn := by
  refine h.two.swap.got.mono ?_
  rintro e w' ⟨A', c', rfl, Sb', h2, hw, -⟩
  exact ⟨A', c', rfl, Sb', h.went h2.swap hw.swap⟩
end
/-- What a heard end holds. -/
abbrev hd (n : Nat) (got : List (List Int)) (owes : Bool) : Tk := ⟨64, 3, 0, 0, 0, n, [], got, 0, false, owes⟩
theorem hear1 (l : List (List Int)) (k : Nat) (hk : k ≤ l.length) : heardT (newTk 64 3) 0 0 (l.take k) = hd k (l.take k) (decide (0 < k)) := by
  have hl : (l.take k).length = k := by rw [List.length_take]; omega
  unfold heardT owed acked gotP
  by_cases h0 : 0 < k
  · simp [hl, h0]
  · obtain rfl : k = 0 := by omega
    simp
theorem hear2 (l : List (List Int)) (k : Nat) (ow : Bool) (hk : k < l.length) : heardT (hd k [] ow) 0 0 (l.take l.length) = hd l.length (l.drop k) true := by
  unfold heardT owed acked gotP
  have h1 : (k : Int) < (l.length : Int) := by omega
  have h2 : ¬ (k : Int) < 0 := by omega
  have h3 : 0 < l.length := by omega
  simp [h1, h2, h3]
theorem hear3 (l : List (List Int)) (k : Nat) (hk : k ≤ l.length) : heardT (hd l.length [] true) 0 0 (l.take k) = hd l.length [] true := by
  have hl : (l.take k).length = k := by rw [List.length_take]; omega
  unfold heardT owed acked gotP
  have h1 : ¬ (l.length : Int) < (k : Int) := by omega
  have h2 : ¬ (l.length : Int) < 0 := by omega
  simp [hl, h1, h2]
theorem hear4 (l : List (List Int)) (h : 0 < l.length) : heardT (⟨64, 3, l.length, 0, l.length, 0, l, [], 0, true, false⟩ : Tk) 0 l.length [] = ⟨64, 3, l.length, l.length, l.length, 0, [], [], 0, true, false⟩ := by
  unfold heardT owed acked gotP
  have h1 : (0 : Int) < (l.length : Int) := by omega
  simp [h1, h]
theorem hd_fit (n : Nat) (got : List (List Int)) (ow : Bool) (hn : n ≤ 64) (hg : got.length ≤ 64) : Fit (hd n got ow) := ⟨by simp, by simp, by simp, by simp, by simp, by simp; omega, by simp; omega⟩
/-- The first n messages, each cut at 50 bytes. -/
def said (l : List (List Int)) (n : Nat) : List (List Int) := (l.take n).map (fun m => m.take 50)
theorem said_len (l : List (List Int)) (n : Nat) (h : n ≤ l.length) : (said l n).length = n := by simp [said]; omega
theorem said_succ (l : List (List Int)) (n : Nat) (h : n < l.length) : said l n ++ [(rd_L1 l (n : Int)).take 50] = said l (n + 1) := by
  unfold said
  rw [List.take_succ_eq_append_getElem h, List.map_append]
  have : rd_L1 l (n : Int) = l[n] := by simp [rd_L1, List.getD, h]
  rw [this]
  rfl
theorem said_short (l : List (List Int)) (n : Nat) : ∀ m ∈ said l n, m.length ≤ 50 := by
  intro m hm
  simp only [said, List.mem_map] at hm
  obtain ⟨x, -, rfl⟩ := hm
  rw [List.length_take]
  omega
theorem cut_in (cut : Int) (l : List (List Int)) (h0 : 0 < l.length) (h : l.length ≤ 40) : ∃ kn : Nat, wrap64 ((IntKind.u64.wrap cut).tmod (l.length : Int)) = (kn : Int) ∧ kn < l.length := by
  have hu : 0 ≤ IntKind.u64.wrap cut := Int.emod_nonneg cut (by decide)
  have h2 := Int.tmod_nonneg (l.length : Int) hu
  have h3 := Int.tmod_lt_of_pos (IntKind.u64.wrap cut) (show (0 : Int) < (l.length : Int) by omega)
  generalize (IntKind.u64.wrap cut).tmod (l.length : Int) = z at *
  refine ⟨z.toNat, ?_, by omega⟩
  unfold wrap64
  omega
theorem run_take25 (A : Option Addr) (c n k : Nat) (hk : k ≤ n) (hn : k ≤ c) (W : World) : (Instr.slice 25 (.slice A n c) none (some (.int .i64 (k : Int))) none).run Try.prog W = .ok (.slice A k c) W := by
  have ha : (A.map fun x => x.add 0) = A := by cases A <;> simp [Addr.add]
  have hel : Try.prog.elem 25 = 34 := by simp [Program.elem, Try.underlying25]
  have hu : Try.prog.underlying 25 = some (.slice (Try.prog.elem 25)) := by rw [hel]; exact Try.underlying25
  obtain ⟨i0, hi, hz⟩ := Option.map_eq_some_iff.1 info34'
  simp only [Prod.mk.injEq] at hz
  rw [run_slice_h W 25 A n c hu .i64 (k : Int) (by omega) (by omega), hel]
  simp [sizeOf, typeInfo, hi, hz.2.1, sliced, Result.andThen, ha]
theorem laid36 (w : World) (cs : Array Value) : Below w.heap.size w (w.alloc (.cells cs 36)).drew ∧ (w.alloc (.cells cs 36)).drew.heap[w.heap.size]? = some (.cells cs 36 (0, 0)) :=
  ⟨below_drew (below_alloc (Below.refl _ _) _), blk_below (blk_new w _) (below_drew (Below.refl _ _))⟩
theorem dueN (n : Nat) (l : List (List Int)) (now : Int) : dueB (⟨64, 3, n, 0, 0, 0, l, [], 0, false, false⟩ : Tk) now = decide (0 < (n : Int)) := by simp [dueB]
set_option maxRecDepth 100000 in
set_option maxHeartbeats 4000000 in
theorem stale_any (As : Option Addr) (cs : Nat) (says : List (List Int)) (cut : Int) (w : World) (hs : Kd.C kM w As says.length says) :
    Calls Try.prog 7 #[.slice As says.length cs, .int .i64 cut] w fun e w' => e = .returned (.bool true) ∧ Below w.heap.size w w' := by
  have HSY := Aside0.mk hs
  have htl := hs.2.1
  clear hs
  go_enter Try.func7, Try.ntmps7
  go_wp2_with fail
  refine (new_ok 64 3 _ ⟨by omega, by omega, by omega, by omega⟩).mono ?_
  rintro e w1 ⟨rfl, ha1, hb1⟩
  have HA1 := Aside0.mk ha1
  have HB1 := Aside0.mk hb1
  clear ha1 hb1
  go_wp2_with fail
  refine (new_ok 64 3 _ ⟨by omega, by omega, by omega, by omega⟩).mono ?_
  rintro e w2 ⟨rfl, hb2, hbb⟩
  have H2 : Aside0 (Two w w2 w.heap.size w1.heap.size (fun k => k = w.heap.size) (fun k => k = w1.heap.size) (newTk 64 3) (newTk 64 3)) := Aside0.mk (by
    have hlt : w.heap.size < w1.heap.size := by obtain ⟨_, _, _, _, h⟩ := HA1.out; exact blk_lt h.blk
    have hlt2 : w1.heap.size < w2.heap.size := by obtain ⟨_, _, _, _, h⟩ := hb2; exact blk_lt h.blk
    exact ⟨HA1.out.below hbb, hb2, fun k e e' => by omega, fun k e => by omega, fun k e => by omega, fun k e => by omega, below_then HB1.out HB1.out.size hbb⟩)
  generalize hga : w.heap.size = ga at H2 ⊢
  generalize hgb : w1.heap.size = gb at H2 ⊢
  clear hb2 hbb hga hgb HA1 HB1
  go_wp2_with fail
  refine (told_any _).mono ?_
  rintro e w3 ⟨rfl, hb3⟩
  have H3 := Aside0.mk (H2.out.below hb3)
  clear hb3 H2
  go_wp2_with fail
  go_loopw [9] (fun v9 wr => ∃ (n : Nat) (Sa : Nat → Prop), v9 = .int .i64 (n : Int) ∧ Aside0 (n ≤ says.length ∧ n ≤ 40) ∧ Aside0 (Two w wr ga gb Sa (fun k => k = gb) ⟨64, 3, n, 0, 0, 0, said says n, [], 0, false, false⟩ (newTk 64 3))) (fun v9 wr => 40 - (intOf v9).toNat)
  case atStart => exact ⟨0, _, rfl, ⟨by omega⟩, H3⟩
  case round =>
    clear H3
    obtain ⟨n, Sa, rfl, HN, H⟩ := hrel
    by_cases hlt : n < says.length ∧ n < 40
    · have h1 : decide ((n : Int) < (says.length : Int)) = true := decide_eq_true (by omega)
      have h2 : decide ((n : Int) < 40) = true := decide_eq_true (by omega)
      have hk0 : (0 : Int) ≤ (n : Int) := by omega
      have q1 : (n : Int) < (says.length : Int) := by omega
      have q2 : (n : Int) < 40 := by omega
      obtain ⟨ad, A0, c0, rfl, hx, hld, hC⟩ := at_L1 HSY.out (n : Int) hk0 q1
      simp only [Int.toNat_natCast] at hx
      have HX0 := Aside0.mk hx
      replace hx := pw_cell_below H.out.fr hx
      have HSS := Aside0.mk (said_succ says n (by omega))
      generalize rd_L1 says (n : Int) = m0 at hx hld hC HSS HX0
      have HC := Aside0.mk hC
      have HLD := Aside0.mk hld
      clear hC hld
      obtain ⟨j, hj⟩ : ∃ j : Int, (if 50 < (m0.length : Int) then 50 else (m0.length : Int)) = j := ⟨_, rfl⟩
      have hj0 : 0 ≤ j ∧ j ≤ m0.length ∧ j ≤ 50 := by rw [← hj]; split <;> omega
      obtain ⟨i0, hi, hz⟩ := Option.map_eq_some_iff.1 info5'
      simp only [Prod.mk.injEq] at hz
      obtain ⟨hrun, hrd, hcap⟩ := print_take_int (P := Try.prog) (k := .u8) 34 5 Try.underlying34 hi hz.2.1 A0 c0 m0 j hj0.1 hj0.2.1 HLD.out
      have hm50 : m0.take j.toNat = m0.take 50 := by
        rw [← hj]
        split
        · rfl
        · rw [List.take_of_length_le (by omega), List.take_of_length_le (by omega)]
      have HCm : Aside0 (Kd.C (Kd.int .u8) w A0 (m0.take j.toNat).length (m0.take j.toNat)) := Aside0.mk (Kd.C_take HC.out (by omega))
      have HCC := Aside0.mk hcap
      have HML : Aside0 ((m0.take j.toNat).length ≤ 4096) := Aside0.mk (by rw [List.length_take]; omega)
      rw [← hm50] at HSS
      generalize m0.take j.toNat = m at hrun HCC HCm HML HSS
      clear hrd hcap hj0 hi hz hm50 HC
      go_wp2
      refine start_ (n := 14) (S := fun w' => w'.cell? (ad.add n) = some (.slice A0 m0.length c0)) (ds := []) #[false, false, false, false, false, false, false, false, false, false, false, false, false, false] (by kernel_rfl) rfl rfl (hx) (fun hHeld => ?_)
      refine pure_ (i := 0) (N := some 50) (v := ?_) (a' := ?_) #[true, false, false, false, false, false, false, false, false, false, false, false, false, false] rfl rfl (by kernel_rfl) (fun _ _ _ h => h) (Or.inl ⟨by rfl, ?_⟩) ?_ ?_
      rotate_left
      · intro w'
        go_simp
        with_reducible rfl
      rotate_left
      · simp only [Act.put, List.setIfInBounds_toArray, List.set_cons_zero, List.set_cons_succ, i64_w, i32_w]
        rfl
      refine pure_ (i := 1) (N := some 51) (v := ?_) (a' := ?_) #[true, true, false, false, false, false, false, false, false, false, false, false, false, false] rfl rfl (by kernel_rfl) (fun _ _ _ h => h) (Or.inl ⟨by rfl, ?_⟩) ?_ ?_
      rotate_left
      · intro w'
        go_simp
        with_reducible rfl
      rotate_left
      · simp only [Act.put, List.setIfInBounds_toArray, List.set_cons_zero, List.set_cons_succ, i64_w, i32_w]
        rfl
      refine pure_ (i := 2) (N := some 52) (v := ?_) (a' := ?_) #[true, true, true, false, false, false, false, false, false, false, false, false, false, false] rfl rfl (by kernel_rfl) (fun _ _ _ h => h) (Or.inl ⟨by rfl, ?_⟩) ?_ ?_
      rotate_left
      · intro w'
        go_simp
        with_reducible rfl
      rotate_left
      · simp only [Act.put, List.setIfInBounds_toArray, List.set_cons_zero, List.set_cons_succ, i64_w, i32_w]
        rfl
      refine pure_ (i := 3) (N := some 53) (v := ?_) (a' := ?_) #[true, true, true, true, false, false, false, false, false, false, false, false, false, false] rfl rfl (by kernel_rfl) (fun _ _ _ h => h) (Or.inl ⟨by rfl, ?_⟩) ?_ ?_
      rotate_left
      · intro w'
        go_simp
        with_reducible rfl
      rotate_left
      · simp only [Act.put, List.setIfInBounds_toArray, List.set_cons_zero, List.set_cons_succ, i64_w, i32_w]
        rfl
      refine pure_ (i := 5) (N := some 55) (v := ?_) (a' := ?_) #[true, true, true, true, false, true, false, false, false, false, false, false, false, false] rfl rfl (by kernel_rfl) (fun _ _ _ h => h) (Or.inl ⟨by rfl, ?_⟩) ?_ ?_
      rotate_left
      · intro w'
        go_simp
        with_reducible rfl
      rotate_left
      · simp only [Act.put, List.setIfInBounds_toArray, List.set_cons_zero, List.set_cons_succ, i64_w, i32_w]
        rfl
      refine pure_ (i := 6) (N := some 56) (v := ?_) (a' := ?_) #[true, true, true, true, false, true, true, false, false, false, false, false, false, false] rfl rfl (by kernel_rfl) (fun _ _ _ h => h) (Or.inl ⟨by rfl, ?_⟩) ?_ ?_
      rotate_left
      · intro w'
        go_simp
        with_reducible rfl
      rotate_left
      · simp only [Act.put, List.setIfInBounds_toArray, List.set_cons_zero, List.set_cons_succ, i64_w, i32_w]
        rfl
      refine pure_ (i := 7) (N := some 57) (v := ?_) (a' := ?_) #[true, true, true, true, false, true, true, true, false, false, false, false, false, false] rfl rfl (by kernel_rfl) (fun _ _ _ h => h) (Or.inl ⟨by rfl, ?_⟩) ?_ ?_
      rotate_left
      · intro w'
        go_simp
        with_reducible rfl
      rotate_left
      · simp only [Act.put, List.setIfInBounds_toArray, List.set_cons_zero, List.set_cons_succ, i64_w, i32_w]
        rfl
      refine take_ (i := 4) (N := some 54) (v := ?_) (a' := ?_) #[true, true, true, true, true, true, true, true, false, false, false, false, false, false] rfl rfl (by kernel_rfl) (fun _ _ _ h => h) (Or.inl ⟨by rfl, ?_⟩) hHeld ?_ ?_
      rotate_left
      · intro w' s0
        go_simp
        with_reducible rfl
      rotate_left
      · simp only [Act.put, List.setIfInBounds_toArray, List.set_cons_zero, List.set_cons_succ, i64_w, i32_w]
        rfl
      refine take_ (i := 8) (N := some 58) (v := ?_) (a' := ?_) #[true, true, true, true, true, true, true, true, true, false, false, false, false, false] rfl rfl (by kernel_rfl) (fun _ _ _ h => h) (Or.inl ⟨by rfl, ?_⟩) hHeld ?_ ?_
      rotate_left
      · intro w' s0
        go_simp
        with_reducible rfl
      rotate_left
      · simp only [Act.put, List.setIfInBounds_toArray, List.set_cons_zero, List.set_cons_succ, i64_w, i32_w]
        rfl
      refine pure_ (i := 9) (N := some 59) (v := ?_) (a' := ?_) #[true, true, true, true, true, true, true, true, true, true, false, false, false, false] rfl rfl (by kernel_rfl) (fun _ _ _ h => h) (Or.inl ⟨by rfl, ?_⟩) ?_ ?_
      rotate_left
      · intro w'
        go_simp
        with_reducible rfl
      rotate_left
      · simp only [Act.put, List.setIfInBounds_toArray, List.set_cons_zero, List.set_cons_succ, i64_w, i32_w]
        rfl
      refine pure_ (i := 10) (N := some 60) (v := ?_) (a' := ?_) #[true, true, true, true, true, true, true, true, true, true, true, false, false, false] rfl rfl (by kernel_rfl) (fun _ _ _ h => h) (Or.inl ⟨by rfl, ?_⟩) ?_ ?_
      rotate_left
      · intro w'
        go_simp
        with_reducible rfl
      rotate_left
      · simp only [Act.put, List.setIfInBounds_toArray, List.set_cons_zero, List.set_cons_succ, i64_w, i32_w]
        rfl
      refine pure_ (i := 11) (N := some 61) (v := ?_) (a' := ?_) #[true, true, true, true, true, true, true, true, true, true, true, true, false, false] rfl rfl (by kernel_rfl) (fun _ _ _ h => h) (Or.inl ⟨by rfl, ?_⟩) ?_ ?_
      rotate_left
      · intro w'
        go_simp
        with_reducible rfl
      rotate_left
      · simp only [Act.put, List.setIfInBounds_toArray, List.set_cons_zero, List.set_cons_succ, i64_w, i32_w]
        rfl
      refine one_ (i := 12) (N := some 62) #[true, true, true, true, true, true, true, true, true, true, true, true, true, false] rfl rfl (by kernel_rfl) (by decide) (fun K hK => ?_)
      refine goes_ Try.func22 (by kernel_rfl) rfl #[.pointer (some ⟨ga, 0, none⟩), .slice A0 m.length c0] (by rfl) rfl rfl (by simp only [List.map_toArray, List.map_cons, List.map_nil]; rfl) ?_
      with_reducible refine ((H.out.below (below_drew (Below.refl _ _))).say A0 c0 m (Kd.C_below HCm.out (below_drew H.out.fr)) HCC.out HML.out (by simp [said_len says n HN.out.1]; omega) (by simp) (by simp; omega) _ rfl).mono ?_
      rintro e w4 ⟨rfl, Sa4, h4, hw4⟩
      refine ⟨_, rfl, ?_⟩
      refine hK.out _ _ (pw_cell_below h4.fr HX0.out) (fun hHeld => ?_)
      clear hK K
      refine norm_ (a' := ?_) ?_ ?_
      rotate_left
      · show Act.put _ (some 62) _ = _
        simp only [Act.put, List.setIfInBounds_toArray, List.set_cons_zero, List.set_cons_succ, i64_w, i32_w]
        rfl
      refine pure_ (i := 13) (N := some 63) (v := ?_) (a' := ?_) #[true, true, true, true, true, true, true, true, true, true, true, true, true, true] rfl rfl (by kernel_rfl) (fun _ _ _ h => h) (Or.inl ⟨by rfl, ?_⟩) ?_ ?_
      rotate_left
      · intro w'
        go_simp
        with_reducible rfl
      rotate_left
      · simp only [Act.put, List.setIfInBounds_toArray, List.set_cons_zero, List.set_cons_succ, i64_w, i32_w]
        rfl
      refine done_ (by kernel_rfl) ?_
      have HH : Aside0 (Two w w4 ga gb Sa4 (fun k => k = gb) ⟨64, 3, ((n + 1 : Nat) : Int), 0, 0, 0, said says (n + 1), [], 0, false, false⟩ (newTk 64 3)) := Aside0.mk (by
        rw [show ((n + 1 : Nat) : Int) = (n : Int) + 1 from by omega, ← HSS.out]
        exact h4)
      clear h4 hw4 hrun hx hj
      go_wp2
      go_roundw
      case rel => exact ⟨n + 1, _, by go_num, ⟨by omega⟩, HH⟩
      case measure => simp [intOf]; omega
    · have hex : decide ((n : Int) < (says.length : Int)) = false ∧ ¬ (n : Int) < (says.length : Int) ∨ decide ((n : Int) < (says.length : Int)) = true ∧ (n : Int) < (says.length : Int) ∧ decide ((n : Int) < 40) = false ∧ ¬ (n : Int) < 40 ∧ (40 : Int) ≤ (n : Int) := by
        simp only [decide_eq_false_iff_not, decide_eq_true_eq]
        omega
      clear hlt
      have hll := said_len says n HN.out.1
      have hsh := Aside0.mk (said_short says n)
      generalize said says n = l at H hll hsh
      subst hll
      by_cases h0 : l.length = 0
      · obtain rfl : l = [] := List.length_eq_zero_iff.1 h0
        rcases hex with ⟨h1, h1p⟩ | ⟨h1, h1p, h2, h2p, h2q⟩
        · have H0 : Aside0 (Two w wr ga gb Sa (fun k => k = gb) ⟨64, 3, 0, 0, 0, 0, [], [], 0, false, false⟩ (newTk 64 3)) := H
          clear H
          go_wp2_with fail
          refine (H0.out.tick_no 0 (by simp) (by simp) rfl).mono ?_
          rintro e w4 ⟨rfl, h4, -⟩
          have h5 := h4.below (below_alloc (Below.refl _ _) (.cells #[.int .i64 0, .slice none 0 0, .int .i64 0] 36))
          obtain ⟨Sw, Sg, vw, vg, hkk⟩ := h5.a
          obtain ⟨Aw, cw, rfl, -, -⟩ := Kd.R_reads hkk.wait
          have hx6 : (w4.alloc (.cells #[.int .i64 0, .slice none 0 0, .int .i64 0] 36)).cell? ⟨ga, 6, none⟩ = some (.slice Aw 0 cw) := blk_cell hkk.blk 6
          have HF := Aside0.mk h5.fr
          clear hkk h4 h5
          go_wp2
          all_goals (go_ret; exact ⟨rfl, HF.out⟩)
        · simp at h2
      · have hpos : 0 < l.length := by omega
        clear h0
        have hp1 : decide (0 < (l.length : Int)) = true := decide_eq_true (by omega)
        have hp2 : ((l.length : Int) == 0) = false := by rw [beq_eq_false_iff_ne]; omega
        have hp3 : (0 : Int) < (l.length : Int) := by omega
        have hp4 : ¬ (l.length : Int) = 0 := by omega
        have hl40 : l.length ≤ 40 := HN.out.2
        have hp5 : IntKind.u64.wrap (l.length : Int) = (l.length : Int) := by
          show (l.length : Int) % 18446744073709551616 = _
          omega
        rcases hex with ⟨h1, h1p⟩ | ⟨h1, h1p, h2, h2p, h2q⟩
        all_goals
          go_wp2_with fail
          refine (H.out.tick_yes 0 (by simp) (by simp) (by rw [dueN]; exact hp1) (by have := HN.out; simp only []; omega) (fun m hm => by have := hsh.out m hm; omega)).mono ?_
          rintro e w4 ⟨A4, c4, rfl, Sa4, h4, hw4, hf4⟩
          go_wp2_with fail
          obtain ⟨kn, hkn, hkl⟩ := cut_in cut l hpos hl40
          rw [hkn]
          clear hkn
          have hc4 : l.length ≤ c4 := by obtain ⟨_, _, e', h', _⟩ := hf4.reads; injection e' with _ _ h3; omega
          have hrun := run_take25 A4 c4 l.length kn (by omega) (by omega)
          have hbx := h4.box #[.int .i64 0, .slice A4 l.length c4, .int .i64 0] 36
          have h4 := Aside0.mk (h4.below (below_alloc (Below.refl _ _) (.cells #[.int .i64 0, .slice A4 l.length c4, .int .i64 0] 36)))
          have hf4 := Aside0.mk (hf4.went (Went.of_below (below_alloc (Below.refl _ _) (.cells #[.int .i64 0, .slice A4 l.length c4, .int .i64 0] 36))))
          generalize w4.heap.size = pb at hbx ⊢
          generalize w4.alloc _ = w5 at h4 hf4 hbx ⊢
          have hbx := Aside0.mk hbx
          clear hw4
          refine start_ (n := 11) (S := fun w' => w'.cell? ⟨pb, 0, none⟩ = some (.int .i64 0) ∧ w'.cell? ⟨pb, 1, none⟩ = some (.slice A4 l.length c4) ∧ w'.cell? ⟨pb, 2, none⟩ = some (.int .i64 0)) (ds := [10]) #[false, false, false, false, false, false, false, false, false, false, false] (by kernel_rfl) rfl rfl ⟨blk_cell (blk_below hbx.out.at_ (below_drew (Below.refl _ _))) 0, blk_cell (blk_below hbx.out.at_ (below_drew (Below.refl _ _))) 1, blk_cell (blk_below hbx.out.at_ (below_drew (Below.refl _ _))) 2⟩ (fun hHeld => ?_)
          refine pure_ (i := 0) (N := some 85) (v := ?_) (a' := ?_) #[true, false, false, false, false, false, false, false, false, false, false] rfl rfl (by kernel_rfl) (fun _ _ _ h => h) (Or.inl ⟨by rfl, ?_⟩) ?_ ?_
          rotate_left
          · intro w'
            go_simp
            with_reducible rfl
          rotate_left
          · simp only [Act.put, List.setIfInBounds_toArray, List.set_cons_zero, List.set_cons_succ, i64_w, i32_w]
            rfl
          refine pure_ (i := 2) (N := some 87) (v := ?_) (a' := ?_) #[true, false, true, false, false, false, false, false, false, false, false] rfl rfl (by kernel_rfl) (fun _ _ _ h => h) (Or.inl ⟨by rfl, ?_⟩) ?_ ?_
          rotate_left
          · intro w'
            go_simp
            with_reducible rfl
          rotate_left
          · simp only [Act.put, List.setIfInBounds_toArray, List.set_cons_zero, List.set_cons_succ, i64_w, i32_w]
            rfl
          refine pure_ (i := 4) (N := some 89) (v := ?_) (a' := ?_) #[true, false, true, false, true, false, false, false, false, false, false] rfl rfl (by kernel_rfl) (fun _ _ _ h => h) (Or.inl ⟨by rfl, ?_⟩) ?_ ?_
          rotate_left
          · intro w'
            go_simp
            with_reducible rfl
          rotate_left
          · simp only [Act.put, List.setIfInBounds_toArray, List.set_cons_zero, List.set_cons_succ, i64_w, i32_w]
            rfl
          refine pure_ (i := 6) (N := some 91) (v := ?_) (a' := ?_) #[true, false, true, false, true, false, true, false, false, false, false] rfl rfl (by kernel_rfl) (fun _ _ _ h => h) (Or.inl ⟨by rfl, ?_⟩) ?_ ?_
          rotate_left
          · intro w'
            go_simp
            with_reducible rfl
          rotate_left
          · simp only [Act.put, List.setIfInBounds_toArray, List.set_cons_zero, List.set_cons_succ, i64_w, i32_w]
            rfl
          refine take_ (i := 1) (N := some 86) (v := ?_) (a' := ?_) #[true, true, true, false, true, false, true, false, false, false, false] rfl rfl (by kernel_rfl) (fun _ _ _ h => h) (Or.inl ⟨by rfl, ?_⟩) hHeld ?_ ?_
          rotate_left
          · rintro w' ⟨s0, s1, s2⟩
            go_simp
            with_reducible rfl
          rotate_left
          · simp only [Act.put, List.setIfInBounds_toArray, List.set_cons_zero, List.set_cons_succ, i64_w, i32_w]
            rfl
          refine take_ (i := 3) (N := some 88) (v := ?_) (a' := ?_) #[true, true, true, true, true, false, true, false, false, false, false] rfl rfl (by kernel_rfl) (fun _ _ _ h => h) (Or.inl ⟨by rfl, ?_⟩) hHeld ?_ ?_
          rotate_left
          · rintro w' ⟨s0, s1, s2⟩
            go_simp
            with_reducible rfl
          rotate_left
          · simp only [Act.put, List.setIfInBounds_toArray, List.set_cons_zero, List.set_cons_succ, i64_w, i32_w]
            rfl
          refine pure_ (i := 5) (N := some 90) (v := ?_) (a' := ?_) #[true, true, true, true, true, true, true, false, false, false, false] rfl rfl (by kernel_rfl) (fun _ _ _ h => h) (Or.inl ⟨by rfl, ?_⟩) ?_ ?_
          rotate_left
          · intro w'
            go_simp
            with_reducible rfl
          rotate_left
          · simp only [Act.put, List.setIfInBounds_toArray, List.set_cons_zero, List.set_cons_succ, i64_w, i32_w]
            rfl
          refine take_ (i := 7) (N := some 92) (v := ?_) (a' := ?_) #[true, true, true, true, true, true, true, true, false, false, false] rfl rfl (by kernel_rfl) (fun _ _ _ h => h) (Or.inl ⟨by rfl, ?_⟩) hHeld ?_ ?_
          rotate_left
          · rintro w' ⟨s0, s1, s2⟩
            go_simp
            with_reducible rfl
          rotate_left
          · simp only [Act.put, List.setIfInBounds_toArray, List.set_cons_zero, List.set_cons_succ, i64_w, i32_w]
            rfl
          refine pure_ (i := 8) (N := some 93) (v := ?_) (a' := ?_) #[true, true, true, true, true, true, true, true, true, false, false] rfl rfl (by kernel_rfl) (fun _ _ _ h => h) (Or.inl ⟨by rfl, ?_⟩) ?_ ?_
          rotate_left
          · intro w'
            go_simp
            with_reducible rfl
          rotate_left
          · simp only [Act.put, List.setIfInBounds_toArray, List.set_cons_zero, List.set_cons_succ, i64_w, i32_w]
            rfl
          refine one_ (i := 9) (N := some 13) #[true, true, true, true, true, true, true, true, true, true, false] rfl rfl (by kernel_rfl) (by decide) (fun K hK => ?_)
          refine value_ (w1 := ?_) (v := ?_) (by rfl) rfl ?_ ?_
          rotate_left 2
          · go_simp
            constructor
            · rfl
            · rfl
          refine hK.out _ _ ⟨blk_cell (blk_alloc (blk_below hbx.out.at_ (below_drew (Below.refl _ _))) _) 0, blk_cell (blk_alloc (blk_below hbx.out.at_ (below_drew (Below.refl _ _))) _) 1, blk_cell (blk_alloc (blk_below hbx.out.at_ (below_drew (Below.refl _ _))) _) 2⟩ (fun hHeld => ?_)
          clear hK K
          refine norm_ (a' := ?_) ?_ ?_
          rotate_left
          · show Act.put _ (some 13) _ = _
            simp only [Act.put, List.setIfInBounds_toArray, List.set_cons_zero, List.set_cons_succ, i64_w, i32_w]
            rfl
          refine last_ (i := 10) (N := none) #[true, true, true, true, true, true, true, true, true, true, true] rfl rfl (by kernel_rfl) (by decide) (fun K hK => ?_)
          refine skip_ (w1 := ?_) (by rfl) rfl ?_ ?_
          rotate_left
          · go_simp
            rfl
          refine hK.out _ _ ?_
          clear hK K
          refine done_ (by kernel_rfl) ?_
          obtain ⟨hb6, hx6⟩ := laid36 w5 #[.int .i64 0, .slice A4 kn c4, .int .i64 0]
          have hq6 : ¬ Un Sa4 (fun k => k = gb) w5.heap.size := fun h => Nat.lt_irrefl _ (h4.out.lt _ h)
          generalize (w5.alloc (.cells #[.int .i64 0, .slice A4 kn c4, .int .i64 0] 36)).drew = w6 at hb6 hx6 ⊢
          generalize hlb : w5.heap.size = lb at hx6 hq6 ⊢
          have G6 : Aside0 (St w w6 ga gb Sa4 (fun k => k = gb) ⟨64, 3, l.length, 0, l.length, 0, l, [], 0, true, false⟩ (newTk 64 3) pb lb A4 c4 l kn) := Aside0.mk ⟨h4.out.below hb6, hf4.out.went (Went.of_below hb6), hbx.out.went (Went.of_below hb6), ⟨hx6, hq6⟩⟩
          clear hb6 hx6 hq6 hlb h4 hf4 hbx hrun H
          have y0 : w6.cell? ⟨lb, 0, none⟩ = some (.int .i64 0) := blk_cell G6.out.q.at_ 0
          have y1 : w6.cell? ⟨lb, 1, none⟩ = some (.slice A4 kn c4) := blk_cell G6.out.q.at_ 1
          have y2 : w6.cell? ⟨lb, 2, none⟩ = some (.int .i64 0) := blk_cell G6.out.q.at_ 2
          go_wp2_with fail
          clear y0 y1 y2
          have hlk : (l.take kn).length = kn := by rw [List.length_take]; omega
          have hld : (l.drop kn).length = l.length - kn := List.length_drop
          refine (G6.out.hear kn (Nat.le_of_lt hkl) (by omega) hsh.out (by simp) ⟨by simp, by simp, by simp, by simp, by simp, by simp, by simp⟩ (by simp) _ (hear1 l kn (Nat.le_of_lt hkl))).mono ?_
          rintro e w7 ⟨rfl, Sb7, h7⟩
          have G7 := Aside0.mk h7
          clear h7 G6
          go_wp2_with fail
          refine (G7.out.got).mono ?_
          rintro e w8 ⟨A8, c8, rfl, Sb8, h8⟩
          rw [show (hd kn (l.take kn) (decide (0 < kn))).got.length = kn from hlk]
          have G8 : Aside0 (St w w8 ga gb Sa4 Sb8 ⟨64, 3, l.length, 0, l.length, 0, l, [], 0, true, false⟩ (hd kn [] (decide (0 < kn))) pb lb A4 c4 l kn) := Aside0.mk h8
          clear h8 G7
          have y0 : w8.cell? ⟨pb, 0, none⟩ = some (.int .i64 0) := blk_cell G8.out.p.at_ 0
          have y1 : w8.cell? ⟨pb, 1, none⟩ = some (.slice A4 l.length c4) := blk_cell G8.out.p.at_ 1
          have y2 : w8.cell? ⟨pb, 2, none⟩ = some (.int .i64 0) := blk_cell G8.out.p.at_ 2
          go_wp2_with fail
          clear y0 y1 y2
          refine (G8.out.hear l.length (Nat.le_refl _) (by omega) hsh.out (by simp) (hd_fit _ _ _ (by omega) (by simp)) (by simp) _ (hear2 l kn _ hkl)).mono ?_
          rintro e w9 ⟨rfl, Sb9, h9⟩
          have G9 := Aside0.mk h9
          clear h9 G8
          go_wp2_with fail
          refine (G9.out.got).mono ?_
          rintro e w10 ⟨A10, c10, rfl, Sb10, h10⟩
          rw [show (hd l.length (l.drop kn) true).got.length = l.length - kn from hld]
          have G10 : Aside0 (St w w10 ga gb Sa4 Sb10 ⟨64, 3, l.length, 0, l.length, 0, l, [], 0, true, false⟩ (hd l.length [] true) pb lb A4 c4 l kn) := Aside0.mk h10
          clear h10 G9
          have hsb : wrap64 ((l.length : Int) - (kn : Int)) = ((l.length - kn : Nat) : Int) := by unfold wrap64; omega
          have hsb2 : ((l.length - kn : Nat) : Int) = (l.length : Int) - (kn : Int) := by omega
          have y0 : w10.cell? ⟨pb, 0, none⟩ = some (.int .i64 0) := blk_cell G10.out.p.at_ 0
          have y1 : w10.cell? ⟨pb, 1, none⟩ = some (.slice A4 l.length c4) := blk_cell G10.out.p.at_ 1
          have y2 : w10.cell? ⟨pb, 2, none⟩ = some (.int .i64 0) := blk_cell G10.out.p.at_ 2
          go_wp2_with fail
          clear y0 y1 y2
          refine (G10.out.hear l.length (Nat.le_refl _) (by omega) hsh.out (by simp) (hd_fit _ _ _ (by omega) (by simp)) (by simp) _ (hear3 l l.length (Nat.le_refl _))).mono ?_
          rintro e w11 ⟨rfl, Sb11, h11⟩
          have G11 := Aside0.mk h11
          clear h11 G10
          have y0 : w11.cell? ⟨lb, 0, none⟩ = some (.int .i64 0) := blk_cell G11.out.q.at_ 0
          have y1 : w11.cell? ⟨lb, 1, none⟩ = some (.slice A4 kn c4) := blk_cell G11.out.q.at_ 1
          have y2 : w11.cell? ⟨lb, 2, none⟩ = some (.int .i64 0) := blk_cell G11.out.q.at_ 2
          go_wp2_with fail
          clear y0 y1 y2
          refine (G11.out.hear kn (Nat.le_of_lt hkl) (by omega) hsh.out (by simp) (hd_fit _ _ _ (by omega) (by simp)) (by simp) _ (hear3 l kn (Nat.le_of_lt hkl))).mono ?_
          rintro e w12 ⟨rfl, Sb12, h12⟩
          have G12 := Aside0.mk h12
          clear h12 G11
          go_wp2_with fail
          refine (G12.out.got).mono ?_
          rintro e w13 ⟨A13, c13, rfl, Sb13, h13⟩
          rw [show (hd l.length [] true).got.length = 0 from rfl]
          have G13 : Aside0 (St w w13 ga gb Sa4 Sb13 ⟨64, 3, l.length, 0, l.length, 0, l, [], 0, true, false⟩ (hd l.length [] true) pb lb A4 c4 l kn) := Aside0.mk h13
          clear h13 G12
          go_wp2_with fail
          refine (G13.out.two.swap.tick_yes 1 (by simp) (by simp) (by simp [dueB]) (by simp) (by simp)).mono ?_
          rintro e w14 ⟨A14, c14, rfl, Sb14, h14, hw14, hf14⟩
          rw [show (hd l.length [] true).wait.length = 0 from rfl]
          replace hf14 : Free w14 (Un Sb14 Sa4) (.slice A14 0 c14) [] := hf14
          have hbx := h14.box #[.int .i64 0, .slice A14 0 c14, .int .i64 l.length] 36
          have h14 := Aside0.mk (h14.below (below_alloc (Below.refl _ _) (.cells #[.int .i64 0, .slice A14 0 c14, .int .i64 l.length] 36)))
          have hf14 := Aside0.mk (hf14.went (Went.of_below (below_alloc (Below.refl _ _) (.cells #[.int .i64 0, .slice A14 0 c14, .int .i64 l.length] 36))))
          clear hw14 G13
          have y0 := blk_cell hbx.at_ 0
          have y1 := blk_cell hbx.at_ 1
          have y2 := blk_cell hbx.at_ 2
          clear hbx
          go_wp2_with fail
          clear y0 y1 y2
          generalize w14.alloc _ = w15 at h14 hf14 ⊢
          refine (h14.out.swap.hear 0 l.length A14 c14 0 [] rfl hf14.out.swap (by simp [badP]) (Int.le_refl _) ⟨by simp, by simp, by simp; omega, by simp, by simp, by simp, by simp⟩ 0 _ rfl (hear4 l hpos)).mono ?_
          rintro e w16 ⟨rfl, Sa16, h16, -⟩
          obtain ⟨Sw, Sg, vw, vg, hkk⟩ := h16.a
          obtain ⟨Aw, cw, rfl, -, -⟩ := Kd.R_reads hkk.wait
          have hx6 : w16.cell? ⟨ga, 6, none⟩ = some (.slice Aw 0 cw) := blk_cell hkk.blk 6
          have HF := Aside0.mk h16.fr
          clear hkk h16 h14 hf14
          go_wp2
          all_goals (go_ret; exact ⟨rfl, HF.out⟩)
end Go.Proofs.Yteeljnlhgaljaaa
