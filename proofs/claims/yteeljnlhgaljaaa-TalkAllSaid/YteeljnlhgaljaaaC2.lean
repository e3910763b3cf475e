/- By hand: whether rows of messages are the same; words, and lists of them. -/
import Derived.Test.YteeljnlhgaljaaaC1
import Derived.Test.YteeljnlhgaljaaaPx3
import Derived.Test.YteeljnlhgaljaaaPx2
namespace Go.Proofs.Yteeljnlhgaljaaa
set_option linter.unusedVariables false
set_option linter.unusedSimpArgs false
open Go.RowKit Go.Proofs.YteeljnlhgaljaaaW.PrintWords Go.Proofs.YteeljnlhgaljaaaW.PrintLast Go.Proofs.Yteeljnlhgaljaaa.P

theorem equal_l0 (a b : List Int) (hab : a.length = b.length) (hl : a.length < 140737488355328) : ∀ (n i : Nat), i + n = a.length → slices_Equal_byte_byte.l0 (n + 1) a b (a.length : Int) (i : Int) = some (decide (a.drop i = b.drop i)) := by
  intro n
  induction n with
  | zero =>
    intro i hi
    have : ¬ ((i : Int) < (a.length : Int)) := by omega
    rw [slices_Equal_byte_byte.l0, if_neg this, List.drop_of_length_le (by omega), List.drop_of_length_le (by omega)]
    simp
  | succ n ih =>
    intro i hi
    have hlt : i < a.length := by omega
    have hlt2 : i < b.length := by omega
    have h1 : (i : Int) < (a.length : Int) := by omega
    have h2 : (i : Int) < (b.length : Int) := by omega
    have h0 : (0 : Int) ≤ (i : Int) := by omega
    have hg : rd a (i : Int) = a[i] := by simp [rd, List.getD, hlt]
    have hg2 : rd b (i : Int) = b[i] := by simp [rd, List.getD, hlt2]
    have hw : wrap64 ((i : Int) + 1) = ((i + 1 : Nat) : Int) := by unfold wrap64; omega
    rw [slices_Equal_byte_byte.l0, if_pos h1, if_pos h0, if_pos h1, if_pos h2, hg, hg2, hw]
    rw [List.drop_eq_getElem_cons hlt, List.drop_eq_getElem_cons hlt2]
    by_cases he : a[i] = b[i]
    · rw [if_pos he, ih (i + 1) (by omega)]
      simp only [List.cons.injEq, he, true_and]
    · rw [if_neg he]
      simp only [List.cons.injEq, he, false_and, decide_false]
theorem equal_some (a b : List Int) (hl : a.length < 140737488355328) : slices_Equal_byte_byte.f (a.length + 1) a b = some (decide (a = b)) := by
  unfold slices_Equal_byte_byte.f
  by_cases h : a.length = b.length
  · rw [if_pos (by omega)]
    have := equal_l0 a b h hl a.length 0 (by omega)
    simpa using this
  · rw [if_neg (by omega)]
    have : a ≠ b := fun e => h (by rw [e])
    simp [this]
/-- A message by its number. -/
def wordL (a : Int) (n : Nat) : List Int := [a, (n : Int) % 256, ((n : Int) / 256) % 256]
theorem word_ok (a : Int) (n : Nat) (hn : n < 1000000) (w : World) :
    Calls Try.prog 24 #[.int .u8 a, .int .i64 (n : Int)] w fun e w' => ∃ A c, e = .returned (.slice A 3 c) ∧ Kd.C (Kd.int .u8) w' A 3 (wordL a n) ∧ 3 ≤ c ∧ Below w.heap.size w w' := by
  have hd : wrap64 (Int.tdiv (n : Int) 256) = (n : Int) / 256 := by
    rw [Int.tdiv_eq_ediv_of_nonneg (by omega)]
    unfold wrap64
    omega
  refine (baizelaw44_word.calls a n (wordL a n) w (by unfold baizelaw44_word.f wordL; rw [hd])).mono ?_
  rintro e w' ⟨v, rfl, hR, hb⟩
  obtain ⟨A, c, rfl, hc, hC⟩ := Kd.R_reads hR
  exact ⟨A, c, rfl, hC, hc, hb⟩
/-- The first n messages. -/
def wordsL (a : Int) (n : Nat) : List (List Int) := (List.range n).map (wordL a)
theorem wordsL_len (a : Int) (n : Nat) : (wordsL a n).length = n := by simp [wordsL]
theorem wordsL_succ (a : Int) (n : Nat) : wordsL a (n + 1) = wordsL a n ++ [wordL a n] := by simp [wordsL, List.range_succ]
theorem lists_l0 (a : Int) (n : Nat) (hn : n < 1000000) : ∀ (m i : Nat), i + m = n → baizelaw44_lists.l0 (m + 1) a (n : Int) (wordsL a i) (i : Int) = some (wordsL a n) := by
  intro m
  induction m with
  | zero =>
    intro i hi
    have : ¬ ((i : Int) < (n : Int)) := by omega
    rw [baizelaw44_lists.l0, if_neg this, show i = n by omega]
  | succ m ih =>
    intro i hi
    have h1 : (i : Int) < (n : Int) := by omega
    have hw : wrap64 ((i : Int) + 1) = ((i + 1 : Nat) : Int) := by unfold wrap64; omega
    have hd : wrap64 (Int.tdiv (i : Int) 256) = (i : Int) / 256 := by
      rw [Int.tdiv_eq_ediv_of_nonneg (by omega)]
      unfold wrap64
      omega
    have hf : baizelaw44_word.f a (i : Int) = some (wordL a i) := by unfold baizelaw44_word.f wordL; rw [hd]
    rw [baizelaw44_lists.l0, if_pos h1, hf, Option.bind_some, if_pos (by rw [wordsL_len]; omega), hw, ← wordsL_succ]
    exact ih (i + 1) (by omega)
theorem lists_ok (a : Int) (n : Nat) (hn : n < 1000000) (w : World) :
    Calls Try.prog 18 #[.int .u8 a, .int .i64 (n : Int)] w fun e w' => ∃ A c, e = .returned (.slice A (wordsL a n).length c) ∧ Kd.C kM w' A (wordsL a n).length (wordsL a n) ∧ Below w.heap.size w w' := by
  refine (baizelaw44_lists.calls (n + 1) a n (wordsL a n) w (by have := lists_l0 a n hn n 0 (by omega); simpa [baizelaw44_lists.f, wordsL] using this)).mono ?_
  rintro e w' ⟨v, rfl, hS, hb⟩
  obtain ⟨A, c, rfl, hc, hC⟩ := Kd.R_reads (Kd.S_R hS)
  exact ⟨A, c, rfl, hC, hb⟩
set_option maxRecDepth 100000 in
set_option maxHeartbeats 1000000 in
theorem equals_ok (A0 : Option Addr) (c0 : Nat) (l0 : List (List Int)) (A1 : Option Addr) (c1 : Nat) (l1 : List (List Int)) (w : World) (h0 : Kd.C kM w A0 l0.length l0) (h1 : Kd.C kM w A1 l1.length l1) (hlen : l0.length < 1000000) (hm : ∀ m ∈ l0, m.length < 140737488355328) :
    Calls Try.prog 40 #[.slice A0 l0.length c0, .slice A1 l1.length c1, .func (.func 41) #[] #[]] w fun e w' => e = .returned (.bool (decide (l0 = l1))) ∧ Drawn0 w w' := by
  have HR0 := Aside0.mk h0
  have HR1 := Aside0.mk h1
  have HLen := Aside0.mk hlen
  have HM := Aside0.mk hm
  clear h0 h1 hlen hm
  by_cases hl : l0.length = l1.length
  · have c3b1 : ((l0.length : Int) != (l1.length : Int)) = false := by simp; omega
    have HL := Aside0.mk hl
    clear hl
    go_enter Try.func40, Try.ntmps40
    go_wp2
    go_loopw [17] (fun v17 wr => ∃ k : Nat, v17 = .int .i64 (k : Int) ∧ Aside0 (k ≤ l0.length) ∧ Aside0 (l0.take k = l1.take k) ∧ Drawn0 w wr) (fun v17 wr => (l0.length - intOf v17).toNat)
    case atStart => exact ⟨0, by go_num, ⟨by omega⟩, ⟨rfl⟩, Drawn0.refl _⟩
    case round =>
      obtain ⟨k, rfl, hk, hall, ⟨m1, rfl⟩⟩ := hrel
      clear c3b1
      by_cases hlt : k < l0.length
      · have hlt1 : k < l1.length := by have := HL.out; omega
        have h1 : decide ((k : Int) < (l0.length : Int)) = true := decide_eq_true (by omega)
        have hk0 : (0 : Int) ≤ (k : Int) := by omega
        have q101 : (k : Int) < (l0.length : Int) := by omega
        have q102 : (k : Int) < (l1.length : Int) := by have := HL.out; omega
        obtain ⟨ad1, B0, d0, rfl, hx1, hd1, hi1⟩ := at_L1 HR0.out (k : Int) hk0 q101
        obtain ⟨ad2, B1, d1, rfl, hx2, hd2, hi2⟩ := at_L1 HR1.out (k : Int) hk0 q102
        have hrd0 : rd_L1 l0 (k : Int) = l0[k] := by simp [rd_L1, List.getD, hlt]
        have hrd1 : rd_L1 l1 (k : Int) = l1[k] := by simp [rd_L1, List.getD, hlt1]
        rw [hrd0] at hx1 hd1 hi1
        rw [hrd1] at hx2 hd2 hi2
        simp only [Int.toNat_natCast] at hx1 hx2
        have HS0 := Aside0.mk (show l0.take (k + 1) = l0.take k ++ [l0[k]] from List.take_succ_eq_append_getElem hlt)
        have HS1 := Aside0.mk (show l1.take (k + 1) = l1.take k ++ [l1[k]] from List.take_succ_eq_append_getElem hlt1)
        have HML := Aside0.mk (HM.out l0[k] (List.getElem_mem hlt))
        have HNE := Aside0.mk (fun (h : l0 = l1) => show l0[k] = l1[k] by subst h; rfl)
        generalize l0[k] = ma at hx1 hd1 hi1 HS0 HML HNE
        generalize l1[k] = mb at hx2 hd2 hi2 HS1 HNE
        have HI1 := Aside0.mk hi1
        have HI2 := Aside0.mk hi2
        have HD1 := Aside0.mk hd1
        have HD2 := Aside0.mk hd2
        have HK1 := Aside0.mk hlt
        clear hi1 hi2 hd1 hd2 hrd0 hrd1 hlt hlt1
        go_wp2_with fail
        refine (slices_Equal_byte_byte.calls (ma.length + 1) B0 d0 ma B1 d1 mb _ _ (Kd.C_below HI1.out (pw_below_drewN (Below.refl _ _) _)) HD1.out (Kd.C_below HI2.out (pw_below_drewN (Below.refl _ _) _)) HD2.out (equal_some ma mb HML.out)).mono ?_
        rintro e w1 ⟨rfl, ⟨m2, rfl⟩⟩
        have hkw : wrap64 ((k : Int) + 1) = (k : Int) + 1 := by have := HK1.out; have := HLen.out; unfold wrap64; omega
        have hkw2 : IntKind.i64.wrap ((k : Int) + 1) = (k : Int) + 1 := IntWalk.i64_in _ (by have := HK1.out; have := HLen.out; omega)
        by_cases heq : ma = mb
        · rw [decide_eq_true heq]
          have HEQ := Aside0.mk heq
          clear heq
          go_wp2
          go_roundw
          case rel => exact ⟨k + 1, by go_num, ⟨HK1.out⟩, ⟨by rw [HS0.out, HS1.out, hall.out, HEQ.out]⟩, ⟨_, rfl⟩⟩
          case measure => simp [intOf]; have := HK1.out; omega
        · rw [decide_eq_false heq]
          have HNQ := Aside0.mk (decide_eq_false (fun h => heq (HNE.out h)))
          clear heq
          go_wp2
          go_ret
          exact ⟨by rw [HNQ.out]; rfl, ⟨_, rfl⟩⟩
      · have h1 : decide ((k : Int) < (l0.length : Int)) = false := decide_eq_false (by omega)
        have h2 : ¬ (k : Int) < (l0.length : Int) := by omega
        have hE : l0 = l1 := by
          have := hall.out
          rwa [List.take_of_length_le (by omega), List.take_of_length_le (by have := HL.out; omega)] at this
        have HE := Aside0.mk (decide_eq_true hE)
        clear hlt hE
        go_wp2
        all_goals (go_ret; exact ⟨by rw [HE.out]; rfl, ⟨_, rfl⟩⟩)
  · have c3b1 : ((l0.length : Int) != (l1.length : Int)) = true := by simp; omega
    have : l0 ≠ l1 := fun e => hl (by rw [e])
    rw [decide_eq_false this]
    clear hl this
    go_enter Try.func40, Try.ntmps40
    go_wp2
    go_ret
    exact ⟨rfl, Drawn0.refl _⟩
end Go.Proofs.Yteeljnlhgaljaaa
