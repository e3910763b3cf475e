/- By hand: is a message too long? -/
import Derived.Test.YteeljnlhgaljaaaS
namespace Go.Proofs.Yteeljnlhgaljaaa
set_option linter.unusedVariables false
set_option linter.unusedSimpArgs false
open Go.RowKit Go.Proofs.YteeljnlhgaljaaaW.PrintWords Go.Proofs.YteeljnlhgaljaaaW.PrintLast Go.Proofs.Yteeljnlhgaljaaa.P

def longM (m : List Int) : Bool := decide (4096 < m.length)
theorem hear1_any (A : Option Addr) (n c : Nat) (w : World) : Calls Try.prog 37 #[.slice A n c] w fun e w' => e = .returned (.bool (decide ((4096 : Int) < (n : Int)))) ∧ w = w' := by
  go_enter Try.func37, Try.ntmps37
  go_wp2
  go_ret
  exact ⟨rfl, rfl⟩
/-- The number of the first one that is too long, or less than none. -/
def firstLong : List (List Int) → Int
  | [] => -1
  | m :: r => if longM m then 0 else if firstLong r < 0 then -1 else firstLong r + 1
theorem firstLong_any (l : List (List Int)) : decide (0 ≤ firstLong l) = l.any longM := by
  induction l with
  | nil => rfl
  | cons m r ih =>
    rw [firstLong, List.any_cons]
    cases h : longM m
    · rw [← ih]
      simp only [Bool.false_or, Bool.false_eq_true, if_false]
      by_cases h2 : firstLong r < 0
      · rw [if_pos h2]; simp; omega
      · rw [if_neg h2]; simp; omega
    · simp
theorem firstLong_at (l : List (List Int)) (k : Nat) (hk : k < l.length) (h0 : ∀ j (hj : j < l.length), j < k → longM l[j] = false) (h : longM l[k] = true) : firstLong l = (k : Int) := by
  induction l generalizing k with
  | nil => simp at hk
  | cons m r ih =>
    cases k with
    | zero => simp [firstLong, show longM m = true from h]
    | succ k =>
      have h1 := h0 0 (by simp) (by omega)
      have h2 := ih k (by simpa using hk) (fun j hj hlt => by have := h0 (j + 1) (by simpa using hj) (by omega); simpa using this) (by simpa using h)
      rw [firstLong, if_neg (by simpa using h1), h2, if_neg (by omega)]
      omega
theorem firstLong_none (l : List (List Int)) (h0 : ∀ j (hj : j < l.length), longM l[j] = false) : firstLong l = -1 := by
  induction l with
  | nil => rfl
  | cons m r ih =>
    have h1 := h0 0 (by simp)
    have h2 := ih (fun j hj => by have := h0 (j + 1) (by simpa using hj); simpa using this)
    rw [firstLong, if_neg (by simpa using h1), h2]
    rfl
set_option maxRecDepth 100000 in
theorem indexLong_any (l : List (List Int)) (A : Option Addr) (c : Nat) (w : World) (hl : Kd.C kM w A l.length l) :
    Calls Try.prog 42 #[.slice A l.length c, .func (.func 37) #[] #[]] w fun e w' => e = .returned (.int .i64 (firstLong l)) ∧ w = w' := by
  have hL := Aside0.mk hl
  have hn : l.length ≤ 9223372036854775807 := hl.2.1
  clear hl
  go_enter Try.func42, Try.ntmps42
  go_wp2
  go_loopw [8] (fun i wr => ∃ k : Nat, k ≤ l.length ∧ i = .int .i64 k ∧ Aside0 (∀ j (hj : j < l.length), j < k → longM l[j] = false) ∧ w = wr) (fun i _ => l.length - (intOf i).toNat)
  case atStart => exact ⟨0, by omega, rfl, ⟨fun j hj h => by omega⟩, rfl⟩
  case round =>
    obtain ⟨k, hkl, rfl, hF, rfl⟩ := hrel
    by_cases hlt : k < l.length
    · obtain ⟨ad, B, d, rfl, hx, hld, hC⟩ := at_L1 hL.out (k : Int) (by omega) (by omega)
      have hrd : rd_L1 l (k : Int) = l[k] := by simp [rd_L1, List.getD, hlt]
      rw [hrd] at hx hld hC
      simp only [Int.toNat_natCast] at hx
      clear hC hrd hld
      have HF1 := Aside0.mk (fun h : longM l[k] = true => firstLong_at l k hlt (fun j hj h' => hF.out j hj h') h)
      obtain ⟨m, hm⟩ : ∃ m, m = l[k] := ⟨_, rfl⟩
      rw [← hm] at hx HF1
      have HM := Aside0.mk hm
      clear hm
      by_cases hb : 4096 < m.length
      all_goals
        have Hb := Aside0.mk hb
        clear hb
        go_wp2_with fail
        refine (hear1_any B m.length d _).mono ?_
        rintro e w1 ⟨rfl, rfl⟩
      · rw [show decide ((4096 : Int) < (m.length : Int)) = true from decide_eq_true (by have := Hb.out; omega)]
        go_wp2
        go_ret
        exact ⟨congrArg (fun z => Ending.returned (Value.int .i64 z)) (HF1.out (decide_eq_true Hb.out)).symm, rfl⟩
      · rw [show decide ((4096 : Int) < (m.length : Int)) = false from decide_eq_false (by have := Hb.out; omega)]
        go_wp2
        go_roundw
        case rel =>
          refine ⟨k + 1, by omega, by go_num, ⟨fun j hj h => ?_⟩, trivial⟩
          rcases (show j < k ∨ j = k by omega) with h' | rfl
          · exact hF.out j hj h'
          · rw [← HM.out]; exact decide_eq_false Hb.out
        case measure => simp [intOf]; omega
    · go_wp2
      go_ret
      exact ⟨congrArg (fun z => Ending.returned (Value.int .i64 z)) (firstLong_none l (fun j hj => hF.out j hj (by omega))).symm, rfl⟩
theorem containsLong_any (l : List (List Int)) (A : Option Addr) (c : Nat) (w : World) (hl : Kd.C kM w A l.length l) :
    Calls Try.prog 36 #[.slice A l.length c, .func (.func 37) #[] #[]] w fun e w' => e = .returned (.bool (l.any longM)) ∧ w = w' := by
  rw [← firstLong_any]
  generalize hz : firstLong l = z
  have HZ := Aside0.mk hz
  have hL := Aside0.mk hl
  clear hl hz
  go_enter Try.func36, Try.ntmps36
  go_wp2_with fail
  refine (indexLong_any l A c _ hL.out).mono ?_
  rintro e w1 ⟨rfl, rfl⟩
  rw [HZ.out]
  go_wp2
  go_ret
  exact ⟨rfl, rfl⟩
end Go.Proofs.Yteeljnlhgaljaaa
