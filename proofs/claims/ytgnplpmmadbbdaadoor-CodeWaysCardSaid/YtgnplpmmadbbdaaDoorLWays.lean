/- Whatever the instruction, the place and the number: the words that it reads and writes, where it may go on, and an operation's name, are the document's. -/
import Derived.Test.YtgnplpmmadbbdaaDoorL0
namespace Go.Proofs.YtgnplpmmadbbdaaDoor
open Go.RowKit Go.Proofs.YtgnplpmmadbbdaaDoorW.PrintWords Go.Proofs.YtgnplpmmadbbdaaDoor.P

/-- What holds of each operation, and of what is none, holds of every number. -/
theorem op_cases {p : Int → Prop} (h : ∀ n : Fin 22, p (n.val : Int)) (h2 : ∀ op, op < 0 ∨ 22 ≤ op → p op) (op : Int) : p op := by
  by_cases hc : 0 ≤ op ∧ op < 22
  · have := h ⟨op.toNat, by omega⟩
    rwa [show ((op.toNat : Nat) : Int) = op from by omega] at this
  · exact h2 op (by omega)
theorem kR_which (op : Int) : kR op = whichS op := by
  refine op_cases (p := fun op => kR op = whichS op) (by decide) (fun op h => ?_) op
  unfold kR whichS
  rw [if_neg (by omega), if_neg (by omega), if_neg (by omega), if_neg (by omega), if_neg (by omega)]
theorem writes_same (o a b c : Int) : code_Instr_Writes.f o a b c = baizeref14_Writes.f o a b c := by
  refine op_cases (p := fun o => code_Instr_Writes.f o a b c = baizeref14_Writes.f o a b c) (fun n => ?_) (fun op h => ?_) o
  · have : kW (n.val : Int) = decide (¬ ((n.val : Int) < 1 ∨ (n.val : Int) = 16 ∨ (n.val : Int) > 18)) := by
      revert n; decide
    simp only [code_Instr_Writes.f, code_find.f, Option.bind_some, this, decide_eq_true_eq, baizeref14_Writes.f]
    repeat' split
    all_goals first | rfl | omega
  · have hk : kW op = false := by unfold kW; rw [if_neg (by omega)]
    simp only [code_Instr_Writes.f, code_find.f, Option.bind_some, hk, baizeref14_Writes.f, Bool.false_eq_true, if_false]
    repeat' split
    all_goals first | rfl | omega
theorem writes_is (o a b c : Int) : ∃ r, baizeref14_Writes.f o a b c = some r := by
  unfold baizeref14_Writes.f
  repeat' split
  all_goals exact ⟨_, rfl⟩
theorem next_same (o a b c t : Int) (k : Nat) : ∃ r, code_Instr_Next.f (k + 1) o a b c t = some r ∧ baizeref14_Next.f (k + 1) o a b c t = some r ∧ r.length ≤ 2 := by
  simp only [code_Instr_Next.f, code_find.f, Option.bind_some, baizeref14_Next.f, isOp]
  by_cases h1 : o < 1
  · by_cases h0 : o = 0
    · subst h0
      exact ⟨[], rfl, rfl, by simp⟩
    · refine ⟨[], ?_, ?_, by simp⟩
      · rw [if_neg (by simp; omega)]; rfl
      · rw [if_pos h1]; rfl
  · rw [if_neg h1]
    by_cases h2 : 21 < o
    · refine ⟨[], ?_, ?_, by simp⟩
      · rw [if_neg (by simp; omega)]; rfl
      · rw [show decide (o > 21) = true by simpa using h2]; rfl
    · rw [if_pos (by simp; omega), show decide (o > 21) = false by simp; omega, show (o == 0) = false by simp; omega]
      simp only [code_Instr_Next.j0, baizeref14_Next.j0, Bool.false_eq_true, if_false]
      by_cases h3 : o = 19
      · rw [if_pos h3, if_pos h3]; exact ⟨_, rfl, rfl, by simp⟩
      · rw [if_neg h3, if_neg h3]
        by_cases h4 : o > 19
        · rw [if_pos h4]
          rcases (show o = 20 ∨ o = 21 by omega) with rfl | rfl
          · simp only [if_true]
            split <;> exact ⟨_, rfl, rfl, by simp⟩
          · simp only [if_true]
            rw [if_neg (by omega)]
            split <;> exact ⟨_, rfl, rfl, by simp⟩
        · rw [if_neg h4, if_neg (by omega), if_neg (by omega)]; exact ⟨_, rfl, rfl, by simp⟩
theorem word_same (o : Int) : ∃ s, code_Word.f o = some s ∧ baizeref14_Word.f o = some s := by
  refine op_cases (p := fun o => ∃ s, code_Word.f o = some s ∧ baizeref14_Word.f o = some s) (fun n => ?_) (fun op h => ?_) o
  · have : ∀ n : Fin 22, baizeref14_Word.f (n.val : Int) = code_Word.f (n.val : Int) := by decide
    exact ⟨_, rfl, (this n).trans rfl⟩
  · refine ⟨⟨#[]⟩, ?_, ?_⟩
    · simp only [code_Word.f, code_find.f, Option.bind_some, kN]
      rw [if_neg (by omega)]
    · unfold baizeref14_Word.f
      by_cases h1 : op < 0
      · rw [if_pos h1]
      · rw [if_neg h1, if_pos (by omega)]

theorem codeWays_pure (o a b c t u : Int) : ∃ k, baizelaw14_CodeWays.f k o a b c t u = some true := by
  refine ⟨5, ?_⟩
  unfold baizelaw14_CodeWays.f
  rw [known_some 5 (by decide)]
  simp only [Option.bind_some, if_true]
  by_cases ht : t = 9223372036854775807
  · rw [if_pos ht]
  · rw [if_neg ht]
    obtain ⟨r, hw⟩ := writes_is o a b c
    obtain ⟨n, hn1, hn2, hn⟩ := next_same o a b c t 4
    obtain ⟨s1, hs1, hs2⟩ := word_same u
    obtain ⟨s3, hs3, hs4⟩ := word_same o
    have hr : (readsL (kR o).data.toList a b c).length ≤ 2 := Nat.le_trans (readsL_len _ _ _ _) (kR_size o)
    simp only [code_Instr_Reads.f, baizeref14_Reads.f, ← kR_which, Option.bind_some, ints_some _ _ (Nat.le_trans hr (by decide)) 5 (by omega), decide_true, if_true, writes_same, hw, hn1, hn2, ints_some _ _ (Nat.le_trans hn (by decide)) 5 (by omega), hs1, hs2, hs3, hs4, beq_self_eq_true]
end Go.Proofs.YtgnplpmmadbbdaaDoor
