/- Plain facts: when two lists of numbers are told the same; the examples of the document hold. -/
import Derived.Test.YtgnplpmmadbbdaaDoorPx3
namespace Go.Proofs.YtgnplpmmadbbdaaDoor
set_option linter.unusedVariables false
set_option linter.unusedSimpArgs false
open Go.RowKit Go.Proofs.YtgnplpmmadbbdaaDoorW.PrintWords Go.Proofs.YtgnplpmmadbbdaaDoor.P

theorem ints_l0 (l m : List Int) (hl : l.length = m.length) (hb : l.length ≤ 4611686018427387904) : ∀ (d k i : Nat), l.length - i = d → d < k → i ≤ l.length →
    baizeref14_Ints.l0 k l m (i : Int) = some (decide (l.drop i = m.drop i)) := by
  intro d
  induction d with
  | zero =>
    intro k i hd hk hi
    obtain ⟨k, rfl⟩ : ∃ j, k = j + 1 := ⟨k - 1, by omega⟩
    simp only [baizeref14_Ints.l0]
    rw [if_neg (by omega), List.drop_eq_nil_of_le (by omega), List.drop_eq_nil_of_le (by omega)]
    rfl
  | succ d ih =>
    intro k i hd hk hi
    obtain ⟨k, rfl⟩ : ∃ j, k = j + 1 := ⟨k - 1, by omega⟩
    have h1 : i < l.length := by omega
    have h2 : i < m.length := by omega
    have r1 : rd l (i : Int) = l[i] := by simp [rd, List.getD, h1]
    have r2 : rd m (i : Int) = m[i] := by simp [rd, List.getD, h2]
    rw [List.drop_eq_getElem_cons h1, List.drop_eq_getElem_cons h2]
    simp only [baizeref14_Ints.l0]
    rw [if_pos (by omega), if_pos (by omega), if_pos (by omega), r1, r2]
    by_cases h : l[i] = m[i]
    · rw [if_pos h, show wrap64 ((i : Int) + 1) = ((i + 1 : Nat) : Int) from by unfold wrap64; omega, ih k (i + 1) (by omega) (by omega) (by omega)]
      congr 1
      rw [h]
      simp only [List.cons.injEq, true_and]
    · rw [if_neg h]
      congr 1
      symm
      simp only [List.cons.injEq, h, false_and, decide_false]
theorem ints_some (l m : List Int) (hb : l.length ≤ 4611686018427387904) (k : Nat) (hk : l.length < k) : baizeref14_Ints.f k l m = some (decide (l = m)) := by
  unfold baizeref14_Ints.f
  by_cases h : l.length = m.length
  · rw [if_pos (by omega)]
    simpa using ints_l0 l m h hb l.length k 0 (by omega) hk (by omega)
  · rw [if_neg (by omega)]
    congr 1
    symm
    exact decide_eq_false (fun e => h (by rw [e]))

theorem known_some (k : Nat) (hk : 3 ≤ k) : baizelaw14_known.f k = some true := by
  have e1 : code_Instr_Reads.f 3 3 1 2 = some [1, 2] := by decide
  have e2 : code_Instr_Writes.f 3 3 1 2 = some 3 := by decide
  have e3 : code_Instr_Reads.f 16 5 1 2 = some [1, 2] := by decide
  have e4 : code_Instr_Writes.f 16 5 1 2 = some (-1) := by decide
  have e5 : code_Word.f 21 = some ⟨#[106, 110, 122]⟩ := by decide
  have ei : baizeref14_Ints.f k [1, 2] [1, 2] = some true := ints_some _ _ (by decide) k (by simp; omega)
  unfold baizelaw14_known.f
  simp only [e1, e2, e3, e4, e5, ei, Option.bind_some, if_true]
  rw [if_pos (by rw [ByteArray.toList_eq])]
end Go.Proofs.YtgnplpmmadbbdaaDoor
