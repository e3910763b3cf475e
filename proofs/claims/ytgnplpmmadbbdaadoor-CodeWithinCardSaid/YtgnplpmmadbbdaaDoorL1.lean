/- Plain facts: a list of instructions turned into the program's own; the first one that may not be, as the document's text finds it. -/
import Derived.Test.YtgnplpmmadbbdaaDoorK
import Derived.Test.YtgnplpmmadbbdaaDoorPx4
namespace Go.Proofs.YtgnplpmmadbbdaaDoor
set_option linter.unusedVariables false
set_option linter.unusedSimpArgs false
open Go.RowKit Go.Proofs.YtgnplpmmadbbdaaDoorW.PrintWords Go.Proofs.YtgnplpmmadbbdaaDoor.P

theorem wrap64_nat (i n : Nat) (h : i < n) (hn : n ≤ 9223372036854775807) : wrap64 ((i : Int) + 1) = ((i + 1 : Nat) : Int) := by unfold wrap64; omega
def cv (x : S23) : S24 := ⟨x.f0, x.f1, x.f2, x.f3⟩
theorem rd23 (l : List S23) (i : Nat) (h : i < l.length) : rd_T23 l (i : Int) = l[i] := by simp [rd_T23, List.getD, h]
theorem of_l0 (l : List S23) (hl : l.length ≤ 1000000) : ∀ (d k i : Nat) (out : List S24), l.length - i = d → d < k → i ≤ l.length → out.length ≤ i →
    baizelaw14_Of.l0 k out l (l.length : Int) (i : Int) = some (out ++ (l.drop i).map cv) := by
  intro d
  induction d with
  | zero =>
    intro k i out hd hk hi ho
    obtain ⟨k, rfl⟩ : ∃ j, k = j + 1 := ⟨k - 1, by omega⟩
    simp only [baizelaw14_Of.l0]
    rw [if_neg (by omega), List.drop_eq_nil_of_le (by omega)]
    simp
  | succ d ih =>
    intro k i out hd hk hi ho
    obtain ⟨k, rfl⟩ : ∃ j, k = j + 1 := ⟨k - 1, by omega⟩
    have h1 : i < l.length := by omega
    simp only [baizelaw14_Of.l0]
    rw [if_pos (by omega), if_pos (by omega), if_pos (by omega), if_pos (by omega), rd23 l i h1, wrap64_nat i l.length h1 (by omega), ih k (i + 1) _ (by omega) (by omega) (by omega) (by simp; omega), List.drop_eq_getElem_cons h1, List.map_cons, List.append_assoc]
    rfl
theorem of_some (l : List S23) (hl : l.length ≤ 1000000) (k : Nat) (hk : l.length < k) : baizelaw14_Of.f k l = some (l.map cv) := by
  have := of_l0 l hl l.length k 0 [] (by omega) hk (by omega) (by simp)
  simpa [baizelaw14_Of.f] using this

theorem refCheck_l0 (l : List S23) (words : Int) (hl : l.length ≤ 1000000) : ∀ (d k i : Nat), l.length - i = d → d < k → i ≤ l.length → (∀ j (hj : j < i) (hj2 : j < l.length), rightS l.length words (cv l[j]) = true) →
    baizeref14_Check.l0 k l words (i : Int) = some (if 0 ≤ firstOf (fun x => !rightS l.length words x) (l.map cv) then (firstOf (fun x => !rightS l.length words x) (l.map cv), 3) else (-1, 0)) := by
  intro d
  induction d with
  | zero =>
    intro k i hd hk hi h
    obtain ⟨k, rfl⟩ : ∃ j, k = j + 1 := ⟨k - 1, by omega⟩
    simp only [baizeref14_Check.l0]
    rw [if_neg (by omega), firstOf_none (fun j hj => by simp at hj ⊢; exact h j (by omega) hj)]
    rfl
  | succ d ih =>
    intro k i hd hk hi h
    obtain ⟨k, rfl⟩ : ∃ j, k = j + 1 := ⟨k - 1, by omega⟩
    have h1 : i < l.length := by omega
    simp only [baizeref14_Check.l0]
    rw [if_pos (by omega), if_pos (by omega), rd23 l i h1]
    simp only [baizeref14_Right.f, Option.bind_some]
    show (if rightS l.length words (cv l[i]) = true then _ else _) = _
    by_cases hr : rightS l.length words (cv l[i]) = true
    · rw [if_pos hr, wrap64_nat i l.length h1 (by omega), ih k (i + 1) (by omega) (by omega) (by omega)]
      intro j hj hj2
      rcases (show j < i ∨ j = i by omega) with h' | rfl
      · exact h j h' hj2
      · exact hr
    · rw [if_neg hr, firstOf_at (k := i) (by simp; omega) (fun j hj => by simp; exact h j hj (by omega)) (by simp; simpa using hr), if_pos (by omega)]
theorem refCheck_some (l : List S23) (words : Int) (hl : l.length ≤ 1000000) (k : Nat) (hk : l.length + 1 < k) : baizeref14_Check.f k l words = some (checkP (l.map cv) words) := by
  obtain ⟨k, rfl⟩ : ∃ j, k = j + 1 := ⟨k - 1, by omega⟩
  unfold baizeref14_Check.f checkP
  rw [List.length_map]
  by_cases h1 : words < 1
  · rw [if_pos h1, if_pos (.inl h1)]; rfl
  · rw [if_neg h1]
    by_cases h2 : words > 256
    · rw [if_pos h2, if_pos (by omega)]; rfl
    · rw [if_neg h2]
      by_cases h3 : (l.length : Int) = 0
      · rw [if_pos h3, if_pos (by omega)]; rfl
      · rw [if_neg h3]
        by_cases h4 : (l.length : Int) > 2048
        · rw [if_pos (by omega), decide_eq_true h4]; rfl
        · rw [if_neg (by omega), decide_eq_false h4]
          simp only [baizeref14_Check.j0, Bool.false_eq_true, if_false]
          exact refCheck_l0 l words hl l.length k 0 (by omega) (by omega) (by omega) (fun j hj => by omega)
end Go.Proofs.YtgnplpmmadbbdaaDoor
