/- Whether an instruction may be, and the first one of a list that may not be: as the document tells it. -/
import Derived.Test.YtgnplpmmadbbdaaDoorL1
namespace Go.Proofs.YtgnplpmmadbbdaaDoor
set_option linter.unusedVariables false
set_option linter.unusedSimpArgs false
open Go.RowKit Go.Proofs.YtgnplpmmadbbdaaDoorW.PrintWords Go.Proofs.YtgnplpmmadbbdaaDoor.P
theorem codeRights_pure (o a b c size words : Int) (l : List S23) : ∃ k, baizelaw14_CodeRights.f k o a b c size words l = some true := by
  refine ⟨305, ?_⟩
  unfold baizelaw14_CodeRights.f
  rw [known_some 305 (by decide)]
  simp only [Option.bind_some, if_true]
  simp only [baizelaw14_CodeRights.j0]
  by_cases h : (l.length : Int) > 300
  · rw [decide_eq_true h, if_pos rfl, known_some 304 (by decide)]; rfl
  · rw [decide_eq_false h]
    simp only [Bool.false_eq_true, if_false, of_some l (by omega) 304 (by omega), Option.bind_some, code_Check.f, refCheck_some l words (by omega) 304 (by omega), code_Instr_Right.f, baizeref14_Right.f, beq_self_eq_true, if_true]
end Go.Proofs.YtgnplpmmadbbdaaDoor
