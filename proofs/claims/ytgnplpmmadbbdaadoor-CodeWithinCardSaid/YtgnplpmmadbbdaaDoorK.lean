/- The document's examples hold: 'known' answers true, or not at all. -/
import Derived.Test.YtgnplpmmadbbdaaDoorL0
namespace Go.Proofs.YtgnplpmmadbbdaaDoor
set_option linter.unusedVariables false
set_option linter.unusedSimpArgs false
open Go.RowKit Go.Proofs.YtgnplpmmadbbdaaDoorW.PrintWords Go.Proofs.YtgnplpmmadbbdaaDoor.P
theorem known_only (k : Nat) (r : Bool) (h : baizelaw14_known.f k = some r) : r = true := by
  have h1 := baizelaw14_known.mono k r h
  have h2 := baizelaw14_known.mono (k + 1) r h1
  have h3 := baizelaw14_known.mono (k + 2) r h2
  rw [known_some (k + 2 + 1) (by omega)] at h3
  exact (Option.some.inj h3).symm
end Go.Proofs.YtgnplpmmadbbdaaDoor
