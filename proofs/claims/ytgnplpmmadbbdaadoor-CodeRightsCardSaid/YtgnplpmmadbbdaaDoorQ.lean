/- The kinds of the laws' arguments can be opened. -/
import Derived.Test.YtgnplpmmadbbdaaDoorO
import Derived.Test.YtgnplpmmadbbdaaDoorPx0
namespace Go.Proofs.YtgnplpmmadbbdaaDoor
open Go.RowKit Go.Proofs.YtgnplpmmadbbdaaDoorW.PrintWords
theorem o3 : Opens Tryd.prog 3 (Kd.int .i64) (fun a => (Lit.int .i64 a).wf = true) := opens_int Tryd.underlying3
theorem o23 : Opens Tryd.prog 23 P.k23 (fun _ => True) := opens_imp (opens_iso (opens_struct Tryd.underlying23 (.cons o3 rfl (by kernel_rfl) (.cons o3 rfl (by kernel_rfl) (.cons o3 rfl (by kernel_rfl) (.one o3 rfl (by kernel_rfl))))) (by kernel_rfl)) (fun x : P.S23 => (x.f0, x.f1, x.f2, x.f3)) (fun a => ⟨a.1, a.2.1, a.2.2.1, a.2.2.2⟩) (fun _ => rfl)) (fun _ _ => trivial)
theorem o39 : Opens Tryd.prog 39 (Kd.slice 23 P.k23) (fun l => l.length ≤ maxLen) := opens_imp (opens_slice Tryd.underlying39 (by kernel_rfl) o23) (fun _ h => h.1)
theorem o5 : Opens Tryd.prog 5 (Kd.int .u8) (fun a => (Lit.int .u8 a).wf = true) := opens_int Tryd.underlying5
theorem o48 : Opens Tryd.prog 48 (Kd.slice 5 (Kd.int .u8)) (fun l => l.length ≤ maxLen ∧ ∀ a ∈ l, (Lit.int .u8 a).wf = true) := opens_slice Tryd.underlying48 (by kernel_rfl) o5
end Go.Proofs.YtgnplpmmadbbdaaDoor
