/- Deeds can be opened. -/
import Derived.Test.YteeljnlhgaljaaaQ
import Derived.Test.YteeljnlhgaljaaaW1
namespace Go.Proofs.Yteeljnlhgaljaaa
open Go.RowKit Go.Proofs.YteeljnlhgaljaaaW.PrintWords
theorem o85 : Opens Try.prog 85 P.k85 (fun _ => True) := opens_imp (opens_iso (opens_struct Try.underlying85 (.cons o3 rfl (by kernel_rfl) (.one o3 rfl (by kernel_rfl))) (by kernel_rfl)) (fun x : P.S85 => (x.f0, x.f1)) (fun x => ⟨x.1, x.2⟩) (fun _ => rfl)) (fun _ _ => trivial)
theorem o40 : Opens Try.prog 40 (Kd.slice 85 P.k85) (fun l => l.length ≤ maxLen) := opens_imp (opens_slice Try.underlying40 (by kernel_rfl) o85) (fun _ h => h.1)
end Go.Proofs.Yteeljnlhgaljaaa
