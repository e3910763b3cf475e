/- The kinds of the laws' arguments can be opened. -/
import Derived.Test.YteeljnlhgaljaaaO
import Derived.Test.YteeljnlhgaljaaaPx0
import Derived.WideKeyPair
namespace Go.Proofs.Yteeljnlhgaljaaa
open Go.RowKit Go.Proofs.YteeljnlhgaljaaaW.PrintWords
theorem o3 : Opens Try.prog 3 (Kd.int .i64) (fun a => (Lit.int .i64 a).wf = true) := opens_int Try.underlying3
theorem o5 : Opens Try.prog 5 (Kd.int .u8) (fun a => (Lit.int .u8 a).wf = true) := opens_int Try.underlying5
theorem o34 : Opens Try.prog 34 (Kd.slice 5 (Kd.int .u8)) (fun l => l.length ≤ maxLen ∧ ∀ a ∈ l, (Lit.int .u8 a).wf = true) := opens_slice Try.underlying34 (by kernel_rfl) o5
theorem o25 : Opens Try.prog 25 (Kd.slice 34 (Kd.slice 5 (Kd.int .u8))) (fun l => l.length ≤ maxLen ∧ ∀ m ∈ l, m.length ≤ maxLen) := opens_imp (opens_slice Try.underlying25 (by kernel_rfl) o34) (fun _ h => ⟨h.1, fun m hm => (h.2 m hm).1⟩)
theorem pair22 : WideMaps.ArrKey Try.prog 22 3 2 := ⟨Try.underlying22, by kernel_rfl, by kernel_rfl, by kernel_rfl⟩
theorem o52 : Opens Try.prog 52 (Kd.slice 3 (Kd.int .i64)) (fun l => l.length ≤ maxLen ∧ ∀ a ∈ l, (Lit.int .i64 a).wf = true) := opens_slice Try.underlying52 (by kernel_rfl) o3
end Go.Proofs.Yteeljnlhgaljaaa
