/- By hand: a new end of a talk; begin. -/
import Derived.Test.YteeljnlhgaljaaaI
namespace Go.Proofs.Yteeljnlhgaljaaa
set_option linter.unusedVariables false
set_option linter.unusedSimpArgs false
open Go.RowKit Go.Proofs.YteeljnlhgaljaaaW.PrintWords Go.Proofs.YteeljnlhgaljaaaW.PrintLast Go.Proofs.Yteeljnlhgaljaaa.P

abbrev newTk (most again : Int) : Tk := ⟨most, again, 0, 0, 0, 0, [], [], 0, false, false⟩
theorem isTk_new {w : World} {g : Nat} {most again : Int} (h : w.heap[g]? = some (.cells #[.int .i64 most, .int .i64 again, .int .i64 0, .int .i64 0, .int .i64 0, .int .i64 0, .slice none 0 0, .slice none 0 0, .int .i64 0, .bool false, .bool false] 82 (0, 0))) : IsTk w g (fun k => k = g) (newTk most again) :=
  ⟨fun _ => False, fun _ => False, .slice none 0 0, .slice none 0 0, rfl, fun _ h => h.elim, fun _ h => h.elim, h, Kd.R_nil _ _ _ _ _, Kd.R_nil _ _ _ _ _⟩
set_option maxRecDepth 100000 in
theorem new_ok (most again : Int) (w : World) (h : 1 ≤ most ∧ most ≤ 64 ∧ 1 ≤ again ∧ again ≤ 1000) :
    Calls Try.prog 23 #[.int .i64 most, .int .i64 again] w fun e w' => e = .returned (.tuple #[.pointer (some ⟨w.heap.size, 0, none⟩), .int .i64 0]) ∧ IsTk w' w.heap.size (fun k => k = w.heap.size) (newTk most again) ∧ Below w.heap.size w w' := by
  have k1 : decide (most < 1) = false := decide_eq_false (by omega)
  have k2 : decide (64 < most) = false := decide_eq_false (by omega)
  have k3 : decide (again < 1) = false := decide_eq_false (by omega)
  have k4 : decide (1000 < again) = false := decide_eq_false (by omega)
  clear h
  go_enter Try.func23, Try.ntmps23
  go_wp2
  go_ret2
  exact ⟨rfl, isTk_new (blk_new w _), below_alloc (Below.refl _ _) _⟩
set_option maxRecDepth 100000 in
theorem new_no (most again : Int) (w : World) (h : ¬ (1 ≤ most ∧ most ≤ 64 ∧ 1 ≤ again ∧ again ≤ 1000)) :
    Calls Try.prog 23 #[.int .i64 most, .int .i64 again] w fun e w' => e = .returned (.tuple #[.pointer none, .int .i64 2]) ∧ w = w' := by
  by_cases h1 : most < 1
  · have k1 : decide (most < 1) = true := decide_eq_true h1
    clear h
    go_enter Try.func23, Try.ntmps23
    go_wp2
    go_ret2
    exact ⟨rfl, rfl⟩
  have k1 : decide (most < 1) = false := decide_eq_false h1
  by_cases h2 : 64 < most
  · have k2 : decide (64 < most) = true := decide_eq_true h2
    clear h
    go_enter Try.func23, Try.ntmps23
    go_wp2
    go_ret2
    exact ⟨rfl, rfl⟩
  have k2 : decide (64 < most) = false := decide_eq_false h2
  by_cases h3 : again < 1
  · have k3 : decide (again < 1) = true := decide_eq_true h3
    clear h
    go_enter Try.func23, Try.ntmps23
    go_wp2
    go_ret2
    exact ⟨rfl, rfl⟩
  have k3 : decide (again < 1) = false := decide_eq_false h3
  have k4 : decide (1000 < again) = true := decide_eq_true (by omega)
  clear h
  go_enter Try.func23, Try.ntmps23
  go_wp2
  go_ret2
  exact ⟨rfl, rfl⟩
end Go.Proofs.Yteeljnlhgaljaaa
