/- By hand: a copy of messages. -/
import Derived.Test.YteeljnlhgaljaaaPx4
import Derived.Test.YteeljnlhgaljaaaU
namespace Go.Proofs.Yteeljnlhgaljaaa
set_option linter.unusedVariables false
set_option linter.unusedSimpArgs false
open Go.RowKit Go.Proofs.YteeljnlhgaljaaaW.PrintWords Go.Proofs.YteeljnlhgaljaaaW.PrintLast Go.Proofs.Yteeljnlhgaljaaa.P

theorem copied_l0 (l : List (List Int)) (hl : l.length < 1000000) (hm : ∀ m ∈ l, m.length < 140737488355328) : ∀ (n i : Nat), i + n = l.length → talk_copied.l0 (n + 1) (l.take i) l (l.length : Int) (i : Int) = some l := by
  intro n
  induction n with
  | zero =>
    intro i hi
    have : ¬ ((i : Int) < (l.length : Int)) := by omega
    rw [talk_copied.l0, if_neg this, List.take_of_length_le (by omega)]
  | succ n ih =>
    intro i hi
    have hlt : i < l.length := by omega
    have h1 : (i : Int) < (l.length : Int) := by omega
    have h0 : (0 : Int) ≤ (i : Int) := by omega
    have hg : rd_L1 l (i : Int) = l[i] := by simp [rd_L1, List.getD, hlt]
    have hw : wrap64 ((i : Int) + 1) = ((i + 1 : Nat) : Int) := by unfold wrap64; omega
    have ht : (l.take i).length < 5864062014805 := by rw [List.length_take]; omega
    have hf : slices_Clone_byte_byte.f (rd_L1 l (i : Int)) = some (rd_L1 l (i : Int)) := if_pos (by rw [hg]; exact hm _ (List.getElem_mem hlt))
    rw [talk_copied.l0, if_pos h1, if_pos h0, if_pos h1, hf, Option.bind_some, if_pos ht, hw]
    have hs : l.take i ++ [rd_L1 l (i : Int)] = l.take (i + 1) := by rw [hg, List.take_add_one]; simp [hlt]
    rw [hs]
    exact ih (i + 1) (by omega)
theorem copied_some (l : List (List Int)) (hl : l.length < 1000000) (hm : ∀ m ∈ l, m.length < 140737488355328) : talk_copied.f (l.length + 1) l = some l := by
  have := copied_l0 l hl hm l.length 0 (by omega)
  simpa [talk_copied.f] using this
theorem copied_ok (A : Option Addr) (c : Nat) (l : List (List Int)) (w : World) (h : Kd.C kM w A l.length l) (hc : l.length ≤ c) (hl : l.length < 1000000) (hm : ∀ m ∈ l, m.length < 140737488355328) :
    Calls Try.prog 35 #[.slice A l.length c] w fun e w' => ∃ v : Value, e = .returned v ∧ kM.R 34 w' w.heap.size (fun _ => True) v l ∧ Below w.heap.size w w' := by
  refine (talk_copied.calls (l.length + 1) A c l l w h hc (copied_some l hl hm)).mono ?_
  rintro e w' ⟨v, rfl, hs, hb⟩
  exact ⟨v, rfl, Kd.S_R hs, hb⟩
end Go.Proofs.Yteeljnlhgaljaaa
