/- By hand: what Say refuses; due; Got; Idle. -/
import Derived.Test.YteeljnlhgaljaaaT
namespace Go.Proofs.Yteeljnlhgaljaaa
set_option linter.unusedVariables false
set_option linter.unusedSimpArgs false
open Go.RowKit Go.Proofs.YteeljnlhgaljaaaW.PrintWords Go.Proofs.YteeljnlhgaljaaaW.PrintLast Go.Proofs.Yteeljnlhgaljaaa.P

theorem say_nil (v : Value) (w : World) : Calls Try.prog 22 #[.pointer none, v] w fun e w' => e = .returned (.int .i64 1) ∧ w = w' := by
  go_enter Try.func22, Try.ntmps22
  go_wp2
  go_ret
  exact ⟨rfl, rfl⟩
theorem say_long (g : Nat) (A : Option Addr) (n c : Nat) (w : World) (hl : 4096 < n) : Calls Try.prog 22 #[.pointer (some ⟨g, 0, none⟩), .slice A n c] w fun e w' => e = .returned (.int .i64 5) ∧ w = w' := by
  have h1 : decide ((4096 : Int) < (n : Int)) = true := decide_eq_true (by omega)
  go_enter Try.func22, Try.ntmps22
  go_wp2
  all_goals first | (go_ret; exact ⟨rfl, rfl⟩) | (exfalso; omega)
set_option maxRecDepth 100000 in
theorem say_full (g : Nat) (S : Nat → Prop) (t : Tk) (A : Option Addr) (n c : Nat) (w : World) (ht : IsTk w g S t) (hl : n ≤ 4096) (hf : t.most ≤ (t.wait.length : Int)) :
    Calls Try.prog 22 #[.pointer (some ⟨g, 0, none⟩), .slice A n c] w fun e w' => e = .returned (.int .i64 8) ∧ Below w.heap.size w w' := by
  obtain ⟨Sw, Sg, vw, vg, ht⟩ := ht
  obtain ⟨Aw, cw, rfl, hcw, hCw⟩ := Kd.R_reads ht.wait
  have hx0 : w.cell? ⟨g, 0, none⟩ = some (.int .i64 t.most) := blk_cell ht.blk 0
  have hx6 : w.cell? ⟨g, 6, none⟩ = some (.slice Aw t.wait.length cw) := blk_cell ht.blk 6
  have hge : decide (t.most ≤ (t.wait.length : Int)) = true := decide_eq_true hf
  clear ht hCw hcw hf
  go_enter Try.func22, Try.ntmps22
  go_wp2
  go_quiet (fail)
  go_wp2
  go_ret
  exact ⟨rfl, pw_below_drewN (Below.refl _ _) _⟩

/-- Has a packet to go out? -/
def dueB (t : Tk) (now : Int) : Bool := decide (t.gone < t.said) || t.owes || (!t.wait.isEmpty && t.went && decide (t.again ≤ now - t.last))
set_option maxRecDepth 100000 in
set_option maxHeartbeats 1000000 in
theorem due_ok (g : Nat) (S : Nat → Prop) (t : Tk) (now : Int) (w : World) (ht : IsTk w g S t) (hn : 0 ≤ now ∧ now < 2199023255552) (hl : 0 ≤ t.last ∧ t.last < 2199023255552) :
    Calls Try.prog 34 #[.pointer (some ⟨g, 0, none⟩), .int .i64 now] w fun e w' => e = .returned (.bool (dueB t now)) ∧ Below w.heap.size w w' := by
  obtain ⟨Sw, Sg, vw, vg, ht⟩ := ht
  obtain ⟨Aw, cw, rfl, hcw, hCw⟩ := Kd.R_reads ht.wait
  have hx1 : w.cell? ⟨g, 1, none⟩ = some (.int .i64 t.again) := blk_cell ht.blk 1
  have hx2 : w.cell? ⟨g, 2, none⟩ = some (.int .i64 t.said) := blk_cell ht.blk 2
  have hx4 : w.cell? ⟨g, 4, none⟩ = some (.int .i64 t.gone) := blk_cell ht.blk 4
  have hx6 : w.cell? ⟨g, 6, none⟩ = some (.slice Aw t.wait.length cw) := blk_cell ht.blk 6
  have hx8 : w.cell? ⟨g, 8, none⟩ = some (.int .i64 t.last) := blk_cell ht.blk 8
  have hx9 : w.cell? ⟨g, 9, none⟩ = some (.bool t.went) := blk_cell ht.blk 9
  have hx10 : w.cell? ⟨g, 10, none⟩ = some (.bool t.owes) := blk_cell ht.blk 10
  clear ht hCw hcw
  obtain ⟨most, again, said, done, gone, heard, wait, got, last, went, owes⟩ := t
  dsimp only at *
  obtain ⟨hn0, hn1⟩ := hn
  obtain ⟨hl0, hl1⟩ := hl
  by_cases h1 : gone < said
  · have k1 : decide (gone < said) = true := decide_eq_true h1
    rw [show dueB ⟨most, again, said, done, gone, heard, wait, got, last, went, owes⟩ now = true by simp [dueB, k1]]
    go_enter Try.func34, Try.ntmps34
    go_wp2
    go_quiet (fail)
    go_wp2
    go_ret
    exact ⟨rfl, pw_below_drewN (Below.refl _ _) _⟩
  have k1 : decide (gone < said) = false := decide_eq_false h1
  cases owes with
  | true =>
    rw [show dueB ⟨most, again, said, done, gone, heard, wait, got, last, went, true⟩ now = true by simp [dueB]]
    go_enter Try.func34, Try.ntmps34
    go_wp2
    go_quiet (fail)
    go_wp2
    go_ret
    exact ⟨rfl, pw_below_drewN (Below.refl _ _) _⟩
  | false =>
    by_cases h2 : wait = []
    · subst h2
      rw [show dueB ⟨most, again, said, done, gone, heard, [], got, last, went, false⟩ now = false by simp [dueB, k1]]
      go_enter Try.func34, Try.ntmps34
      go_wp2
      go_quiet (fail)
      go_wp2
      go_ret
      exact ⟨rfl, pw_below_drewN (Below.refl _ _) _⟩
    have k2 : ((wait.length : Int) == 0) = false := by
      have : wait.length ≠ 0 := fun e => h2 (List.length_eq_zero_iff.1 e)
      simp only [beq_eq_false_iff_ne, ne_eq]; omega
    have k3 : wait.isEmpty = false := by simpa using h2
    cases went with
    | false =>
      rw [show dueB ⟨most, again, said, done, gone, heard, wait, got, last, false, false⟩ now = false by simp [dueB, k1]]
      go_enter Try.func34, Try.ntmps34
      go_wp2
      go_quiet (fail)
      go_wp2
      go_ret
      exact ⟨rfl, pw_below_drewN (Below.refl _ _) _⟩
    | true =>
      have k4 : dueB ⟨most, again, said, done, gone, heard, wait, got, last, true, false⟩ now = decide (again ≤ now - last) := by simp [dueB, k1, k3]
      rw [k4]
      clear k3 k4 h2
      go_enter Try.func34, Try.ntmps34
      go_wp2
      go_quiet (fail)
      go_wp2
      go_quiet (fail)
      go_wp2
      go_ret
      exact ⟨rfl, pw_below_drewN (pw_below_drewN (Below.refl _ _) _) _⟩
theorem got_nil (w : World) : Calls Try.prog 21 #[.pointer none] w fun e w' => e = .returned (.slice none 0 0) ∧ w = w' := by
  go_enter Try.func21, Try.ntmps21
  go_wp2
  go_ret
  exact ⟨rfl, rfl⟩
/-- All that came is told, and kept no longer. -/
theorem got_ok (g : Nat) (S : Nat → Prop) (t : Tk) (w : World) (ht : IsTk w g S t) :
    Calls Try.prog 21 #[.pointer (some ⟨g, 0, none⟩)] w fun e w' => ∃ (v : Value) (S' So : Nat → Prop), e = .returned v ∧ IsTk w' g S' { t with got := [] } ∧ kM.R 34 w' 0 So v t.got ∧ (∀ k, S' k → S k ∧ ¬ So k) ∧ (∀ k, So k → S k) ∧ Fr S w w' := by
  obtain ⟨Sw, Sg, vw, vg, ht⟩ := ht
  obtain ⟨Ag, cg, rfl, hcw, hCw⟩ := Kd.R_reads ht.got
  have hx7 : w.cell? ⟨g, 7, none⟩ = some (.slice Ag t.got.length cg) := blk_cell ht.blk 7
  have hf7 : w.frozen? ⟨g, 7, none⟩ = false := blk_frozen ht.blk 7
  have hT := Aside0.mk ht
  clear ht hCw hcw
  go_enter Try.func21, Try.ntmps21
  go_wp2
  go_ret
  refine ⟨_, fun k => S k ∧ ¬ Sg k, Sg, rfl, ⟨Sw, fun _ => False, vw, .slice none 0 0, ⟨hT.out.own, fun h => (hT.out.ing g h).2 rfl⟩, fun k hk => ⟨⟨(hT.out.inw k hk).1, (hT.out.inw k hk).2.2⟩, (hT.out.inw k hk).2.1, id⟩, fun k hk => hk.elim, blk_put hT.out.blk 7 _ rfl, Kd.R_far hT.out.wait (fun k hk => (hT.out.inw k hk).2.1) _, Kd.R_nil _ _ _ _ _⟩, Kd.R_far hT.out.got (fun k hk => (hT.out.ing k hk).2) _, fun k hk => hk, fun k hk => (hT.out.ing k hk).1, Fr.setCell w hT.out.own _⟩
theorem idle_nil (w : World) : Calls Try.prog 15 #[.pointer none] w fun e w' => e = .returned (.bool false) ∧ w = w' := by
  go_enter Try.func15, Try.ntmps15
  go_wp2
  go_ret
  exact ⟨rfl, rfl⟩
theorem idle_ok (g : Nat) (S : Nat → Prop) (t : Tk) (w : World) (ht : IsTk w g S t) :
    Calls Try.prog 15 #[.pointer (some ⟨g, 0, none⟩)] w fun e w' => e = .returned (.bool t.wait.isEmpty) ∧ w = w' := by
  obtain ⟨Sw, Sg, vw, vg, ht⟩ := ht
  obtain ⟨Aw, cw, rfl, hcw, hCw⟩ := Kd.R_reads ht.wait
  have hx6 : w.cell? ⟨g, 6, none⟩ = some (.slice Aw t.wait.length cw) := blk_cell ht.blk 6
  have hd : t.wait.isEmpty = ((t.wait.length : Int) == 0) := by cases t.wait <;> simp <;> omega
  rw [hd]
  clear ht hCw hcw hd
  go_enter Try.func15, Try.ntmps15
  go_wp2
  go_ret
  exact ⟨rfl, rfl⟩
end Go.Proofs.Yteeljnlhgaljaaa
