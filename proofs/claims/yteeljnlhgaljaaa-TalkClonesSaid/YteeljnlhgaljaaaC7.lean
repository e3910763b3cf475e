/- By hand: whether two ends are the same. (Printed by mksame2.py.) -/
import Derived.Test.YteeljnlhgaljaaaC1
import Derived.Test.YteeljnlhgaljaaaPx3
import Derived.Deep.QuietTactic
import Derived.BigQuiet
namespace Go.Proofs.Yteeljnlhgaljaaa
set_option linter.unusedVariables false
set_option linter.unusedSimpArgs false
open Go.RowKit Go.Proofs.YteeljnlhgaljaaaW.PrintWords Go.Proofs.YteeljnlhgaljaaaW.PrintLast Go.Proofs.Yteeljnlhgaljaaa.P

theorem equal_l0 (a b : List Int) (hab : a.length = b.length) (hl : a.length < 140737488355328) : ∀ (n i : Nat), i + n = a.length → slices_Equal_byte_byte.l0 (n + 1) a b (a.length : Int) (i : Int) = some (decide (a.drop i = b.drop i)) := by
  intro n
  induction n with
  | zero =>
    intro i hi
    have : ¬ ((i : Int) < (a.length : Int)) := by omega
    rw [slices_Equal_byte_byte.l0, if_neg this, List.drop_of_length_le (by omega), List.drop_of_length_le (by omega)]
    simp
  | succ n ih =>
    intro i hi
    have hlt : i < a.length := by omega
    have hlt2 : i < b.length := by omega
    have h1 : (i : Int) < (a.length : Int) := by omega
    have h2 : (i : Int) < (b.length : Int) := by omega
    have h0 : (0 : Int) ≤ (i : Int) := by omega
    have hg : rd a (i : Int) = a[i] := by simp [rd, List.getD, hlt]
    have hg2 : rd b (i : Int) = b[i] := by simp [rd, List.getD, hlt2]
    have hw : wrap64 ((i : Int) + 1) = ((i + 1 : Nat) : Int) := by unfold wrap64; omega
    rw [slices_Equal_byte_byte.l0, if_pos h1, if_pos h0, if_pos h1, if_pos h2, hg, hg2, hw]
    rw [List.drop_eq_getElem_cons hlt, List.drop_eq_getElem_cons hlt2]
    by_cases he : a[i] = b[i]
    · rw [if_pos he, ih (i + 1) (by omega)]
      simp only [List.cons.injEq, he, true_and]
    · rw [if_neg he]
      simp only [List.cons.injEq, he, false_and, decide_false]
theorem equal_some (a b : List Int) (hl : a.length < 140737488355328) : slices_Equal_byte_byte.f (a.length + 1) a b = some (decide (a = b)) := by
  unfold slices_Equal_byte_byte.f
  by_cases h : a.length = b.length
  · rw [if_pos (by omega)]
    have := equal_l0 a b h hl a.length 0 (by omega)
    simpa using this
  · rw [if_neg (by omega)]
    have : a ≠ b := fun e => h (by rw [e])
    simp [this]
set_option maxRecDepth 100000 in
set_option maxHeartbeats 1000000 in
theorem equals_ok (A0 : Option Addr) (c0 : Nat) (l0 : List (List Int)) (A1 : Option Addr) (c1 : Nat) (l1 : List (List Int)) (w : World) (h0 : Kd.C kM w A0 l0.length l0) (h1 : Kd.C kM w A1 l1.length l1) (hlen : l0.length < 1000000) (hm : ∀ m ∈ l0, m.length < 140737488355328) :
    Calls Try.prog 40 #[.slice A0 l0.length c0, .slice A1 l1.length c1, .func (.func 41) #[] #[]] w fun e w' => e = .returned (.bool (decide (l0 = l1))) ∧ Drawn0 w w' := by
  have HR0 := Aside0.mk h0
  have HR1 := Aside0.mk h1
  have HLen := Aside0.mk hlen
  have HM := Aside0.mk hm
  clear h0 h1 hlen hm
  by_cases hl : l0.length = l1.length
  · have c3b1 : ((l0.length : Int) != (l1.length : Int)) = false := by simp; omega
    have HL := Aside0.mk hl
    clear hl
    go_enter Try.func40, Try.ntmps40
    go_wp2
    go_loopw [17] (fun v17 wr => ∃ k : Nat, v17 = .int .i64 (k : Int) ∧ Aside0 (k ≤ l0.length) ∧ Aside0 (l0.take k = l1.take k) ∧ Drawn0 w wr) (fun v17 wr => (l0.length - intOf v17).toNat)
    case atStart => exact ⟨0, by go_num, ⟨by omega⟩, ⟨rfl⟩, Drawn0.refl _⟩
    case round =>
      obtain ⟨k, rfl, hk, hall, ⟨m1, rfl⟩⟩ := hrel
      clear c3b1
      by_cases hlt : k < l0.length
      · have hlt1 : k < l1.length := by have := HL.out; omega
        have h1 : decide ((k : Int) < (l0.length : Int)) = true := decide_eq_true (by omega)
        have hk0 : (0 : Int) ≤ (k : Int) := by omega
        have q101 : (k : Int) < (l0.length : Int) := by omega
        have q102 : (k : Int) < (l1.length : Int) := by have := HL.out; omega
        obtain ⟨ad1, B0, d0, rfl, hx1, hd1, hi1⟩ := at_L1 HR0.out (k : Int) hk0 q101
        obtain ⟨ad2, B1, d1, rfl, hx2, hd2, hi2⟩ := at_L1 HR1.out (k : Int) hk0 q102
        have hrd0 : rd_L1 l0 (k : Int) = l0[k] := by simp [rd_L1, List.getD, hlt]
        have hrd1 : rd_L1 l1 (k : Int) = l1[k] := by simp [rd_L1, List.getD, hlt1]
        rw [hrd0] at hx1 hd1 hi1
        rw [hrd1] at hx2 hd2 hi2
        simp only [Int.toNat_natCast] at hx1 hx2
        have HS0 := Aside0.mk (show l0.take (k + 1) = l0.take k ++ [l0[k]] from List.take_succ_eq_append_getElem hlt)
        have HS1 := Aside0.mk (show l1.take (k + 1) = l1.take k ++ [l1[k]] from List.take_succ_eq_append_getElem hlt1)
        have HML := Aside0.mk (HM.out l0[k] (List.getElem_mem hlt))
        have HNE := Aside0.mk (fun (h : l0 = l1) => show l0[k] = l1[k] by subst h; rfl)
        generalize l0[k] = ma at hx1 hd1 hi1 HS0 HML HNE
        generalize l1[k] = mb at hx2 hd2 hi2 HS1 HNE
        have HI1 := Aside0.mk hi1
        have HI2 := Aside0.mk hi2
        have HD1 := Aside0.mk hd1
        have HD2 := Aside0.mk hd2
        have HK1 := Aside0.mk hlt
        clear hi1 hi2 hd1 hd2 hrd0 hrd1 hlt hlt1
        go_wp2_with fail
        refine (slices_Equal_byte_byte.calls (ma.length + 1) B0 d0 ma B1 d1 mb _ _ (Kd.C_below HI1.out (pw_below_drewN (Below.refl _ _) _)) HD1.out (Kd.C_below HI2.out (pw_below_drewN (Below.refl _ _) _)) HD2.out (equal_some ma mb HML.out)).mono ?_
        rintro e w1 ⟨rfl, ⟨m2, rfl⟩⟩
        have hkw : wrap64 ((k : Int) + 1) = (k : Int) + 1 := by have := HK1.out; have := HLen.out; unfold wrap64; omega
        have hkw2 : IntKind.i64.wrap ((k : Int) + 1) = (k : Int) + 1 := IntWalk.i64_in _ (by have := HK1.out; have := HLen.out; omega)
        by_cases heq : ma = mb
        · rw [decide_eq_true heq]
          have HEQ := Aside0.mk heq
          clear heq
          go_wp2
          go_roundw
          case rel => exact ⟨k + 1, by go_num, ⟨HK1.out⟩, ⟨by rw [HS0.out, HS1.out, hall.out, HEQ.out]⟩, ⟨_, rfl⟩⟩
          case measure => simp [intOf]; have := HK1.out; omega
        · rw [decide_eq_false heq]
          have HNQ := Aside0.mk (decide_eq_false (fun h => heq (HNE.out h)))
          clear heq
          go_wp2
          go_ret
          exact ⟨by rw [HNQ.out]; rfl, ⟨_, rfl⟩⟩
      · have h1 : decide ((k : Int) < (l0.length : Int)) = false := decide_eq_false (by omega)
        have h2 : ¬ (k : Int) < (l0.length : Int) := by omega
        have hE : l0 = l1 := by
          have := hall.out
          rwa [List.take_of_length_le (by omega), List.take_of_length_le (by have := HL.out; omega)] at this
        have HE := Aside0.mk (decide_eq_true hE)
        clear hlt hE
        go_wp2
        all_goals (go_ret; exact ⟨by rw [HE.out]; rfl, ⟨_, rfl⟩⟩)
  · have c3b1 : ((l0.length : Int) != (l1.length : Int)) = true := by simp; omega
    have : l0 ≠ l1 := fun e => hl (by rw [e])
    rw [decide_eq_false this]
    clear hl this
    go_enter Try.func40, Try.ntmps40
    go_wp2
    go_ret
    exact ⟨rfl, Drawn0.refl _⟩
theorem same_tn (g : Nat) (w : World) : Calls Try.prog 26 #[.pointer (some ⟨g, 0, none⟩), .pointer none] w fun e w' => e = .returned (.bool false) ∧ w = w' := by
  go_enter Try.func26, Try.ntmps26
  go_wp2
  go_ret
  exact ⟨rfl, rfl⟩
theorem eqA78 (d : Nat) (w : World) (x0 y0 : Int) (x1 y1 : Int) :
    (Op.equalIn (d + 2) 78 (.agg #[.int .i64 x0, .int .i64 x1]) (.agg #[.int .i64 y0, .int .i64 y1])).run Try.prog w = .ok (x0 == y0 && (x1 == y1)) w := by
  refine eqA_of Try.underlying78 (by kernel_rfl) ?_
  refine eqf_cons (by rfl) (by go_simp; rfl) (by go_simp; rfl) (by go_simp) ?_
  exact eqf_last (by rfl) (by go_simp; rfl) (by go_simp; rfl) (by go_simp)
theorem eqA80 (d : Nat) (w : World) (x0 y0 : Int) (x1 y1 : Int) (x2 y2 : Int) (x3 y3 : Int) :
    (Op.equalIn (d + 2) 80 (.agg #[.int .i64 x0, .int .i64 x1, .int .i64 x2, .int .i64 x3]) (.agg #[.int .i64 y0, .int .i64 y1, .int .i64 y2, .int .i64 y3])).run Try.prog w = .ok (x0 == y0 && (x1 == y1 && (x2 == y2 && (x3 == y3)))) w := by
  refine eqA_of Try.underlying80 (by kernel_rfl) ?_
  refine eqf_cons (by rfl) (by go_simp; rfl) (by go_simp; rfl) (by go_simp) ?_
  refine eqf_cons (by rfl) (by go_simp; rfl) (by go_simp; rfl) (by go_simp) ?_
  refine eqf_cons (by rfl) (by go_simp; rfl) (by go_simp; rfl) (by go_simp) ?_
  exact eqf_last (by rfl) (by go_simp; rfl) (by go_simp; rfl) (by go_simp)
/-- Are two ends the same? -/
def sameT (t u : Tk) : Bool := (t.most == u.most) && (t.again == u.again) && (t.said == u.said) && (t.done == u.done) && (t.gone == u.gone) && (t.heard == u.heard) && (t.last == u.last) && (t.went == u.went) && (t.owes == u.owes) && decide (t.wait = u.wait) && decide (t.got = u.got)
theorem sameT_refl (t : Tk) : sameT t t = true := by simp [sameT]

theorem equals_q (A0 : Option Addr) (c0 : Nat) (l0 : List (List Int)) (A1 : Option Addr) (c1 : Nat) (l1 : List (List Int)) (b : Bool) (hb : decide (l0 = l1) = b) (w : World) (n : Nat) (h0 : Kd.C kM w A0 l0.length l0) (h1 : Kd.C kM w A1 l1.length l1) (hlen : l0.length < 1000000) (hm : ∀ m ∈ l0, m.length < 140737488355328) :
    Calls Try.prog 40 #[.slice A0 l0.length c0, .slice A1 l1.length c1, .func (.func 41) #[] #[]] (w.drewN n) fun e w'' => e = .returned (.bool b) ∧ ∃ m, w'' = w.drewN m := by
  subst hb
  exact Calls.quiet_of ((equals_ok A0 c0 l0 A1 c1 l1 _ (Kd.C_below h0 (pw_below_drewN (Below.refl _ _) _)) (Kd.C_below h1 (pw_below_drewN (Below.refl _ _) _)) hlen hm).mono (fun _ _ h => ⟨h.1, h.2.out⟩))

attribute [local go_sem high] eqA78 eqA80
set_option maxRecDepth 100000 in
set_option maxHeartbeats 2000000 in
theorem same_ok (g g' : Nat) (Sa Sb : Nat → Prop) (t u : Tk) (w : World) (ht : IsTk w g Sa t) (hu : IsTk w g' Sb u) (hwl : t.wait.length < 1000000) (hwm : ∀ m ∈ t.wait, m.length < 140737488355328) (hgl : t.got.length < 1000000) (hgm : ∀ m ∈ t.got, m.length < 140737488355328) :
    Calls Try.prog 26 #[.pointer (some ⟨g, 0, none⟩), .pointer (some ⟨g', 0, none⟩)] w fun e w' => e = .returned (.bool (sameT t u)) ∧ Drawn0 w w' := by
  obtain ⟨Sw, Sg, vw, vg, ht⟩ := ht
  obtain ⟨Aw, cw, rfl, hcw, hCw⟩ := Kd.R_reads ht.wait
  obtain ⟨Ag, cg, rfl, hcg, hCg⟩ := Kd.R_reads ht.got
  obtain ⟨Sw', Sg', vw', vg', hu⟩ := hu
  obtain ⟨Aw', cw', rfl, hcw', hCw'⟩ := Kd.R_reads hu.wait
  obtain ⟨Ag', cg', rfl, hcg', hCg'⟩ := Kd.R_reads hu.got
  have HW := Aside0.mk hCw
  have HG := Aside0.mk hCg
  have HW' := Aside0.mk hCw'
  have HG' := Aside0.mk hCg'
  have HWL := Aside0.mk hwl
  have HWM := Aside0.mk hwm
  have HGL := Aside0.mk hgl
  have HGM := Aside0.mk hgm
  have x0 : w.cell? ⟨g, 0, none⟩ = some (.int .i64 t.most) := blk_cell ht.blk 0
  have x1 : w.cell? ⟨g, 1, none⟩ = some (.int .i64 t.again) := blk_cell ht.blk 1
  have x2 : w.cell? ⟨g, 2, none⟩ = some (.int .i64 t.said) := blk_cell ht.blk 2
  have x3 : w.cell? ⟨g, 3, none⟩ = some (.int .i64 t.done) := blk_cell ht.blk 3
  have x4 : w.cell? ⟨g, 4, none⟩ = some (.int .i64 t.gone) := blk_cell ht.blk 4
  have x5 : w.cell? ⟨g, 5, none⟩ = some (.int .i64 t.heard) := blk_cell ht.blk 5
  have x8 : w.cell? ⟨g, 8, none⟩ = some (.int .i64 t.last) := blk_cell ht.blk 8
  have x9 : w.cell? ⟨g, 9, none⟩ = some (.bool t.went) := blk_cell ht.blk 9
  have x10 : w.cell? ⟨g, 10, none⟩ = some (.bool t.owes) := blk_cell ht.blk 10
  have x6 : w.cell? ⟨g, 6, none⟩ = some (.slice Aw t.wait.length cw) := blk_cell ht.blk 6
  have x7 : w.cell? ⟨g, 7, none⟩ = some (.slice Ag t.got.length cg) := blk_cell ht.blk 7
  have y0 : w.cell? ⟨g', 0, none⟩ = some (.int .i64 u.most) := blk_cell hu.blk 0
  have y1 : w.cell? ⟨g', 1, none⟩ = some (.int .i64 u.again) := blk_cell hu.blk 1
  have y2 : w.cell? ⟨g', 2, none⟩ = some (.int .i64 u.said) := blk_cell hu.blk 2
  have y3 : w.cell? ⟨g', 3, none⟩ = some (.int .i64 u.done) := blk_cell hu.blk 3
  have y4 : w.cell? ⟨g', 4, none⟩ = some (.int .i64 u.gone) := blk_cell hu.blk 4
  have y5 : w.cell? ⟨g', 5, none⟩ = some (.int .i64 u.heard) := blk_cell hu.blk 5
  have y8 : w.cell? ⟨g', 8, none⟩ = some (.int .i64 u.last) := blk_cell hu.blk 8
  have y9 : w.cell? ⟨g', 9, none⟩ = some (.bool u.went) := blk_cell hu.blk 9
  have y10 : w.cell? ⟨g', 10, none⟩ = some (.bool u.owes) := blk_cell hu.blk 10
  have y6 : w.cell? ⟨g', 6, none⟩ = some (.slice Aw' u.wait.length cw') := blk_cell hu.blk 6
  have y7 : w.cell? ⟨g', 7, none⟩ = some (.slice Ag' u.got.length cg') := blk_cell hu.blk 7
  clear ht hu hcw hcg hCw hCg hcw' hcg' hCw' hCg' hwl hwm hgl hgm
  generalize hr : sameT t u = r
  have HR := Aside0.mk hr
  clear hr
  have HS : Aside0 (sameT t u = ((t.most == u.most && (t.again == u.again)) && (t.said == u.said && (t.done == u.done && (t.gone == u.gone && (t.heard == u.heard)))) && (t.last == u.last) && (t.went == u.went) && (t.owes == u.owes) && decide (t.wait = u.wait) && decide (t.got = u.got))) := Aside0.mk (by simp only [sameT, Bool.and_assoc])
  cases p1 : (t.most == u.most && (t.again == u.again))
  · skip
    obtain rfl : r = false := by rw [← HR.out, HS.out]; simp only [p1, Bool.and_true, Bool.true_and, Bool.and_false, Bool.false_and]
    go_enter Try.func26, Try.ntmps26
    go_wp2
    go_quiet (fail)
    go_wp2
    go_quiet (fail)
    go_wp2
    go_ret
    exact ⟨rfl, ((Drawn0.refl w).step _).step _⟩
  cases p2 : (t.said == u.said && (t.done == u.done && (t.gone == u.gone && (t.heard == u.heard))))
  · skip
    obtain rfl : r = false := by rw [← HR.out, HS.out]; simp only [p1, p2, Bool.and_true, Bool.true_and, Bool.and_false, Bool.false_and]
    go_enter Try.func26, Try.ntmps26
    go_wp2
    go_quiet (fail)
    go_wp2
    go_quiet (fail)
    go_wp2
    go_ret
    exact ⟨rfl, ((Drawn0.refl w).step _).step _⟩
  cases p3 : (t.last == u.last)
  · skip
    obtain rfl : r = false := by rw [← HR.out, HS.out]; simp only [p1, p2, p3, Bool.and_true, Bool.true_and, Bool.and_false, Bool.false_and]
    go_enter Try.func26, Try.ntmps26
    go_wp2
    go_quiet (fail)
    go_wp2
    go_quiet (fail)
    go_wp2
    go_ret
    exact ⟨rfl, ((Drawn0.refl w).step _).step _⟩
  cases p4 : (t.went == u.went)
  · skip
    obtain rfl : r = false := by rw [← HR.out, HS.out]; simp only [p1, p2, p3, p4, Bool.and_true, Bool.true_and, Bool.and_false, Bool.false_and]
    go_enter Try.func26, Try.ntmps26
    go_wp2
    go_quiet (fail)
    go_wp2
    go_quiet (fail)
    go_wp2
    go_ret
    exact ⟨rfl, ((Drawn0.refl w).step _).step _⟩
  cases p5 : (t.owes == u.owes)
  · skip
    obtain rfl : r = false := by rw [← HR.out, HS.out]; simp only [p1, p2, p3, p4, p5, Bool.and_true, Bool.true_and, Bool.and_false, Bool.false_and]
    go_enter Try.func26, Try.ntmps26
    go_wp2
    go_quiet (fail)
    go_wp2
    go_quiet (fail)
    go_wp2
    go_ret
    exact ⟨rfl, ((Drawn0.refl w).step _).step _⟩
  cases p6 : decide (t.wait = u.wait)
  · skip
    obtain rfl : r = false := by rw [← HR.out, HS.out]; simp only [p1, p2, p3, p4, p5, p6, Bool.and_true, Bool.true_and, Bool.and_false, Bool.false_and]
    go_enter Try.func26, Try.ntmps26
    go_wp2
    go_quiet (fail)
    go_wp2
    generalize hw1 : World.drewN w _ = w1
    have HB1 := Aside0.mk (show Below w.heap.size w w1 from hw1 ▸ pw_below_drewN (Below.refl _ _) _)
    have HD1 := Aside0.mk (show Drawn0 w w1 from ⟨_, hw1.symm⟩)
    replace x6 := pw_cell_below HB1.out x6
    replace x7 := pw_cell_below HB1.out x7
    replace y6 := pw_cell_below HB1.out y6
    replace y7 := pw_cell_below HB1.out y7
    clear hw1
    go_quiet (first | (go_at_call 40; with_reducible exact equals_q Aw cw t.wait Aw' cw' u.wait _ p6 w1 _ (Kd.C_below HW.out HB1.out) (Kd.C_below HW'.out HB1.out) HWL.out HWM.out) | fail)
    go_wp2
    go_ret
    exact ⟨rfl, HD1.out.step _⟩
  cases p7 : decide (t.got = u.got)
  · skip
    obtain rfl : r = false := by rw [← HR.out, HS.out]; simp only [p1, p2, p3, p4, p5, p6, p7, Bool.and_true, Bool.true_and, Bool.and_false, Bool.false_and]
    go_enter Try.func26, Try.ntmps26
    go_wp2
    go_quiet (fail)
    go_wp2
    generalize hw1 : World.drewN w _ = w1
    have HB1 := Aside0.mk (show Below w.heap.size w w1 from hw1 ▸ pw_below_drewN (Below.refl _ _) _)
    have HD1 := Aside0.mk (show Drawn0 w w1 from ⟨_, hw1.symm⟩)
    replace x6 := pw_cell_below HB1.out x6
    replace x7 := pw_cell_below HB1.out x7
    replace y6 := pw_cell_below HB1.out y6
    replace y7 := pw_cell_below HB1.out y7
    clear hw1
    go_quiet (first | (go_at_call 40; with_reducible exact equals_q Aw cw t.wait Aw' cw' u.wait _ p6 w1 _ (Kd.C_below HW.out HB1.out) (Kd.C_below HW'.out HB1.out) HWL.out HWM.out) | (go_at_call 40; with_reducible exact equals_q Ag cg t.got Ag' cg' u.got _ p7 w1 _ (Kd.C_below HG.out HB1.out) (Kd.C_below HG'.out HB1.out) HGL.out HGM.out) | fail)
    go_wp2
    go_ret
    exact ⟨rfl, HD1.out.step _⟩
  obtain rfl : r = true := by rw [← HR.out, HS.out]; simp only [p1, p2, p3, p4, p5, p6, p7, Bool.and_true, Bool.true_and, Bool.and_false, Bool.false_and]
  go_enter Try.func26, Try.ntmps26
  go_wp2
  go_quiet (fail)
  go_wp2
  generalize hw1 : World.drewN w _ = w1
  have HB1 := Aside0.mk (show Below w.heap.size w w1 from hw1 ▸ pw_below_drewN (Below.refl _ _) _)
  have HD1 := Aside0.mk (show Drawn0 w w1 from ⟨_, hw1.symm⟩)
  replace x6 := pw_cell_below HB1.out x6
  replace x7 := pw_cell_below HB1.out x7
  replace y6 := pw_cell_below HB1.out y6
  replace y7 := pw_cell_below HB1.out y7
  clear hw1
  go_quiet (first | (go_at_call 40; with_reducible exact equals_q Aw cw t.wait Aw' cw' u.wait _ p6 w1 _ (Kd.C_below HW.out HB1.out) (Kd.C_below HW'.out HB1.out) HWL.out HWM.out) | (go_at_call 40; with_reducible exact equals_q Ag cg t.got Ag' cg' u.got _ p7 w1 _ (Kd.C_below HG.out HB1.out) (Kd.C_below HG'.out HB1.out) HGL.out HGM.out) | fail)
  go_wp2
  go_ret
  exact ⟨rfl, HD1.out.step _⟩
end Go.Proofs.Yteeljnlhgaljaaa
