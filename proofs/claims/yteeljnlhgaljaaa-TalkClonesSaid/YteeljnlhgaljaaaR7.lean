/- By hand: the document's Alike. (Printed by mkalike.py.) -/
import Derived.Test.YteeljnlhgaljaaaR5
import Derived.Deep.QuietTactic
import Derived.BigQuiet
namespace Go.Proofs.Yteeljnlhgaljaaa
set_option linter.unusedVariables false
set_option linter.unusedSimpArgs false
open Go.RowKit Go.Proofs.YteeljnlhgaljaaaW.PrintWords Go.Proofs.YteeljnlhgaljaaaW.PrintLast Go.Proofs.YteeljnlhgaljaaaW.PrintMore Go.Proofs.Yteeljnlhgaljaaa.P

/-- Are two of the document's ends the same? -/
def alikeR (a b : Rf) : Bool := (a.most == b.most) && (a.again == b.again) && ((a.said.length : Int) == (b.said.length : Int)) && sameL (a.said.drop a.heard.toNat) (b.said.drop b.heard.toNat) && (a.heard == b.heard) && (a.out == b.out) && ((a.took.length : Int) == (b.took.length : Int)) && sameL (a.took.drop a.gave.toNat) (b.took.drop b.gave.toNat) && (a.last == b.last) && (a.went == b.went) && (a.owes == b.owes)
theorem same_q (A0 : Option Addr) (c0 : Nat) (l0 : List (List Int)) (n0 : Nat) (e0 : l0.length = n0) (A1 : Option Addr) (c1 : Nat) (l1 : List (List Int)) (n1 : Nat) (e1 : l1.length = n1) (b : Bool) (hb : sameL l0 l1 = b) (w : World) (n : Nat) (h0 : Kd.C kM w A0 l0.length l0) (h1 : Kd.C kM w A1 l1.length l1) (hlen : l0.length < 1000000) :
    Calls Try.prog 17 #[.slice A0 n0 c0, .slice A1 n1 c1] (w.drewN n) fun e w'' => e = .returned (.bool b) ∧ ∃ m, w'' = w.drewN m := by
  subst hb e0 e1
  exact Calls.quiet_of ((same_any A0 c0 l0 A1 c1 l1 _ (Kd.C_below h0 (pw_below_drewN (Below.refl _ _) _)) (Kd.C_below h1 (pw_below_drewN (Below.refl _ _) _)) (by omega)).mono (fun _ _ h => ⟨h.1, h.2.out⟩))
theorem nat_beq {x y : Nat} {b : Bool} (h : ((x : Int) == (y : Int)) = b) : (x == y) = b := by
  by_cases c : x = y
  · subst c
    rw [← h]; simp
  · have : ¬ (x : Int) = (y : Int) := by omega
    rw [← h, beq_eq_false_iff_ne.2 c, beq_eq_false_iff_ne.2 this]

set_option maxRecDepth 100000 in
set_option maxHeartbeats 4000000 in
theorem alike_a (n n' : Nat) (a b : Rf) (Pa Pb : Nat → Prop) (As At As' At' : Option Addr) (cs ct cs' ct' : Nat) (w : World) (ha : Rv w Pa a (.slice As a.said.length cs) (.slice At a.took.length ct)) (hb : Rv w Pb b (.slice As' b.said.length cs') (.slice At' b.took.length ct')) (oka : OkR n a) (okb : OkR n' b) (hn : n ≤ 80) (hn' : n' ≤ 80) (HX : ((a.most == b.most) && (a.again == b.again) && ((a.said.length : Int) == (b.said.length : Int)) && sameL (a.said.drop a.heard.toNat) (b.said.drop b.heard.toNat)) = false) :
    Calls Try.prog 27 #[.agg (rfC a (.slice As a.said.length cs) (.slice At a.took.length ct)), .agg (rfC b (.slice As' b.said.length cs') (.slice At' b.took.length ct'))] w fun e w' => e = .returned (.bool (alikeR a b)) ∧ Below w.heap.size w w' := by
  obtain ⟨most, again, said, heard, out, took, gave, last, went, owes⟩ := a
  obtain ⟨most', again', said', heard', out', took', gave', last', went', owes'⟩ := b
  have hh : 0 ≤ heard ∧ heard ≤ out := oka.heard
  have ho : out ≤ said.length := oka.out
  have hg : 0 ≤ gave ∧ gave ≤ took.length := oka.gave
  have hsl : said.length ≤ n := oka.said
  have htl : took.length ≤ 64 * n := oka.took
  have hh' : 0 ≤ heard' ∧ heard' ≤ out' := okb.heard
  have ho' : out' ≤ said'.length := okb.out
  have hg' : 0 ≤ gave' ∧ gave' ≤ took'.length := okb.gave
  have hsl' : said'.length ≤ n' := okb.said
  have htl' : took'.length ≤ 64 * n' := okb.took
  have hs : Kd.V kM 34 w 0 Pa (.slice As said.length cs) said := ha.1
  have ht : Kd.V kM 34 w 0 Pa (.slice At took.length ct) took := ha.2
  have hs' : Kd.V kM 34 w 0 Pb (.slice As' said'.length cs') said' := hb.1
  have ht' : Kd.V kM 34 w 0 Pb (.slice At' took'.length ct') took' := hb.2
  clear oka okb ha hb
  obtain ⟨hn0, rfl⟩ := Int.eq_ofNat_of_zero_le hh.1
  obtain ⟨hn0', rfl⟩ := Int.eq_ofNat_of_zero_le hh'.1
  obtain ⟨gn, rfl⟩ := Int.eq_ofNat_of_zero_le hg.1
  obtain ⟨gn', rfl⟩ := Int.eq_ofNat_of_zero_le hg'.1
  simp only [Int.toNat_natCast] at HX
  replace HX := Aside0.mk HX
  have vs := Kd.V_at hs
  have vt := Kd.V_at ht
  have k1 : hn0 ≤ said.length := by omega
  have k2 : gn ≤ took.length := by omega
  have rs := fun W => run_drop25 As cs said.length hn0 k1 vs.2.1 W
  have Cs := Kd.F_now (Kd.F_cut vs.2.2 k1 vs.2.1)
  obtain ⟨Ds, hDs⟩ : ∃ D, D = (if cs = hn0 then As else As.map (·.add (hn0 * 1))) := ⟨_, rfl⟩
  rw [← hDs] at rs
  have HCs : Aside0 (Kd.C kM w Ds (said.drop hn0).length (said.drop hn0)) := ⟨by rw [hDs]; exact Cs⟩
  clear Cs hDs
  have rt := fun W => run_drop25 At ct took.length gn k2 vt.2.1 W
  have Ct := Kd.F_now (Kd.F_cut vt.2.2 k2 vt.2.1)
  obtain ⟨Dt, hDt⟩ : ∃ D, D = (if ct = gn then At else At.map (·.add (gn * 1))) := ⟨_, rfl⟩
  rw [← hDt] at rt
  have HCt : Aside0 (Kd.C kM w Dt (took.drop gn).length (took.drop gn)) := ⟨by rw [hDt]; exact Ct⟩
  clear Ct hDt
  have vs' := Kd.V_at hs'
  have vt' := Kd.V_at ht'
  have k1' : hn0' ≤ said'.length := by omega
  have k2' : gn' ≤ took'.length := by omega
  have rs' := fun W => run_drop25 As' cs' said'.length hn0' k1' vs'.2.1 W
  have Cs' := Kd.F_now (Kd.F_cut vs'.2.2 k1' vs'.2.1)
  obtain ⟨Ds', hDs'⟩ : ∃ D, D = (if cs' = hn0' then As' else As'.map (·.add (hn0' * 1))) := ⟨_, rfl⟩
  rw [← hDs'] at rs'
  have HCs' : Aside0 (Kd.C kM w Ds' (said'.drop hn0').length (said'.drop hn0')) := ⟨by rw [hDs']; exact Cs'⟩
  clear Cs' hDs'
  have rt' := fun W => run_drop25 At' ct' took'.length gn' k2' vt'.2.1 W
  have Ct' := Kd.F_now (Kd.F_cut vt'.2.2 k2' vt'.2.1)
  obtain ⟨Dt', hDt'⟩ : ∃ D, D = (if ct' = gn' then At' else At'.map (·.add (gn' * 1))) := ⟨_, rfl⟩
  rw [← hDt'] at rt'
  have HCt' : Aside0 (Kd.C kM w Dt' (took'.drop gn').length (took'.drop gn')) := ⟨by rw [hDt']; exact Ct'⟩
  clear Ct' hDt'
  have HL1 := Aside0.mk (show (said.drop hn0).length < 1000000 by rw [List.length_drop]; omega)
  have HL2 := Aside0.mk (show (took.drop gn).length < 1000000 by rw [List.length_drop]; omega)
  clear hs ht hs' ht' hh ho hg hsl htl hh' ho' hg' hsl' htl' vs vt vs' vt' k1 k2 k1' k2' hn hn'
  generalize hr : alikeR _ _ = r
  have HR := Aside0.mk hr
  clear hr
  have HS : Aside0 (r = ((most == most') && (again == again') && ((said.length : Int) == (said'.length : Int)) && sameL (said.drop hn0) (said'.drop hn0') && ((hn0 : Int) == (hn0' : Int)) && (out == out') && ((took.length : Int) == (took'.length : Int)) && sameL (took.drop gn) (took'.drop gn') && (last == last') && (went == went') && (owes == owes'))) := Aside0.mk (by rw [← HR.out]; simp only [alikeR, Bool.and_assoc, Int.toNat_natCast])
  go_enter Try.func27, Try.ntmps27
  go_upto_region 1 with fail
  generalize hz : (w.alloc _).alloc _ = w1
  obtain ⟨hb1, h2, h3⟩ : Below w.heap.size w w1 ∧ w1.heap[w.heap.size]? = some (.cells #[.int .i64 most, .int .i64 again, .slice As said.length cs, .int .i64 (hn0 : Int), .int .i64 out, .slice At took.length ct, .int .i64 (gn : Int), .int .i64 last, .bool went, .bool owes] 27 (0, 0)) ∧ w1.heap[w.heap.size + 1]? = some (.cells #[.int .i64 most', .int .i64 again', .slice As' said'.length cs', .int .i64 (hn0' : Int), .int .i64 out', .slice At' took'.length ct', .int .i64 (gn' : Int), .int .i64 last', .bool went', .bool owes'] 27 (0, 0)) := hz ▸ laid2 w _ _ _ _
  clear hz
  have HB1 := Aside0.mk hb1
  generalize w.heap.size = b2 at h2 h3 ⊢
  have x0 : w1.cell? ⟨b2, 0, none⟩ = some (.int .i64 most) := blk_cell h2 0
  have x1 : w1.cell? ⟨b2, 1, none⟩ = some (.int .i64 again) := blk_cell h2 1
  have x2 : w1.cell? ⟨b2, 2, none⟩ = some (.slice As said.length cs) := blk_cell h2 2
  have x3 : w1.cell? ⟨b2, 3, none⟩ = some (.int .i64 (hn0 : Int)) := blk_cell h2 3
  have x4 : w1.cell? ⟨b2, 4, none⟩ = some (.int .i64 out) := blk_cell h2 4
  have x5 : w1.cell? ⟨b2, 5, none⟩ = some (.slice At took.length ct) := blk_cell h2 5
  have x6 : w1.cell? ⟨b2, 6, none⟩ = some (.int .i64 (gn : Int)) := blk_cell h2 6
  have x7 : w1.cell? ⟨b2, 7, none⟩ = some (.int .i64 last) := blk_cell h2 7
  have x8 : w1.cell? ⟨b2, 8, none⟩ = some (.bool went) := blk_cell h2 8
  have x9 : w1.cell? ⟨b2, 9, none⟩ = some (.bool owes) := blk_cell h2 9
  have y0 : w1.cell? ⟨b2 + 1, 0, none⟩ = some (.int .i64 most') := blk_cell h3 0
  have y1 : w1.cell? ⟨b2 + 1, 1, none⟩ = some (.int .i64 again') := blk_cell h3 1
  have y2 : w1.cell? ⟨b2 + 1, 2, none⟩ = some (.slice As' said'.length cs') := blk_cell h3 2
  have y3 : w1.cell? ⟨b2 + 1, 3, none⟩ = some (.int .i64 (hn0' : Int)) := blk_cell h3 3
  have y4 : w1.cell? ⟨b2 + 1, 4, none⟩ = some (.int .i64 out') := blk_cell h3 4
  have y5 : w1.cell? ⟨b2 + 1, 5, none⟩ = some (.slice At' took'.length ct') := blk_cell h3 5
  have y6 : w1.cell? ⟨b2 + 1, 6, none⟩ = some (.int .i64 (gn' : Int)) := blk_cell h3 6
  have y7 : w1.cell? ⟨b2 + 1, 7, none⟩ = some (.int .i64 last') := blk_cell h3 7
  have y8 : w1.cell? ⟨b2 + 1, 8, none⟩ = some (.bool went') := blk_cell h3 8
  have y9 : w1.cell? ⟨b2 + 1, 9, none⟩ = some (.bool owes') := blk_cell h3 9
  clear h2 h3 hb1
  simp only [List.append_eq, List.cons_append, List.nil_append]
  refine wp_region_quiet_lit (by kernel_rfl) (by kernel_rfl) ?_
  cases p1 : (most == most')
  · skip
    obtain rfl : r = false := by rw [HS.out]; simp only [p1, Bool.and_true, Bool.true_and, Bool.and_false, Bool.false_and]
    repeat (go_big_quiet_step (fail))
    refine wpQuiet_nil ?_
    intro _ hw'
    obtain ⟨nq, hw''⟩ := hw'
    subst hw''
    go_wp2
    go_ret
    exact ⟨rfl, pw_below_drewN HB1.out _⟩
  cases p2 : (again == again')
  · skip
    obtain rfl : r = false := by rw [HS.out]; simp only [p1, p2, Bool.and_true, Bool.true_and, Bool.and_false, Bool.false_and]
    repeat (go_big_quiet_step (fail))
    refine wpQuiet_nil ?_
    intro _ hw'
    obtain ⟨nq, hw''⟩ := hw'
    subst hw''
    go_wp2
    go_ret
    exact ⟨rfl, pw_below_drewN HB1.out _⟩
  cases p3 : ((said.length : Int) == (said'.length : Int))
  · skip
    obtain rfl : r = false := by rw [HS.out]; simp only [p1, p2, p3, Bool.and_true, Bool.true_and, Bool.and_false, Bool.false_and]
    have p3n := nat_beq p3
    repeat (go_big_quiet_step (fail))
    refine wpQuiet_nil ?_
    intro _ hw'
    obtain ⟨nq, hw''⟩ := hw'
    subst hw''
    go_wp2
    go_ret
    exact ⟨rfl, pw_below_drewN HB1.out _⟩
  cases p4 : sameL (said.drop hn0) (said'.drop hn0')
  · skip
    obtain rfl : r = false := by rw [HS.out]; simp only [p1, p2, p3, p4, Bool.and_true, Bool.true_and, Bool.and_false, Bool.false_and]
    have p3n := nat_beq p3
    repeat (go_big_quiet_step (first | (go_at_call 17; with_reducible exact same_q Ds (cs - hn0) (said.drop hn0) (said.length - hn0) List.length_drop Ds' (cs' - hn0') (said'.drop hn0') (said'.length - hn0') List.length_drop _ p4 w1 _ (Kd.C_below HCs.out HB1.out) (Kd.C_below HCs'.out HB1.out) HL1.out)))
    refine wpQuiet_nil ?_
    intro _ hw'
    obtain ⟨nq, hw''⟩ := hw'
    subst hw''
    go_wp2
    go_ret
    exact ⟨rfl, pw_below_drewN HB1.out _⟩
  exact absurd HX.out (by simp [p1, p2, p3, p4])
set_option maxRecDepth 100000 in
set_option maxHeartbeats 4000000 in
theorem alike_b (n n' : Nat) (a b : Rf) (Pa Pb : Nat → Prop) (As At As' At' : Option Addr) (cs ct cs' ct' : Nat) (w : World) (ha : Rv w Pa a (.slice As a.said.length cs) (.slice At a.took.length ct)) (hb : Rv w Pb b (.slice As' b.said.length cs') (.slice At' b.took.length ct')) (oka : OkR n a) (okb : OkR n' b) (hn : n ≤ 80) (hn' : n' ≤ 80) (HP : ((a.most == b.most) && (a.again == b.again) && ((a.said.length : Int) == (b.said.length : Int)) && sameL (a.said.drop a.heard.toNat) (b.said.drop b.heard.toNat)) = true) (HX : ((a.heard == b.heard) && (a.out == b.out) && ((a.took.length : Int) == (b.took.length : Int)) && sameL (a.took.drop a.gave.toNat) (b.took.drop b.gave.toNat)) = false) :
    Calls Try.prog 27 #[.agg (rfC a (.slice As a.said.length cs) (.slice At a.took.length ct)), .agg (rfC b (.slice As' b.said.length cs') (.slice At' b.took.length ct'))] w fun e w' => e = .returned (.bool (alikeR a b)) ∧ Below w.heap.size w w' := by
  obtain ⟨most, again, said, heard, out, took, gave, last, went, owes⟩ := a
  obtain ⟨most', again', said', heard', out', took', gave', last', went', owes'⟩ := b
  have hh : 0 ≤ heard ∧ heard ≤ out := oka.heard
  have ho : out ≤ said.length := oka.out
  have hg : 0 ≤ gave ∧ gave ≤ took.length := oka.gave
  have hsl : said.length ≤ n := oka.said
  have htl : took.length ≤ 64 * n := oka.took
  have hh' : 0 ≤ heard' ∧ heard' ≤ out' := okb.heard
  have ho' : out' ≤ said'.length := okb.out
  have hg' : 0 ≤ gave' ∧ gave' ≤ took'.length := okb.gave
  have hsl' : said'.length ≤ n' := okb.said
  have htl' : took'.length ≤ 64 * n' := okb.took
  have hs : Kd.V kM 34 w 0 Pa (.slice As said.length cs) said := ha.1
  have ht : Kd.V kM 34 w 0 Pa (.slice At took.length ct) took := ha.2
  have hs' : Kd.V kM 34 w 0 Pb (.slice As' said'.length cs') said' := hb.1
  have ht' : Kd.V kM 34 w 0 Pb (.slice At' took'.length ct') took' := hb.2
  clear oka okb ha hb
  obtain ⟨hn0, rfl⟩ := Int.eq_ofNat_of_zero_le hh.1
  obtain ⟨hn0', rfl⟩ := Int.eq_ofNat_of_zero_le hh'.1
  obtain ⟨gn, rfl⟩ := Int.eq_ofNat_of_zero_le hg.1
  obtain ⟨gn', rfl⟩ := Int.eq_ofNat_of_zero_le hg'.1
  simp only [Int.toNat_natCast] at HP
  replace HP := Aside0.mk HP
  simp only [Int.toNat_natCast] at HX
  replace HX := Aside0.mk HX
  have vs := Kd.V_at hs
  have vt := Kd.V_at ht
  have k1 : hn0 ≤ said.length := by omega
  have k2 : gn ≤ took.length := by omega
  have rs := fun W => run_drop25 As cs said.length hn0 k1 vs.2.1 W
  have Cs := Kd.F_now (Kd.F_cut vs.2.2 k1 vs.2.1)
  obtain ⟨Ds, hDs⟩ : ∃ D, D = (if cs = hn0 then As else As.map (·.add (hn0 * 1))) := ⟨_, rfl⟩
  rw [← hDs] at rs
  have HCs : Aside0 (Kd.C kM w Ds (said.drop hn0).length (said.drop hn0)) := ⟨by rw [hDs]; exact Cs⟩
  clear Cs hDs
  have rt := fun W => run_drop25 At ct took.length gn k2 vt.2.1 W
  have Ct := Kd.F_now (Kd.F_cut vt.2.2 k2 vt.2.1)
  obtain ⟨Dt, hDt⟩ : ∃ D, D = (if ct = gn then At else At.map (·.add (gn * 1))) := ⟨_, rfl⟩
  rw [← hDt] at rt
  have HCt : Aside0 (Kd.C kM w Dt (took.drop gn).length (took.drop gn)) := ⟨by rw [hDt]; exact Ct⟩
  clear Ct hDt
  have vs' := Kd.V_at hs'
  have vt' := Kd.V_at ht'
  have k1' : hn0' ≤ said'.length := by omega
  have k2' : gn' ≤ took'.length := by omega
  have rs' := fun W => run_drop25 As' cs' said'.length hn0' k1' vs'.2.1 W
  have Cs' := Kd.F_now (Kd.F_cut vs'.2.2 k1' vs'.2.1)
  obtain ⟨Ds', hDs'⟩ : ∃ D, D = (if cs' = hn0' then As' else As'.map (·.add (hn0' * 1))) := ⟨_, rfl⟩
  rw [← hDs'] at rs'
  have HCs' : Aside0 (Kd.C kM w Ds' (said'.drop hn0').length (said'.drop hn0')) := ⟨by rw [hDs']; exact Cs'⟩
  clear Cs' hDs'
  have rt' := fun W => run_drop25 At' ct' took'.length gn' k2' vt'.2.1 W
  have Ct' := Kd.F_now (Kd.F_cut vt'.2.2 k2' vt'.2.1)
  obtain ⟨Dt', hDt'⟩ : ∃ D, D = (if ct' = gn' then At' else At'.map (·.add (gn' * 1))) := ⟨_, rfl⟩
  rw [← hDt'] at rt'
  have HCt' : Aside0 (Kd.C kM w Dt' (took'.drop gn').length (took'.drop gn')) := ⟨by rw [hDt']; exact Ct'⟩
  clear Ct' hDt'
  have HL1 := Aside0.mk (show (said.drop hn0).length < 1000000 by rw [List.length_drop]; omega)
  have HL2 := Aside0.mk (show (took.drop gn).length < 1000000 by rw [List.length_drop]; omega)
  clear hs ht hs' ht' hh ho hg hsl htl hh' ho' hg' hsl' htl' vs vt vs' vt' k1 k2 k1' k2' hn hn'
  generalize hr : alikeR _ _ = r
  have HR := Aside0.mk hr
  clear hr
  have HS : Aside0 (r = ((most == most') && (again == again') && ((said.length : Int) == (said'.length : Int)) && sameL (said.drop hn0) (said'.drop hn0') && ((hn0 : Int) == (hn0' : Int)) && (out == out') && ((took.length : Int) == (took'.length : Int)) && sameL (took.drop gn) (took'.drop gn') && (last == last') && (went == went') && (owes == owes'))) := Aside0.mk (by rw [← HR.out]; simp only [alikeR, Bool.and_assoc, Int.toNat_natCast])
  go_enter Try.func27, Try.ntmps27
  go_upto_region 1 with fail
  generalize hz : (w.alloc _).alloc _ = w1
  obtain ⟨hb1, h2, h3⟩ : Below w.heap.size w w1 ∧ w1.heap[w.heap.size]? = some (.cells #[.int .i64 most, .int .i64 again, .slice As said.length cs, .int .i64 (hn0 : Int), .int .i64 out, .slice At took.length ct, .int .i64 (gn : Int), .int .i64 last, .bool went, .bool owes] 27 (0, 0)) ∧ w1.heap[w.heap.size + 1]? = some (.cells #[.int .i64 most', .int .i64 again', .slice As' said'.length cs', .int .i64 (hn0' : Int), .int .i64 out', .slice At' took'.length ct', .int .i64 (gn' : Int), .int .i64 last', .bool went', .bool owes'] 27 (0, 0)) := hz ▸ laid2 w _ _ _ _
  clear hz
  have HB1 := Aside0.mk hb1
  generalize w.heap.size = b2 at h2 h3 ⊢
  have x0 : w1.cell? ⟨b2, 0, none⟩ = some (.int .i64 most) := blk_cell h2 0
  have x1 : w1.cell? ⟨b2, 1, none⟩ = some (.int .i64 again) := blk_cell h2 1
  have x2 : w1.cell? ⟨b2, 2, none⟩ = some (.slice As said.length cs) := blk_cell h2 2
  have x3 : w1.cell? ⟨b2, 3, none⟩ = some (.int .i64 (hn0 : Int)) := blk_cell h2 3
  have x4 : w1.cell? ⟨b2, 4, none⟩ = some (.int .i64 out) := blk_cell h2 4
  have x5 : w1.cell? ⟨b2, 5, none⟩ = some (.slice At took.length ct) := blk_cell h2 5
  have x6 : w1.cell? ⟨b2, 6, none⟩ = some (.int .i64 (gn : Int)) := blk_cell h2 6
  have x7 : w1.cell? ⟨b2, 7, none⟩ = some (.int .i64 last) := blk_cell h2 7
  have x8 : w1.cell? ⟨b2, 8, none⟩ = some (.bool went) := blk_cell h2 8
  have x9 : w1.cell? ⟨b2, 9, none⟩ = some (.bool owes) := blk_cell h2 9
  have y0 : w1.cell? ⟨b2 + 1, 0, none⟩ = some (.int .i64 most') := blk_cell h3 0
  have y1 : w1.cell? ⟨b2 + 1, 1, none⟩ = some (.int .i64 again') := blk_cell h3 1
  have y2 : w1.cell? ⟨b2 + 1, 2, none⟩ = some (.slice As' said'.length cs') := blk_cell h3 2
  have y3 : w1.cell? ⟨b2 + 1, 3, none⟩ = some (.int .i64 (hn0' : Int)) := blk_cell h3 3
  have y4 : w1.cell? ⟨b2 + 1, 4, none⟩ = some (.int .i64 out') := blk_cell h3 4
  have y5 : w1.cell? ⟨b2 + 1, 5, none⟩ = some (.slice At' took'.length ct') := blk_cell h3 5
  have y6 : w1.cell? ⟨b2 + 1, 6, none⟩ = some (.int .i64 (gn' : Int)) := blk_cell h3 6
  have y7 : w1.cell? ⟨b2 + 1, 7, none⟩ = some (.int .i64 last') := blk_cell h3 7
  have y8 : w1.cell? ⟨b2 + 1, 8, none⟩ = some (.bool went') := blk_cell h3 8
  have y9 : w1.cell? ⟨b2 + 1, 9, none⟩ = some (.bool owes') := blk_cell h3 9
  clear h2 h3 hb1
  simp only [List.append_eq, List.cons_append, List.nil_append]
  refine wp_region_quiet_lit (by kernel_rfl) (by kernel_rfl) ?_
  cases p1 : (most == most')
  · skip
    exact absurd HP.out (by simp [p1])
  cases p2 : (again == again')
  · skip
    exact absurd HP.out (by simp [p2])
  cases p3 : ((said.length : Int) == (said'.length : Int))
  · skip
    exact absurd HP.out (by simp [p3])
  cases p4 : sameL (said.drop hn0) (said'.drop hn0')
  · skip
    exact absurd HP.out (by simp [p4])
  cases p5 : ((hn0 : Int) == (hn0' : Int))
  · skip
    obtain rfl : r = false := by rw [HS.out]; simp only [p1, p2, p3, p4, p5, Bool.and_true, Bool.true_and, Bool.and_false, Bool.false_and]
    have p3n := nat_beq p3
    have p5n := nat_beq p5
    repeat (go_big_quiet_step (first | (go_at_call 17; with_reducible exact same_q Ds (cs - hn0) (said.drop hn0) (said.length - hn0) List.length_drop Ds' (cs' - hn0') (said'.drop hn0') (said'.length - hn0') List.length_drop _ p4 w1 _ (Kd.C_below HCs.out HB1.out) (Kd.C_below HCs'.out HB1.out) HL1.out)))
    refine wpQuiet_nil ?_
    intro _ hw'
    obtain ⟨nq, hw''⟩ := hw'
    subst hw''
    go_wp2
    go_ret
    exact ⟨rfl, pw_below_drewN HB1.out _⟩
  cases p6 : (out == out')
  · skip
    obtain rfl : r = false := by rw [HS.out]; simp only [p1, p2, p3, p4, p5, p6, Bool.and_true, Bool.true_and, Bool.and_false, Bool.false_and]
    have p3n := nat_beq p3
    have p5n := nat_beq p5
    repeat (go_big_quiet_step (first | (go_at_call 17; with_reducible exact same_q Ds (cs - hn0) (said.drop hn0) (said.length - hn0) List.length_drop Ds' (cs' - hn0') (said'.drop hn0') (said'.length - hn0') List.length_drop _ p4 w1 _ (Kd.C_below HCs.out HB1.out) (Kd.C_below HCs'.out HB1.out) HL1.out)))
    refine wpQuiet_nil ?_
    intro _ hw'
    obtain ⟨nq, hw''⟩ := hw'
    subst hw''
    go_wp2
    go_ret
    exact ⟨rfl, pw_below_drewN HB1.out _⟩
  cases p7 : ((took.length : Int) == (took'.length : Int))
  · skip
    obtain rfl : r = false := by rw [HS.out]; simp only [p1, p2, p3, p4, p5, p6, p7, Bool.and_true, Bool.true_and, Bool.and_false, Bool.false_and]
    have p3n := nat_beq p3
    have p5n := nat_beq p5
    have p7n := nat_beq p7
    repeat (go_big_quiet_step (first | (go_at_call 17; with_reducible exact same_q Ds (cs - hn0) (said.drop hn0) (said.length - hn0) List.length_drop Ds' (cs' - hn0') (said'.drop hn0') (said'.length - hn0') List.length_drop _ p4 w1 _ (Kd.C_below HCs.out HB1.out) (Kd.C_below HCs'.out HB1.out) HL1.out)))
    refine wpQuiet_nil ?_
    intro _ hw'
    obtain ⟨nq, hw''⟩ := hw'
    subst hw''
    go_wp2
    go_ret
    exact ⟨rfl, pw_below_drewN HB1.out _⟩
  cases p8 : sameL (took.drop gn) (took'.drop gn')
  · skip
    obtain rfl : r = false := by rw [HS.out]; simp only [p1, p2, p3, p4, p5, p6, p7, p8, Bool.and_true, Bool.true_and, Bool.and_false, Bool.false_and]
    have p3n := nat_beq p3
    have p5n := nat_beq p5
    have p7n := nat_beq p7
    repeat (go_big_quiet_step (first | (go_at_call 17; with_reducible exact same_q Ds (cs - hn0) (said.drop hn0) (said.length - hn0) List.length_drop Ds' (cs' - hn0') (said'.drop hn0') (said'.length - hn0') List.length_drop _ p4 w1 _ (Kd.C_below HCs.out HB1.out) (Kd.C_below HCs'.out HB1.out) HL1.out) | (go_at_call 17; with_reducible exact same_q Dt (ct - gn) (took.drop gn) (took.length - gn) List.length_drop Dt' (ct' - gn') (took'.drop gn') (took'.length - gn') List.length_drop _ p8 w1 _ (Kd.C_below HCt.out HB1.out) (Kd.C_below HCt'.out HB1.out) HL2.out)))
    refine wpQuiet_nil ?_
    intro _ hw'
    obtain ⟨nq, hw''⟩ := hw'
    subst hw''
    go_wp2
    go_ret
    exact ⟨rfl, pw_below_drewN HB1.out _⟩
  exact absurd HX.out (by simp [p5, p6, p7, p8])
set_option maxRecDepth 100000 in
set_option maxHeartbeats 4000000 in
theorem alike_c (n n' : Nat) (a b : Rf) (Pa Pb : Nat → Prop) (As At As' At' : Option Addr) (cs ct cs' ct' : Nat) (w : World) (ha : Rv w Pa a (.slice As a.said.length cs) (.slice At a.took.length ct)) (hb : Rv w Pb b (.slice As' b.said.length cs') (.slice At' b.took.length ct')) (oka : OkR n a) (okb : OkR n' b) (hn : n ≤ 80) (hn' : n' ≤ 80) (HP : ((a.most == b.most) && (a.again == b.again) && ((a.said.length : Int) == (b.said.length : Int)) && sameL (a.said.drop a.heard.toNat) (b.said.drop b.heard.toNat) && (a.heard == b.heard) && (a.out == b.out) && ((a.took.length : Int) == (b.took.length : Int)) && sameL (a.took.drop a.gave.toNat) (b.took.drop b.gave.toNat)) = true) :
    Calls Try.prog 27 #[.agg (rfC a (.slice As a.said.length cs) (.slice At a.took.length ct)), .agg (rfC b (.slice As' b.said.length cs') (.slice At' b.took.length ct'))] w fun e w' => e = .returned (.bool (alikeR a b)) ∧ Below w.heap.size w w' := by
  obtain ⟨most, again, said, heard, out, took, gave, last, went, owes⟩ := a
  obtain ⟨most', again', said', heard', out', took', gave', last', went', owes'⟩ := b
  have hh : 0 ≤ heard ∧ heard ≤ out := oka.heard
  have ho : out ≤ said.length := oka.out
  have hg : 0 ≤ gave ∧ gave ≤ took.length := oka.gave
  have hsl : said.length ≤ n := oka.said
  have htl : took.length ≤ 64 * n := oka.took
  have hh' : 0 ≤ heard' ∧ heard' ≤ out' := okb.heard
  have ho' : out' ≤ said'.length := okb.out
  have hg' : 0 ≤ gave' ∧ gave' ≤ took'.length := okb.gave
  have hsl' : said'.length ≤ n' := okb.said
  have htl' : took'.length ≤ 64 * n' := okb.took
  have hs : Kd.V kM 34 w 0 Pa (.slice As said.length cs) said := ha.1
  have ht : Kd.V kM 34 w 0 Pa (.slice At took.length ct) took := ha.2
  have hs' : Kd.V kM 34 w 0 Pb (.slice As' said'.length cs') said' := hb.1
  have ht' : Kd.V kM 34 w 0 Pb (.slice At' took'.length ct') took' := hb.2
  clear oka okb ha hb
  obtain ⟨hn0, rfl⟩ := Int.eq_ofNat_of_zero_le hh.1
  obtain ⟨hn0', rfl⟩ := Int.eq_ofNat_of_zero_le hh'.1
  obtain ⟨gn, rfl⟩ := Int.eq_ofNat_of_zero_le hg.1
  obtain ⟨gn', rfl⟩ := Int.eq_ofNat_of_zero_le hg'.1
  simp only [Int.toNat_natCast] at HP
  replace HP := Aside0.mk HP
  have vs := Kd.V_at hs
  have vt := Kd.V_at ht
  have k1 : hn0 ≤ said.length := by omega
  have k2 : gn ≤ took.length := by omega
  have rs := fun W => run_drop25 As cs said.length hn0 k1 vs.2.1 W
  have Cs := Kd.F_now (Kd.F_cut vs.2.2 k1 vs.2.1)
  obtain ⟨Ds, hDs⟩ : ∃ D, D = (if cs = hn0 then As else As.map (·.add (hn0 * 1))) := ⟨_, rfl⟩
  rw [← hDs] at rs
  have HCs : Aside0 (Kd.C kM w Ds (said.drop hn0).length (said.drop hn0)) := ⟨by rw [hDs]; exact Cs⟩
  clear Cs hDs
  have rt := fun W => run_drop25 At ct took.length gn k2 vt.2.1 W
  have Ct := Kd.F_now (Kd.F_cut vt.2.2 k2 vt.2.1)
  obtain ⟨Dt, hDt⟩ : ∃ D, D = (if ct = gn then At else At.map (·.add (gn * 1))) := ⟨_, rfl⟩
  rw [← hDt] at rt
  have HCt : Aside0 (Kd.C kM w Dt (took.drop gn).length (took.drop gn)) := ⟨by rw [hDt]; exact Ct⟩
  clear Ct hDt
  have vs' := Kd.V_at hs'
  have vt' := Kd.V_at ht'
  have k1' : hn0' ≤ said'.length := by omega
  have k2' : gn' ≤ took'.length := by omega
  have rs' := fun W => run_drop25 As' cs' said'.length hn0' k1' vs'.2.1 W
  have Cs' := Kd.F_now (Kd.F_cut vs'.2.2 k1' vs'.2.1)
  obtain ⟨Ds', hDs'⟩ : ∃ D, D = (if cs' = hn0' then As' else As'.map (·.add (hn0' * 1))) := ⟨_, rfl⟩
  rw [← hDs'] at rs'
  have HCs' : Aside0 (Kd.C kM w Ds' (said'.drop hn0').length (said'.drop hn0')) := ⟨by rw [hDs']; exact Cs'⟩
  clear Cs' hDs'
  have rt' := fun W => run_drop25 At' ct' took'.length gn' k2' vt'.2.1 W
  have Ct' := Kd.F_now (Kd.F_cut vt'.2.2 k2' vt'.2.1)
  obtain ⟨Dt', hDt'⟩ : ∃ D, D = (if ct' = gn' then At' else At'.map (·.add (gn' * 1))) := ⟨_, rfl⟩
  rw [← hDt'] at rt'
  have HCt' : Aside0 (Kd.C kM w Dt' (took'.drop gn').length (took'.drop gn')) := ⟨by rw [hDt']; exact Ct'⟩
  clear Ct' hDt'
  have HL1 := Aside0.mk (show (said.drop hn0).length < 1000000 by rw [List.length_drop]; omega)
  have HL2 := Aside0.mk (show (took.drop gn).length < 1000000 by rw [List.length_drop]; omega)
  clear hs ht hs' ht' hh ho hg hsl htl hh' ho' hg' hsl' htl' vs vt vs' vt' k1 k2 k1' k2' hn hn'
  generalize hr : alikeR _ _ = r
  have HR := Aside0.mk hr
  clear hr
  have HS : Aside0 (r = ((most == most') && (again == again') && ((said.length : Int) == (said'.length : Int)) && sameL (said.drop hn0) (said'.drop hn0') && ((hn0 : Int) == (hn0' : Int)) && (out == out') && ((took.length : Int) == (took'.length : Int)) && sameL (took.drop gn) (took'.drop gn') && (last == last') && (went == went') && (owes == owes'))) := Aside0.mk (by rw [← HR.out]; simp only [alikeR, Bool.and_assoc, Int.toNat_natCast])
  go_enter Try.func27, Try.ntmps27
  go_upto_region 1 with fail
  generalize hz : (w.alloc _).alloc _ = w1
  obtain ⟨hb1, h2, h3⟩ : Below w.heap.size w w1 ∧ w1.heap[w.heap.size]? = some (.cells #[.int .i64 most, .int .i64 again, .slice As said.length cs, .int .i64 (hn0 : Int), .int .i64 out, .slice At took.length ct, .int .i64 (gn : Int), .int .i64 last, .bool went, .bool owes] 27 (0, 0)) ∧ w1.heap[w.heap.size + 1]? = some (.cells #[.int .i64 most', .int .i64 again', .slice As' said'.length cs', .int .i64 (hn0' : Int), .int .i64 out', .slice At' took'.length ct', .int .i64 (gn' : Int), .int .i64 last', .bool went', .bool owes'] 27 (0, 0)) := hz ▸ laid2 w _ _ _ _
  clear hz
  have HB1 := Aside0.mk hb1
  generalize w.heap.size = b2 at h2 h3 ⊢
  have x0 : w1.cell? ⟨b2, 0, none⟩ = some (.int .i64 most) := blk_cell h2 0
  have x1 : w1.cell? ⟨b2, 1, none⟩ = some (.int .i64 again) := blk_cell h2 1
  have x2 : w1.cell? ⟨b2, 2, none⟩ = some (.slice As said.length cs) := blk_cell h2 2
  have x3 : w1.cell? ⟨b2, 3, none⟩ = some (.int .i64 (hn0 : Int)) := blk_cell h2 3
  have x4 : w1.cell? ⟨b2, 4, none⟩ = some (.int .i64 out) := blk_cell h2 4
  have x5 : w1.cell? ⟨b2, 5, none⟩ = some (.slice At took.length ct) := blk_cell h2 5
  have x6 : w1.cell? ⟨b2, 6, none⟩ = some (.int .i64 (gn : Int)) := blk_cell h2 6
  have x7 : w1.cell? ⟨b2, 7, none⟩ = some (.int .i64 last) := blk_cell h2 7
  have x8 : w1.cell? ⟨b2, 8, none⟩ = some (.bool went) := blk_cell h2 8
  have x9 : w1.cell? ⟨b2, 9, none⟩ = some (.bool owes) := blk_cell h2 9
  have y0 : w1.cell? ⟨b2 + 1, 0, none⟩ = some (.int .i64 most') := blk_cell h3 0
  have y1 : w1.cell? ⟨b2 + 1, 1, none⟩ = some (.int .i64 again') := blk_cell h3 1
  have y2 : w1.cell? ⟨b2 + 1, 2, none⟩ = some (.slice As' said'.length cs') := blk_cell h3 2
  have y3 : w1.cell? ⟨b2 + 1, 3, none⟩ = some (.int .i64 (hn0' : Int)) := blk_cell h3 3
  have y4 : w1.cell? ⟨b2 + 1, 4, none⟩ = some (.int .i64 out') := blk_cell h3 4
  have y5 : w1.cell? ⟨b2 + 1, 5, none⟩ = some (.slice At' took'.length ct') := blk_cell h3 5
  have y6 : w1.cell? ⟨b2 + 1, 6, none⟩ = some (.int .i64 (gn' : Int)) := blk_cell h3 6
  have y7 : w1.cell? ⟨b2 + 1, 7, none⟩ = some (.int .i64 last') := blk_cell h3 7
  have y8 : w1.cell? ⟨b2 + 1, 8, none⟩ = some (.bool went') := blk_cell h3 8
  have y9 : w1.cell? ⟨b2 + 1, 9, none⟩ = some (.bool owes') := blk_cell h3 9
  clear h2 h3 hb1
  simp only [List.append_eq, List.cons_append, List.nil_append]
  refine wp_region_quiet_lit (by kernel_rfl) (by kernel_rfl) ?_
  cases p1 : (most == most')
  · skip
    exact absurd HP.out (by simp [p1])
  cases p2 : (again == again')
  · skip
    exact absurd HP.out (by simp [p2])
  cases p3 : ((said.length : Int) == (said'.length : Int))
  · skip
    exact absurd HP.out (by simp [p3])
  cases p4 : sameL (said.drop hn0) (said'.drop hn0')
  · skip
    exact absurd HP.out (by simp [p4])
  cases p5 : ((hn0 : Int) == (hn0' : Int))
  · skip
    exact absurd HP.out (by simp [p5])
  cases p6 : (out == out')
  · skip
    exact absurd HP.out (by simp [p6])
  cases p7 : ((took.length : Int) == (took'.length : Int))
  · skip
    exact absurd HP.out (by simp [p7])
  cases p8 : sameL (took.drop gn) (took'.drop gn')
  · skip
    exact absurd HP.out (by simp [p8])
  cases p9 : (last == last')
  · skip
    obtain rfl : r = false := by rw [HS.out]; simp only [p1, p2, p3, p4, p5, p6, p7, p8, p9, Bool.and_true, Bool.true_and, Bool.and_false, Bool.false_and]
    have p3n := nat_beq p3
    have p5n := nat_beq p5
    have p7n := nat_beq p7
    repeat (go_big_quiet_step (first | (go_at_call 17; with_reducible exact same_q Ds (cs - hn0) (said.drop hn0) (said.length - hn0) List.length_drop Ds' (cs' - hn0') (said'.drop hn0') (said'.length - hn0') List.length_drop _ p4 w1 _ (Kd.C_below HCs.out HB1.out) (Kd.C_below HCs'.out HB1.out) HL1.out) | (go_at_call 17; with_reducible exact same_q Dt (ct - gn) (took.drop gn) (took.length - gn) List.length_drop Dt' (ct' - gn') (took'.drop gn') (took'.length - gn') List.length_drop _ p8 w1 _ (Kd.C_below HCt.out HB1.out) (Kd.C_below HCt'.out HB1.out) HL2.out)))
    refine wpQuiet_nil ?_
    intro _ hw'
    obtain ⟨nq, hw''⟩ := hw'
    subst hw''
    go_wp2
    go_ret
    exact ⟨rfl, pw_below_drewN HB1.out _⟩
  cases p10 : (went == went')
  · skip
    obtain rfl : r = false := by rw [HS.out]; simp only [p1, p2, p3, p4, p5, p6, p7, p8, p9, p10, Bool.and_true, Bool.true_and, Bool.and_false, Bool.false_and]
    have p3n := nat_beq p3
    have p5n := nat_beq p5
    have p7n := nat_beq p7
    repeat (go_big_quiet_step (first | (go_at_call 17; with_reducible exact same_q Ds (cs - hn0) (said.drop hn0) (said.length - hn0) List.length_drop Ds' (cs' - hn0') (said'.drop hn0') (said'.length - hn0') List.length_drop _ p4 w1 _ (Kd.C_below HCs.out HB1.out) (Kd.C_below HCs'.out HB1.out) HL1.out) | (go_at_call 17; with_reducible exact same_q Dt (ct - gn) (took.drop gn) (took.length - gn) List.length_drop Dt' (ct' - gn') (took'.drop gn') (took'.length - gn') List.length_drop _ p8 w1 _ (Kd.C_below HCt.out HB1.out) (Kd.C_below HCt'.out HB1.out) HL2.out)))
    refine wpQuiet_nil ?_
    intro _ hw'
    obtain ⟨nq, hw''⟩ := hw'
    subst hw''
    go_wp2
    go_ret
    exact ⟨rfl, pw_below_drewN HB1.out _⟩
  cases p11 : (owes == owes')
  · skip
    obtain rfl : r = false := by rw [HS.out]; simp only [p1, p2, p3, p4, p5, p6, p7, p8, p9, p10, p11, Bool.and_true, Bool.true_and, Bool.and_false, Bool.false_and]
    have p3n := nat_beq p3
    have p5n := nat_beq p5
    have p7n := nat_beq p7
    repeat (go_big_quiet_step (first | (go_at_call 17; with_reducible exact same_q Ds (cs - hn0) (said.drop hn0) (said.length - hn0) List.length_drop Ds' (cs' - hn0') (said'.drop hn0') (said'.length - hn0') List.length_drop _ p4 w1 _ (Kd.C_below HCs.out HB1.out) (Kd.C_below HCs'.out HB1.out) HL1.out) | (go_at_call 17; with_reducible exact same_q Dt (ct - gn) (took.drop gn) (took.length - gn) List.length_drop Dt' (ct' - gn') (took'.drop gn') (took'.length - gn') List.length_drop _ p8 w1 _ (Kd.C_below HCt.out HB1.out) (Kd.C_below HCt'.out HB1.out) HL2.out)))
    refine wpQuiet_nil ?_
    intro _ hw'
    obtain ⟨nq, hw''⟩ := hw'
    subst hw''
    go_wp2
    go_ret
    exact ⟨rfl, pw_below_drewN HB1.out _⟩
  obtain rfl : r = true := by rw [HS.out]; simp only [p1, p2, p3, p4, p5, p6, p7, p8, p9, p10, p11, Bool.and_true, Bool.true_and, Bool.and_false, Bool.false_and]
  have p3n := nat_beq p3
  have p5n := nat_beq p5
  have p7n := nat_beq p7
  repeat (go_big_quiet_step (first | (go_at_call 17; with_reducible exact same_q Ds (cs - hn0) (said.drop hn0) (said.length - hn0) List.length_drop Ds' (cs' - hn0') (said'.drop hn0') (said'.length - hn0') List.length_drop _ p4 w1 _ (Kd.C_below HCs.out HB1.out) (Kd.C_below HCs'.out HB1.out) HL1.out) | (go_at_call 17; with_reducible exact same_q Dt (ct - gn) (took.drop gn) (took.length - gn) List.length_drop Dt' (ct' - gn') (took'.drop gn') (took'.length - gn') List.length_drop _ p8 w1 _ (Kd.C_below HCt.out HB1.out) (Kd.C_below HCt'.out HB1.out) HL2.out)))
  refine wpQuiet_nil ?_
  intro _ hw'
  obtain ⟨nq, hw''⟩ := hw'
  subst hw''
  go_wp2
  go_ret
  exact ⟨rfl, pw_below_drewN HB1.out _⟩
set_option maxRecDepth 100000 in
set_option maxHeartbeats 4000000 in
theorem alike_ok (n n' : Nat) (a b : Rf) (Pa Pb : Nat → Prop) (As At As' At' : Option Addr) (cs ct cs' ct' : Nat) (w : World) (ha : Rv w Pa a (.slice As a.said.length cs) (.slice At a.took.length ct)) (hb : Rv w Pb b (.slice As' b.said.length cs') (.slice At' b.took.length ct')) (oka : OkR n a) (okb : OkR n' b) (hn : n ≤ 80) (hn' : n' ≤ 80) :
    Calls Try.prog 27 #[.agg (rfC a (.slice As a.said.length cs) (.slice At a.took.length ct)), .agg (rfC b (.slice As' b.said.length cs') (.slice At' b.took.length ct'))] w fun e w' => e = .returned (.bool (alikeR a b)) ∧ Below w.heap.size w w' := by
  cases h1 : ((a.most == b.most) && (a.again == b.again) && ((a.said.length : Int) == (b.said.length : Int)) && sameL (a.said.drop a.heard.toNat) (b.said.drop b.heard.toNat))
  · exact alike_a n n' a b Pa Pb As At As' At' cs ct cs' ct' w ha hb oka okb hn hn' h1
  cases h2 : ((a.heard == b.heard) && (a.out == b.out) && ((a.took.length : Int) == (b.took.length : Int)) && sameL (a.took.drop a.gave.toNat) (b.took.drop b.gave.toNat))
  · exact alike_b n n' a b Pa Pb As At As' At' cs ct cs' ct' w ha hb oka okb hn hn' h1 h2
  · refine alike_c n n' a b Pa Pb As At As' At' cs ct cs' ct' w ha hb oka okb hn hn' ?_
    simp only [Bool.and_eq_true] at h1 h2 ⊢
    simp only [h1, h2, and_self]
end Go.Proofs.Yteeljnlhgaljaaa
