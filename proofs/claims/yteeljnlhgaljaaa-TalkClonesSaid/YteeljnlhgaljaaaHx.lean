-- Made by a program of this claim's author (extprint.py over the kit's print).
import Derived.Test.YteeljnlhgaljaaaPx0
namespace Go.Proofs.Yteeljnlhgaljaaa.P
open Go.RowKit Go.Proofs.YteeljnlhgaljaaaW.PrintWords Go.Proofs.YteeljnlhgaljaaaW.PrintLast Go.Proofs.YteeljnlhgaljaaaW.PrintMore
attribute [local go_sem] max2_int min2_int max_two min_two max_three min_three max_four min_four   -- for this text's walks alone
set_option linter.unusedVariables false
set_option linter.unusedSimpArgs false

/-! ### baizeref44_Hear: function 32 -/
mutual
def baizeref44_Hear.j0 : Nat → Bool → Int → Int → List (List Int) → Int → Int → List (List Int) → Int → Int → Bool → Bool → Int → List (List Int) → Int → Option (Int × Int × (List (List Int)) × Int × Int × (List (List Int)) × Int × Int × Bool × Bool × Int)
  | 0, _, _, _, _, _, _, _, _, _, _, _, _, _, _ => none
  | k + 1, x29, x206000, x206001, x206002, x206003, x206004, x206005, x206006, x206007, x206008, x206009, x207000, x207001, x207002 => if x29 = true then (some (x206000, x206001, x206002, x206003, x206004, x206005, x206006, x206007, x206008, x206009, 2)) else (baizeref44_Hear.l0 k 0 x206000 x206001 x206002 x206003 x206004 x206005 x206006 x206007 x206008 x206009 x207000 x207001 x207002)
def baizeref44_Hear.l0 : Nat → Int → Int → Int → List (List Int) → Int → Int → List (List Int) → Int → Int → Bool → Bool → Int → List (List Int) → Int → Option (Int × Int × (List (List Int)) × Int × Int × (List (List Int)) × Int × Int × Bool × Bool × Int)
  | 0, _, _, _, _, _, _, _, _, _, _, _, _, _, _ => none
  | k + 1, x6, x206000, x206001, x206002, x206003, x206004, x206005, x206006, x206007, x206008, x206009, x207000, x207001, x207002 => if x6 < (x207001.length : Int) then (if 0 ≤ x6 then (if ((rd_L1 x207001 x6).length : Int) > 4096 then (some (x206000, x206001, x206002, x206003, x206004, x206005, x206006, x206007, x206008, x206009, 2)) else (baizeref44_Hear.l0 k (wrap64 (x6 + 1)) x206000 x206001 x206002 x206003 x206004 x206005 x206006 x206007 x206008 x206009 x207000 x207001 x207002)) else (none)) else (if (x207001.length : Int) > 0 then (baizeref44_Hear.j2 k x206000 x206001 x206002 (mx x206003 x207002) (mx x206004 (mx x206003 x207002)) x206005 x206006 x206007 x206008 true x207000 x207001 x207002) else (baizeref44_Hear.j2 k x206000 x206001 x206002 (mx x206003 x207002) (mx x206004 (mx x206003 x207002)) x206005 x206006 x206007 x206008 x206009 x207000 x207001 x207002))
def baizeref44_Hear.j2 : Nat → Int → Int → List (List Int) → Int → Int → List (List Int) → Int → Int → Bool → Bool → Int → List (List Int) → Int → Option (Int × Int × (List (List Int)) × Int × Int × (List (List Int)) × Int × Int × Bool × Bool × Int)
  | 0, _, _, _, _, _, _, _, _, _, _, _, _, _ => none
  | k + 1, x206000, x206001, x206002, x206003, x206004, x206005, x206006, x206007, x206008, x206009, x207000, x207001, x207002 => if x207000 > (x206005.length : Int) then (some (x206000, x206001, x206002, x206003, x206004, x206005, x206006, x206007, x206008, x206009, 20)) else (baizeref44_Hear.l1 k 0 x206000 x206001 x206002 x206003 x206004 x206005 x206006 x206007 x206008 x206009 x207000 x207001 x207002)
def baizeref44_Hear.l1 : Nat → Int → Int → Int → List (List Int) → Int → Int → List (List Int) → Int → Int → Bool → Bool → Int → List (List Int) → Int → Option (Int × Int × (List (List Int)) × Int × Int × (List (List Int)) × Int × Int × Bool × Bool × Int)
  | 0, _, _, _, _, _, _, _, _, _, _, _, _, _, _ => none
  | k + 1, x7, x206000, x206001, x206002, x206003, x206004, x206005, x206006, x206007, x206008, x206009, x207000, x207001, x207002 => if x7 < (x207001.length : Int) then (if (wrap64 (x207000 + x7)) = (x206005.length : Int) then ((some (([] : List (List Int)) : List (List Int))).bind fun y209 => (if y209.length + x206005.length < 5864062014805 then ((some (y209 ++ x206005 : List (List Int))).bind fun y212 => ((some (([] : List Int) : List Int)).bind fun y215 => (if 0 ≤ x7 then (if y215.length + (rd_L1 x207001 x7).length < 140737488355328 then (if y212.length < 5864062014805 then (baizeref44_Hear.l1 k (wrap64 (x7 + 1)) x206000 x206001 x206002 x206003 x206004 (y212 ++ [(y215 ++ (rd_L1 x207001 x7))]) x206006 x206007 x206008 x206009 x207000 x207001 x207002) else (none)) else (none)) else (none)))) else (none))) else (baizeref44_Hear.l1 k (wrap64 (x7 + 1)) x206000 x206001 x206002 x206003 x206004 x206005 x206006 x206007 x206008 x206009 x207000 x207001 x207002)) else (some (x206000, x206001, x206002, x206003, x206004, x206005, x206006, x206007, x206008, x206009, 0))
end
def baizeref44_Hear.f (k : Nat) (a0_0 : Int) (a0_1 : Int) (l0_2 : List (List Int)) (a0_3 : Int) (a0_4 : Int) (l0_5 : List (List Int)) (a0_6 : Int) (a0_7 : Int) (a0_8 : Bool) (a0_9 : Bool) (a1_0 : Int) (l1_1 : List (List Int)) (a1_2 : Int) : Option (Int × Int × (List (List Int)) × Int × Int × (List (List Int)) × Int × Int × Bool × Bool × Int) := if a1_0 < 0 then (baizeref44_Hear.j0 k true a0_0 a0_1 l0_2 a0_3 a0_4 l0_5 a0_6 a0_7 a0_8 a0_9 a1_0 l1_1 a1_2) else (if a1_2 < 0 then (baizeref44_Hear.j0 k true a0_0 a0_1 l0_2 a0_3 a0_4 l0_5 a0_6 a0_7 a0_8 a0_9 a1_0 l1_1 a1_2) else (if (l1_1.length : Int) > 64 then (baizeref44_Hear.j0 k true a0_0 a0_1 l0_2 a0_3 a0_4 l0_5 a0_6 a0_7 a0_8 a0_9 a1_0 l1_1 a1_2) else (baizeref44_Hear.j0 k (decide (a1_2 > (l0_2.length : Int))) a0_0 a0_1 l0_2 a0_3 a0_4 l0_5 a0_6 a0_7 a0_8 a0_9 a1_0 l1_1 a1_2)))
def baizeref44_Hear.T18 : Bool × List (List Nat × List Nat) := (true, [([], []), ([], []), ([1], [1]), ([0, 2], [0, 2]), ([], []), ([], []), ([5], [5]), ([], []), ([6, 7], [6, 7]), ([8], [8]), ([4, 9, 3], [4, 9]), ([10], [10]), ([3, 11, 10], [3, 11]), ([0, 1, 2, 3, 4, 5, 6, 7, 8, 9, 10, 11, 12], []), ([13, 12, 12, 0, 1, 2, 3, 4, 5, 6, 7, 8, 9, 10, 11, 12], [12, 13])])
def baizeref44_Hear.B18 : List Nat := [0, 0, 2, 7, 0, 0, 32, 0, 224, 480, 1023, 2047, 4095, 8191, 16383]
theorem baizeref44_Hear.tab18 : rtab .any (opsOf Try.f32 18) = baizeref44_Hear.T18 := by kernel_rfl
theorem baizeref44_Hear.bits18 : waitsOk baizeref44_Hear.T18.2 baizeref44_Hear.B18 = true := by kernel_rfl
set_option maxHeartbeats 8000000 in
set_option maxRecDepth 100000 in
theorem baizeref44_Hear.calls (k : Nat) (a0_0 : Int) (a0_1 : Int) (P0_2_ : Nat → Prop) (A0_2 : Option Addr) (c0_2 : Nat) (l0_2 : List (List Int)) (a0_3 : Int) (a0_4 : Int) (P0_5_ : Nat → Prop) (A0_5 : Option Addr) (c0_5 : Nat) (l0_5 : List (List Int)) (a0_6 : Int) (a0_7 : Int) (a0_8 : Bool) (a0_9 : Bool) (a1_0 : Int) (A1_1 : Option Addr) (c1_1 : Nat) (l1_1 : List (List Int)) (a1_2 : Int) (r1 : Int) (r2 : Int) (r3 : List (List Int)) (r4 : Int) (r5 : Int) (r6 : List (List Int)) (r7 : Int) (r8 : Int) (r9 : Bool) (r10 : Bool) (r11 : Int) (w : World) (hs0_2 : Kd.V (Kd.slice 5 (Kd.int .u8)) 34 w w.heap.size (fun k_ => P0_2_ k_) (.slice A0_2 l0_2.length c0_2) l0_2) (hs0_5 : Kd.V (Kd.slice 5 (Kd.int .u8)) 34 w w.heap.size (fun k_ => P0_5_ k_) (.slice A0_5 l0_5.length c0_5) l0_5) (hr1_1 : Kd.C (Kd.slice 5 (Kd.int .u8)) w A1_1 l1_1.length l1_1) (hc1_1 : l1_1.length ≤ c1_1) (h : baizeref44_Hear.f k a0_0 a0_1 l0_2 a0_3 a0_4 l0_5 a0_6 a0_7 a0_8 a0_9 a1_0 l1_1 a1_2 = some (r1, r2, r3, r4, r5, r6, r7, r8, r9, r10, r11)) :
    Calls Try.prog 32 #[.agg #[.int .i64 a0_0, .int .i64 a0_1, .slice A0_2 l0_2.length c0_2, .int .i64 a0_3, .int .i64 a0_4, .slice A0_5 l0_5.length c0_5, .int .i64 a0_6, .int .i64 a0_7, .bool a0_8, .bool a0_9], .agg #[.int .i64 a1_0, .slice A1_1 l1_1.length c1_1, .int .i64 a1_2]] w fun e w' => ∃ v2_ v5_ : Value, e = .returned (.tuple #[.agg #[.int .i64 r1, .int .i64 r2, v2_, .int .i64 r4, .int .i64 r5, v5_, .int .i64 r7, .int .i64 r8, .bool r9, .bool r10], .int .i64 r11]) ∧ Kd.V (Kd.slice 5 (Kd.int .u8)) 34 w' w.heap.size (fun k_ => ((P0_2_ k_ ∨ P0_5_ k_) ∨ w.heap.size ≤ k_)) v2_ r3 ∧ Kd.V (Kd.slice 5 (Kd.int .u8)) 34 w' w.heap.size (fun k_ => ((P0_2_ k_ ∨ P0_5_ k_) ∨ w.heap.size ≤ k_)) v5_ r6 ∧ Below w.heap.size w w' := by
  have hu27 := Try.underlying27
  have hu68 := Try.underlying68
  have HO0_2 := Aside0.mk (show Kd.V (Kd.slice 5 (Kd.int .u8)) 34 w w.heap.size (fun k_ => ((P0_2_ k_ ∨ P0_5_ k_) ∨ w.heap.size ≤ k_)) (.slice A0_2 l0_2.length c0_2) l0_2 from Kd.V_mono hs0_2 (fun k_ hk => .inl (.inl hk)))
  have HO0_5 := Aside0.mk (show Kd.V (Kd.slice 5 (Kd.int .u8)) 34 w w.heap.size (fun k_ => ((P0_2_ k_ ∨ P0_5_ k_) ∨ w.heap.size ≤ k_)) (.slice A0_5 l0_5.length c0_5) l0_5 from Kd.V_mono hs0_5 (fun k_ hk => .inl (.inr hk)))
  have HR1_1 := Aside0.mk hr1_1
  have HC1_1 := Aside0.mk hc1_1
  clear hr1_1 hc1_1
  have HB := Aside0.mk (Below.refl w.heap.size w)
  have H : (if a1_0 < 0 then (baizeref44_Hear.j0 k true a0_0 a0_1 l0_2 a0_3 a0_4 l0_5 a0_6 a0_7 a0_8 a0_9 a1_0 l1_1 a1_2) else (if a1_2 < 0 then (baizeref44_Hear.j0 k true a0_0 a0_1 l0_2 a0_3 a0_4 l0_5 a0_6 a0_7 a0_8 a0_9 a1_0 l1_1 a1_2) else (if (l1_1.length : Int) > 64 then (baizeref44_Hear.j0 k true a0_0 a0_1 l0_2 a0_3 a0_4 l0_5 a0_6 a0_7 a0_8 a0_9 a1_0 l1_1 a1_2) else (baizeref44_Hear.j0 k (decide (a1_2 > (l0_2.length : Int))) a0_0 a0_1 l0_2 a0_3 a0_4 l0_5 a0_6 a0_7 a0_8 a0_9 a1_0 l1_1 a1_2)))) = some (r1, r2, r3, r4, r5, r6, r7, r8, r9, r10, r11) := h
  clear h
  have HC3 := Aside0.mk H
  clear H
  go_enter Try.func32, Try.ntmps32
  go_upto_region 1 with (first | ((with_reducible refine gate_dst (N := 2) rfl ?_); (try (refine gate_guard (by rfl) ?_; dsimp only)); refine box_event ?hg (N := 2) ?hd (cs := #[.int .i64 a0_0, .int .i64 a0_1, .slice A0_2 l0_2.length c0_2, .int .i64 a0_3, .int .i64 a0_4, .slice A0_5 l0_5.length c0_5, .int .i64 a0_6, .int .i64 a0_7, .bool a0_8, .bool a0_9]) (t := 27) ?hr ?_; (case hd => rfl); (case hg => rfl); (case hr => first | (go_simp; done) | (go_simp; rfl)); intro gb205 hg w4 hbox hb; have n0_ := Aside0.mk (Kd.V_below (Kd.V_elderB (by (with_reducible repeat (first | apply Kd.V_alloc | apply Kd.V_drewN | apply Kd.V_drew)); exact HO0_2.out) gb205 (Nat.le_of_eq hg.symm)) hb); have n1_ := Aside0.mk (Kd.V_below (Kd.V_elderB (by (with_reducible repeat (first | apply Kd.V_alloc | apply Kd.V_drewN | apply Kd.V_drew)); exact HO0_5.out) gb205 (Nat.le_of_eq hg.symm)) hb); have n2_ := Aside0.mk (below_step (by repeat (first | (with_reducible first | exact HB.out | apply below_alloc | apply pw_below_drewN | apply below_drew1) | exact HB.out)) hb); have n3_ := Aside0.mk (hbox); have n4_ := Aside0.mk ((by rw [hg]; exact (below_size (by repeat (first | (with_reducible first | exact HB.out | apply below_alloc | apply pw_below_drewN | apply below_drew1) | exact HB.out))) : w.heap.size ≤ gb205)); have n5_ := Aside0.mk ((by rw [hg]; exact (below_size (by repeat (first | (with_reducible first | exact HB.out | apply below_alloc | apply pw_below_drewN | apply below_drew1) | exact HB.out))) : w.heap.size ≤ gb205)); clear HO0_2; clear HO0_5; clear HB; have HO0_2 := n0_; have HO0_5 := n1_; have HB := n2_; have BK205 := n3_; have GW205 := n4_; have GE205 := n5_; clear n0_ n1_ n2_ n3_ n4_ n5_; clear hb hbox hg) | ((with_reducible refine gate_dst (N := 3) rfl ?_); (try (refine gate_guard (by rfl) ?_; dsimp only)); refine box_event ?hg (N := 3) ?hd (cs := #[.int .i64 a1_0, .slice A1_1 l1_1.length c1_1, .int .i64 a1_2]) (t := 68) ?hr ?_; (case hd => rfl); (case hg => rfl); (case hr => first | (go_simp; done) | (go_simp; rfl)); intro gb206 hg w5 hbox hb; have n0_ := Aside0.mk (Kd.V_below (Kd.V_elderB (by (with_reducible repeat (first | apply Kd.V_alloc | apply Kd.V_drewN | apply Kd.V_drew)); exact HO0_2.out) gb206 (Nat.le_of_eq hg.symm)) hb); have n1_ := Aside0.mk (Kd.V_below (Kd.V_elderB (by (with_reducible repeat (first | apply Kd.V_alloc | apply Kd.V_drewN | apply Kd.V_drew)); exact HO0_5.out) gb206 (Nat.le_of_eq hg.symm)) hb); have n2_ := Aside0.mk (blk_below (g := gb205) (o := .cells #[.int .i64 a0_0, .int .i64 a0_1, .slice A0_2 l0_2.length c0_2, .int .i64 a0_3, .int .i64 a0_4, .slice A0_5 l0_5.length c0_5, .int .i64 a0_6, .int .i64 a0_7, .bool a0_8, .bool a0_9] 27 (0, 0)) (by (with_reducible repeat (first | refine blk_drewN ?_ _ | refine blk_drew ?_ | refine blk_alloc ?_ _)); exact BK205.out) hb); have n3_ := Aside0.mk (below_step (by repeat (first | (with_reducible first | exact HB.out | apply below_alloc | apply pw_below_drewN | apply below_drew1 | refine below_set ?_ GE205.out) | exact HB.out)) hb); have n4_ := Aside0.mk (hbox); have n5_ := Aside0.mk ((by rw [hg]; exact (below_size (by repeat (first | (with_reducible first | exact HB.out | apply below_alloc | apply pw_below_drewN | apply below_drew1 | refine below_set ?_ GE205.out) | exact HB.out))) : w.heap.size ≤ gb206)); have n6_ := Aside0.mk ((by rw [hg]; exact (below_size (by repeat (first | (with_reducible first | exact HB.out | apply below_alloc | apply pw_below_drewN | apply below_drew1 | refine below_set ?_ GE205.out) | exact HB.out))) : w.heap.size ≤ gb206)); have n7_ := Aside0.mk ((by rw [hg]; exact Nat.ne_of_lt (blk_lt (g := gb205) (o := .cells #[.int .i64 a0_0, .int .i64 a0_1, .slice A0_2 l0_2.length c0_2, .int .i64 a0_3, .int .i64 a0_4, .slice A0_5 l0_5.length c0_5, .int .i64 a0_6, .int .i64 a0_7, .bool a0_8, .bool a0_9] 27 (0, 0)) (by (with_reducible repeat (first | refine blk_drewN ?_ _ | refine blk_drew ?_ | refine blk_alloc ?_ _)); exact BK205.out)) : gb205 ≠ gb206)); have n8_ := Aside0.mk ((by rw [hg]; exact Nat.ne_of_gt (blk_lt (g := gb205) (o := .cells #[.int .i64 a0_0, .int .i64 a0_1, .slice A0_2 l0_2.length c0_2, .int .i64 a0_3, .int .i64 a0_4, .slice A0_5 l0_5.length c0_5, .int .i64 a0_6, .int .i64 a0_7, .bool a0_8, .bool a0_9] 27 (0, 0)) (by (with_reducible repeat (first | refine blk_drewN ?_ _ | refine blk_drew ?_ | refine blk_alloc ?_ _)); exact BK205.out)) : gb206 ≠ gb205)); clear HO0_2; clear HO0_5; clear BK205; clear HB; have HO0_2 := n0_; have HO0_5 := n1_; have BK205 := n2_; have HB := n3_; have BK206 := n4_; have GW206 := n5_; have GE206 := n6_; have NB205_206 := n7_; have NB206_205 := n8_; clear n0_ n1_ n2_ n3_ n4_ n5_ n6_ n7_ n8_; clear hb hbox hg) | ((with_reducible refine gate_dst (N := 4) rfl ?_); (try (refine gate_guard (by rfl) ?_; dsimp only)); refine box_event ?hg (N := 4) ?hd (cs := #[.int .i64 0, .int .i64 0, .slice none 0 0, .int .i64 0, .int .i64 0, .slice none 0 0, .int .i64 0, .int .i64 0, .bool false, .bool false]) (t := 27) ?hr ?_; (case hd => rfl); (case hg => rfl); (case hr => first | (go_simp; done) | (go_simp; rfl)); intro gb207 hg w6 hbox hb; have n0_ := Aside0.mk (Kd.V_below (Kd.V_elderB (by (with_reducible repeat (first | apply Kd.V_alloc | apply Kd.V_drewN | apply Kd.V_drew)); exact HO0_2.out) gb207 (Nat.le_of_eq hg.symm)) hb); have n1_ := Aside0.mk (Kd.V_below (Kd.V_elderB (by (with_reducible repeat (first | apply Kd.V_alloc | apply Kd.V_drewN | apply Kd.V_drew)); exact HO0_5.out) gb207 (Nat.le_of_eq hg.symm)) hb); have n2_ := Aside0.mk (blk_below (g := gb205) (o := .cells #[.int .i64 a0_0, .int .i64 a0_1, .slice A0_2 l0_2.length c0_2, .int .i64 a0_3, .int .i64 a0_4, .slice A0_5 l0_5.length c0_5, .int .i64 a0_6, .int .i64 a0_7, .bool a0_8, .bool a0_9] 27 (0, 0)) (by (with_reducible repeat (first | refine blk_drewN ?_ _ | refine blk_drew ?_ | refine blk_alloc ?_ _)); exact BK205.out) hb); have n3_ := Aside0.mk (blk_below (g := gb206) (o := .cells #[.int .i64 a1_0, .slice A1_1 l1_1.length c1_1, .int .i64 a1_2] 68 (0, 0)) (by (with_reducible repeat (first | refine blk_drewN ?_ _ | refine blk_drew ?_ | refine blk_alloc ?_ _)); exact BK206.out) hb); have n4_ := Aside0.mk (below_step (by repeat (first | (with_reducible first | exact HB.out | apply below_alloc | apply pw_below_drewN | apply below_drew1 | refine below_set ?_ GE205.out | refine below_set ?_ GE206.out) | exact HB.out)) hb); have n5_ := Aside0.mk (hbox); have n6_ := Aside0.mk ((by rw [hg]; exact (below_size (by repeat (first | (with_reducible first | exact HB.out | apply below_alloc | apply pw_below_drewN | apply below_drew1 | refine below_set ?_ GE205.out | refine below_set ?_ GE206.out) | exact HB.out))) : w.heap.size ≤ gb207)); have n7_ := Aside0.mk ((by rw [hg]; exact (below_size (by repeat (first | (with_reducible first | exact HB.out | apply below_alloc | apply pw_below_drewN | apply below_drew1 | refine below_set ?_ GE205.out | refine below_set ?_ GE206.out) | exact HB.out))) : w.heap.size ≤ gb207)); have n8_ := Aside0.mk ((by rw [hg]; exact Nat.ne_of_lt (blk_lt (g := gb205) (o := .cells #[.int .i64 a0_0, .int .i64 a0_1, .slice A0_2 l0_2.length c0_2, .int .i64 a0_3, .int .i64 a0_4, .slice A0_5 l0_5.length c0_5, .int .i64 a0_6, .int .i64 a0_7, .bool a0_8, .bool a0_9] 27 (0, 0)) (by (with_reducible repeat (first | refine blk_drewN ?_ _ | refine blk_drew ?_ | refine blk_alloc ?_ _)); exact BK205.out)) : gb205 ≠ gb207)); have n9_ := Aside0.mk ((by rw [hg]; exact Nat.ne_of_gt (blk_lt (g := gb205) (o := .cells #[.int .i64 a0_0, .int .i64 a0_1, .slice A0_2 l0_2.length c0_2, .int .i64 a0_3, .int .i64 a0_4, .slice A0_5 l0_5.length c0_5, .int .i64 a0_6, .int .i64 a0_7, .bool a0_8, .bool a0_9] 27 (0, 0)) (by (with_reducible repeat (first | refine blk_drewN ?_ _ | refine blk_drew ?_ | refine blk_alloc ?_ _)); exact BK205.out)) : gb207 ≠ gb205)); have n10_ := Aside0.mk ((by rw [hg]; exact Nat.ne_of_lt (blk_lt (g := gb206) (o := .cells #[.int .i64 a1_0, .slice A1_1 l1_1.length c1_1, .int .i64 a1_2] 68 (0, 0)) (by (with_reducible repeat (first | refine blk_drewN ?_ _ | refine blk_drew ?_ | refine blk_alloc ?_ _)); exact BK206.out)) : gb206 ≠ gb207)); have n11_ := Aside0.mk ((by rw [hg]; exact Nat.ne_of_gt (blk_lt (g := gb206) (o := .cells #[.int .i64 a1_0, .slice A1_1 l1_1.length c1_1, .int .i64 a1_2] 68 (0, 0)) (by (with_reducible repeat (first | refine blk_drewN ?_ _ | refine blk_drew ?_ | refine blk_alloc ?_ _)); exact BK206.out)) : gb207 ≠ gb206)); clear HO0_2; clear HO0_5; clear BK205; clear BK206; clear HB; have HO0_2 := n0_; have HO0_5 := n1_; have BK205 := n2_; have BK206 := n3_; have HB := n4_; have BK207 := n5_; have GW207 := n6_; have GE207 := n7_; have NB205_207 := n8_; have NB207_205 := n9_; have NB206_207 := n10_; have NB207_206 := n11_; clear n0_ n1_ n2_ n3_ n4_ n5_ n6_ n7_ n8_ n9_ n10_ n11_; clear hb hbox hg))
  (try simp only [Act.put, List.setIfInBounds_toArray, List.set_cons_zero, List.set_cons_succ])
  go_cut [29] (fun v29 wc => ∃ (kq : Nat) (x29_2 : Bool), v29 = .bool x29_2 ∧ Aside0 (baizeref44_Hear.j0 kq x29_2 a0_0 a0_1 l0_2 a0_3 a0_4 l0_5 a0_6 a0_7 a0_8 a0_9 a1_0 l1_1 a1_2 = some (r1, r2, r3, r4, r5, r6, r7, r8, r9, r10, r11)) ∧ Aside0 (kq ≤ k) ∧ Aside0 (Kd.V (Kd.slice 5 (Kd.int .u8)) 34 wc w.heap.size (fun k_ => ((P0_2_ k_ ∨ P0_5_ k_) ∨ w.heap.size ≤ k_) ∧ k_ ≠ gb205 ∧ k_ ≠ gb206 ∧ k_ ≠ gb207) (.slice A0_2 l0_2.length c0_2) l0_2) ∧ Aside0 (Kd.V (Kd.slice 5 (Kd.int .u8)) 34 wc w.heap.size (fun k_ => ((P0_2_ k_ ∨ P0_5_ k_) ∨ w.heap.size ≤ k_) ∧ k_ ≠ gb205 ∧ k_ ≠ gb206 ∧ k_ ≠ gb207) (.slice A0_5 l0_5.length c0_5) l0_5) ∧ Aside0 (wc.heap[gb205]? = some (.cells #[.int .i64 a0_0, .int .i64 a0_1, (.slice A0_2 l0_2.length c0_2), .int .i64 a0_3, .int .i64 a0_4, (.slice A0_5 l0_5.length c0_5), .int .i64 a0_6, .int .i64 a0_7, .bool a0_8, .bool a0_9] 27 (0, 0))) ∧ Aside0 (wc.heap[gb206]? = some (.cells #[.int .i64 a1_0, (.slice A1_1 l1_1.length c1_1), .int .i64 a1_2] 68 (0, 0))) ∧ Aside0 (wc.heap[gb207]? = some (.cells #[.int .i64 0, .int .i64 0, (.slice none 0 0), .int .i64 0, .int .i64 0, (.slice none 0 0), .int .i64 0, .int .i64 0, .bool false, .bool false] 27 (0, 0))) ∧ Aside0 (Below w.heap.size w wc))
  case first =>
    have H := HC3.out
    clear HC3
    by_cases c7 : a1_0 < 0
    · rw [if_pos c7] at H
      have c7b0 : decide (a1_0 < 0) = true := decide_eq_true c7
      clear c7
      (first | rw [c7b0] | (simp only [i64_w, i32_w]; rw [c7b0]) | skip)
      have H' := Aside0.mk H
      clear H
      have hnb8 := NB206_205.out
      have hnc8 := NB205_206.out
      have hnb9 := NB206_207.out
      have hnc9 := NB207_206.out
      have hcz10_0 : w6.cell? ⟨gb206, 0, none⟩ = some (.int .i64 a1_0) := (blk_cell BK206.out 0).trans rfl
      have hcz10_1 : w6.cell? ⟨gb206, 1, none⟩ = some (.slice A1_1 l1_1.length c1_1) := (blk_cell BK206.out 1).trans rfl
      have hcz10_2 : w6.cell? ⟨gb206, 2, none⟩ = some (.int .i64 a1_2) := (blk_cell BK206.out 2).trans rfl
      have hfz10_0 := blk_frozen BK206.out 0
      have hfz10_1 := blk_frozen BK206.out 1
      have hfz10_2 := blk_frozen BK206.out 2
      go_wp2
      go_meet
      case rel => exact ⟨_, (true), (by first | rfl | (simp; done) | (simp [*]; done)), H', ⟨by first | omega | exact Nat.le_refl _⟩, ⟨by (with_reducible repeat (first | apply Kd.V_alloc | apply Kd.V_drewN | apply Kd.V_drew)); exact Kd.V_mono HO0_2.out (fun _ hk => ⟨hk.1.1.1, ⟨hk.1.1.2, ⟨hk.1.2, hk.2⟩⟩⟩)⟩, ⟨by (with_reducible repeat (first | apply Kd.V_alloc | apply Kd.V_drewN | apply Kd.V_drew)); exact Kd.V_mono HO0_5.out (fun _ hk => ⟨hk.1.1.1, ⟨hk.1.1.2, ⟨hk.1.2, hk.2⟩⟩⟩)⟩, ⟨by (with_reducible repeat (first | refine blk_drewN ?_ _ | refine blk_drew ?_ | refine blk_alloc ?_ _)); exact BK205.out⟩, ⟨by (with_reducible repeat (first | refine blk_drewN ?_ _ | refine blk_drew ?_ | refine blk_alloc ?_ _)); exact BK206.out⟩, ⟨by (with_reducible repeat (first | refine blk_drewN ?_ _ | refine blk_drew ?_ | refine blk_alloc ?_ _)); exact BK207.out⟩, ⟨by repeat (first | (with_reducible first | exact HB.out | apply below_alloc | apply pw_below_drewN | apply below_drew1 | refine below_set ?_ GE205.out | refine below_set ?_ GE206.out | refine below_set ?_ GE207.out) | exact HB.out)⟩⟩
    · rw [if_neg c7] at H
      have c7b0 : decide (a1_0 < 0) = false := decide_eq_false c7
      clear c7
      (first | rw [c7b0] | (simp only [i64_w, i32_w]; rw [c7b0]) | skip)
      by_cases c11 : a1_2 < 0
      · rw [if_pos c11] at H
        have c11b0 : decide (a1_2 < 0) = true := decide_eq_true c11
        clear c11
        have H' := Aside0.mk H
        clear H
        have hnb12 := NB206_205.out
        have hnc12 := NB205_206.out
        have hnb13 := NB206_207.out
        have hnc13 := NB207_206.out
        have hcz14_0 : w6.cell? ⟨gb206, 0, none⟩ = some (.int .i64 a1_0) := (blk_cell BK206.out 0).trans rfl
        have hcz14_1 : w6.cell? ⟨gb206, 1, none⟩ = some (.slice A1_1 l1_1.length c1_1) := (blk_cell BK206.out 1).trans rfl
        have hcz14_2 : w6.cell? ⟨gb206, 2, none⟩ = some (.int .i64 a1_2) := (blk_cell BK206.out 2).trans rfl
        have hfz14_0 := blk_frozen BK206.out 0
        have hfz14_1 := blk_frozen BK206.out 1
        have hfz14_2 := blk_frozen BK206.out 2
        go_wp2
        go_meet
        case rel => exact ⟨_, (true), (by first | rfl | (simp; done) | (simp [*]; done)), H', ⟨by first | omega | exact Nat.le_refl _⟩, ⟨by (with_reducible repeat (first | apply Kd.V_alloc | apply Kd.V_drewN | apply Kd.V_drew)); exact Kd.V_mono HO0_2.out (fun _ hk => ⟨hk.1.1.1, ⟨hk.1.1.2, ⟨hk.1.2, hk.2⟩⟩⟩)⟩, ⟨by (with_reducible repeat (first | apply Kd.V_alloc | apply Kd.V_drewN | apply Kd.V_drew)); exact Kd.V_mono HO0_5.out (fun _ hk => ⟨hk.1.1.1, ⟨hk.1.1.2, ⟨hk.1.2, hk.2⟩⟩⟩)⟩, ⟨by (with_reducible repeat (first | refine blk_drewN ?_ _ | refine blk_drew ?_ | refine blk_alloc ?_ _)); exact BK205.out⟩, ⟨by (with_reducible repeat (first | refine blk_drewN ?_ _ | refine blk_drew ?_ | refine blk_alloc ?_ _)); exact BK206.out⟩, ⟨by (with_reducible repeat (first | refine blk_drewN ?_ _ | refine blk_drew ?_ | refine blk_alloc ?_ _)); exact BK207.out⟩, ⟨by repeat (first | (with_reducible first | exact HB.out | apply below_alloc | apply pw_below_drewN | apply below_drew1 | refine below_set ?_ GE205.out | refine below_set ?_ GE206.out | refine below_set ?_ GE207.out) | exact HB.out)⟩⟩
      · rw [if_neg c11] at H
        have c11b0 : decide (a1_2 < 0) = false := decide_eq_false c11
        clear c11
        by_cases c15 : (l1_1.length : Int) > 64
        · rw [if_pos c15] at H
          have c15b0 : decide (64 < (l1_1.length : Int)) = true := decide_eq_true c15
          have c15b1 : decide (64 < l1_1.length) = true := decide_eq_true (by omega)
          clear c15
          have H' := Aside0.mk H
          clear H
          have hnb16 := NB206_205.out
          have hnc16 := NB205_206.out
          have hnb17 := NB206_207.out
          have hnc17 := NB207_206.out
          have hcz18_0 : w6.cell? ⟨gb206, 0, none⟩ = some (.int .i64 a1_0) := (blk_cell BK206.out 0).trans rfl
          have hcz18_1 : w6.cell? ⟨gb206, 1, none⟩ = some (.slice A1_1 l1_1.length c1_1) := (blk_cell BK206.out 1).trans rfl
          have hcz18_2 : w6.cell? ⟨gb206, 2, none⟩ = some (.int .i64 a1_2) := (blk_cell BK206.out 2).trans rfl
          have hfz18_0 := blk_frozen BK206.out 0
          have hfz18_1 := blk_frozen BK206.out 1
          have hfz18_2 := blk_frozen BK206.out 2
          go_wp2
          go_meet
          case rel => exact ⟨_, (true), (by first | rfl | (simp; done) | (simp [*]; done)), H', ⟨by first | omega | exact Nat.le_refl _⟩, ⟨by (with_reducible repeat (first | apply Kd.V_alloc | apply Kd.V_drewN | apply Kd.V_drew)); exact Kd.V_mono HO0_2.out (fun _ hk => ⟨hk.1.1.1, ⟨hk.1.1.2, ⟨hk.1.2, hk.2⟩⟩⟩)⟩, ⟨by (with_reducible repeat (first | apply Kd.V_alloc | apply Kd.V_drewN | apply Kd.V_drew)); exact Kd.V_mono HO0_5.out (fun _ hk => ⟨hk.1.1.1, ⟨hk.1.1.2, ⟨hk.1.2, hk.2⟩⟩⟩)⟩, ⟨by (with_reducible repeat (first | refine blk_drewN ?_ _ | refine blk_drew ?_ | refine blk_alloc ?_ _)); exact BK205.out⟩, ⟨by (with_reducible repeat (first | refine blk_drewN ?_ _ | refine blk_drew ?_ | refine blk_alloc ?_ _)); exact BK206.out⟩, ⟨by (with_reducible repeat (first | refine blk_drewN ?_ _ | refine blk_drew ?_ | refine blk_alloc ?_ _)); exact BK207.out⟩, ⟨by repeat (first | (with_reducible first | exact HB.out | apply below_alloc | apply pw_below_drewN | apply below_drew1 | refine below_set ?_ GE205.out | refine below_set ?_ GE206.out | refine below_set ?_ GE207.out) | exact HB.out)⟩⟩
        · rw [if_neg c15] at H
          have c15b0 : decide (64 < (l1_1.length : Int)) = false := decide_eq_false c15
          have c15b1 : decide (64 < l1_1.length) = false := decide_eq_false (by omega)
          clear c15
          have H' := Aside0.mk H
          clear H
          have hnb19 := NB206_205.out
          have hnc19 := NB205_206.out
          have hnb20 := NB206_207.out
          have hnc20 := NB207_206.out
          have hcz21_0 : w6.cell? ⟨gb206, 0, none⟩ = some (.int .i64 a1_0) := (blk_cell BK206.out 0).trans rfl
          have hcz21_1 : w6.cell? ⟨gb206, 1, none⟩ = some (.slice A1_1 l1_1.length c1_1) := (blk_cell BK206.out 1).trans rfl
          have hcz21_2 : w6.cell? ⟨gb206, 2, none⟩ = some (.int .i64 a1_2) := (blk_cell BK206.out 2).trans rfl
          have hfz21_0 := blk_frozen BK206.out 0
          have hfz21_1 := blk_frozen BK206.out 1
          have hfz21_2 := blk_frozen BK206.out 2
          have hnb22 := NB205_207.out
          have hnc22 := NB207_205.out
          have hcz23_0 : w6.cell? ⟨gb205, 0, none⟩ = some (.int .i64 a0_0) := (blk_cell BK205.out 0).trans rfl
          have hcz23_1 : w6.cell? ⟨gb205, 1, none⟩ = some (.int .i64 a0_1) := (blk_cell BK205.out 1).trans rfl
          have hcz23_2 : w6.cell? ⟨gb205, 2, none⟩ = some (.slice A0_2 l0_2.length c0_2) := (blk_cell BK205.out 2).trans rfl
          have hcz23_3 : w6.cell? ⟨gb205, 3, none⟩ = some (.int .i64 a0_3) := (blk_cell BK205.out 3).trans rfl
          have hcz23_4 : w6.cell? ⟨gb205, 4, none⟩ = some (.int .i64 a0_4) := (blk_cell BK205.out 4).trans rfl
          have hcz23_5 : w6.cell? ⟨gb205, 5, none⟩ = some (.slice A0_5 l0_5.length c0_5) := (blk_cell BK205.out 5).trans rfl
          have hcz23_6 : w6.cell? ⟨gb205, 6, none⟩ = some (.int .i64 a0_6) := (blk_cell BK205.out 6).trans rfl
          have hcz23_7 : w6.cell? ⟨gb205, 7, none⟩ = some (.int .i64 a0_7) := (blk_cell BK205.out 7).trans rfl
          have hcz23_8 : w6.cell? ⟨gb205, 8, none⟩ = some (.bool a0_8) := (blk_cell BK205.out 8).trans rfl
          have hcz23_9 : w6.cell? ⟨gb205, 9, none⟩ = some (.bool a0_9) := (blk_cell BK205.out 9).trans rfl
          have hfz23_0 := blk_frozen BK205.out 0
          have hfz23_1 := blk_frozen BK205.out 1
          have hfz23_2 := blk_frozen BK205.out 2
          have hfz23_3 := blk_frozen BK205.out 3
          have hfz23_4 := blk_frozen BK205.out 4
          have hfz23_5 := blk_frozen BK205.out 5
          have hfz23_6 := blk_frozen BK205.out 6
          have hfz23_7 := blk_frozen BK205.out 7
          have hfz23_8 := blk_frozen BK205.out 8
          have hfz23_9 := blk_frozen BK205.out 9
          go_wp2
          go_meet
          case rel => exact ⟨_, (decide (a1_2 > (l0_2.length : Int))), (by first | rfl | (simp; done) | (simp [*]; done)), H', ⟨by first | omega | exact Nat.le_refl _⟩, ⟨by (with_reducible repeat (first | apply Kd.V_alloc | apply Kd.V_drewN | apply Kd.V_drew)); exact Kd.V_mono HO0_2.out (fun _ hk => ⟨hk.1.1.1, ⟨hk.1.1.2, ⟨hk.1.2, hk.2⟩⟩⟩)⟩, ⟨by (with_reducible repeat (first | apply Kd.V_alloc | apply Kd.V_drewN | apply Kd.V_drew)); exact Kd.V_mono HO0_5.out (fun _ hk => ⟨hk.1.1.1, ⟨hk.1.1.2, ⟨hk.1.2, hk.2⟩⟩⟩)⟩, ⟨by (with_reducible repeat (first | refine blk_drewN ?_ _ | refine blk_drew ?_ | refine blk_alloc ?_ _)); exact BK205.out⟩, ⟨by (with_reducible repeat (first | refine blk_drewN ?_ _ | refine blk_drew ?_ | refine blk_alloc ?_ _)); exact BK206.out⟩, ⟨by (with_reducible repeat (first | refine blk_drewN ?_ _ | refine blk_drew ?_ | refine blk_alloc ?_ _)); exact BK207.out⟩, ⟨by repeat (first | (with_reducible first | exact HB.out | apply below_alloc | apply pw_below_drewN | apply below_drew1 | refine below_set ?_ GE205.out | refine below_set ?_ GE206.out | refine below_set ?_ GE207.out) | exact HB.out)⟩⟩
  case rest =>
    clear HC3
    try clear c1
    try clear c2
    try clear p2
    try clear c3
    try clear c7
    try clear c7b0
    try clear c8
    try clear c9
    try clear c11
    try clear c11b0
    try clear c12
    try clear c13
    try clear c15
    try clear c15b0
    try clear c15b1
    try clear c16
    try clear c17
    try clear c19
    try clear c20
    try clear c22
    try clear hcz10_0
    try clear hcz10_1
    try clear hcz10_2
    try clear hcz14_0
    try clear hcz14_1
    try clear hcz14_2
    try clear hcz18_0
    try clear hcz18_1
    try clear hcz18_2
    try clear hcz21_0
    try clear hcz21_1
    try clear hcz21_2
    try clear hcz23_0
    try clear hcz23_1
    try clear hcz23_2
    try clear hcz23_3
    try clear hcz23_4
    try clear hcz23_5
    try clear hcz23_6
    try clear hcz23_7
    try clear hcz23_8
    try clear hcz23_9
    try clear hfz10_0
    try clear hfz10_1
    try clear hfz10_2
    try clear hfz14_0
    try clear hfz14_1
    try clear hfz14_2
    try clear hfz18_0
    try clear hfz18_1
    try clear hfz18_2
    try clear hfz21_0
    try clear hfz21_1
    try clear hfz21_2
    try clear hfz23_0
    try clear hfz23_1
    try clear hfz23_2
    try clear hfz23_3
    try clear hfz23_4
    try clear hfz23_5
    try clear hfz23_6
    try clear hfz23_7
    try clear hfz23_8
    try clear hfz23_9
    obtain ⟨kq, x29_2, rfl, HA, HJ2, HO_206002, HO_206005, BK205, BK206, BK207, HB⟩ := hcut
    cases kq with
    | zero => exact absurd HA.out (by simp [baizeref44_Hear.j0])
    | succ kj2 =>
      have H := HA.out
      clear HA
      simp only [baizeref44_Hear.j0] at H
      by_cases c24 : x29_2 = true
      · subst c24
        have H1 : (some (a0_0, a0_1, l0_2, a0_3, a0_4, l0_5, a0_6, a0_7, a0_8, a0_9, 2)) = some (r1, r2, r3, r4, r5, r6, r7, r8, r9, r10, r11) := by rw [if_pos rfl] at H; exact H
        clear H
        have H := H1
        clear H1
        simp only [Option.some.injEq, Prod.mk.injEq] at H
        obtain ⟨rfl, rfl, rfl, rfl, rfl, rfl, rfl, rfl, rfl, rfl, rfl⟩ := H
        have hnb25 := NB205_206.out
        have hnc25 := NB206_205.out
        have hnb26 := NB205_207.out
        have hnc26 := NB207_205.out
        have hcz27_0 : wc.cell? ⟨gb205, 0, none⟩ = some (.int .i64 a0_0) := (blk_cell BK205.out 0).trans rfl
        have hcz27_1 : wc.cell? ⟨gb205, 1, none⟩ = some (.int .i64 a0_1) := (blk_cell BK205.out 1).trans rfl
        have hcz27_2 : wc.cell? ⟨gb205, 2, none⟩ = some (.slice A0_2 l0_2.length c0_2) := (blk_cell BK205.out 2).trans rfl
        have hcz27_3 : wc.cell? ⟨gb205, 3, none⟩ = some (.int .i64 a0_3) := (blk_cell BK205.out 3).trans rfl
        have hcz27_4 : wc.cell? ⟨gb205, 4, none⟩ = some (.int .i64 a0_4) := (blk_cell BK205.out 4).trans rfl
        have hcz27_5 : wc.cell? ⟨gb205, 5, none⟩ = some (.slice A0_5 l0_5.length c0_5) := (blk_cell BK205.out 5).trans rfl
        have hcz27_6 : wc.cell? ⟨gb205, 6, none⟩ = some (.int .i64 a0_6) := (blk_cell BK205.out 6).trans rfl
        have hcz27_7 : wc.cell? ⟨gb205, 7, none⟩ = some (.int .i64 a0_7) := (blk_cell BK205.out 7).trans rfl
        have hcz27_8 : wc.cell? ⟨gb205, 8, none⟩ = some (.bool a0_8) := (blk_cell BK205.out 8).trans rfl
        have hcz27_9 : wc.cell? ⟨gb205, 9, none⟩ = some (.bool a0_9) := (blk_cell BK205.out 9).trans rfl
        have hfz27_0 := blk_frozen BK205.out 0
        have hfz27_1 := blk_frozen BK205.out 1
        have hfz27_2 := blk_frozen BK205.out 2
        have hfz27_3 := blk_frozen BK205.out 3
        have hfz27_4 := blk_frozen BK205.out 4
        have hfz27_5 := blk_frozen BK205.out 5
        have hfz27_6 := blk_frozen BK205.out 6
        have hfz27_7 := blk_frozen BK205.out 7
        have hfz27_8 := blk_frozen BK205.out 8
        have hfz27_9 := blk_frozen BK205.out 9
        have hnb28 := NB207_206.out
        have hnc28 := NB206_207.out
        have hcz29_0 : wc.cell? ⟨gb207, 0, none⟩ = some (.int .i64 0) := (blk_cell BK207.out 0).trans rfl
        have hcz29_1 : wc.cell? ⟨gb207, 1, none⟩ = some (.int .i64 0) := (blk_cell BK207.out 1).trans rfl
        have hcz29_2 : wc.cell? ⟨gb207, 2, none⟩ = some (.slice none 0 0) := (blk_cell BK207.out 2).trans rfl
        have hcz29_3 : wc.cell? ⟨gb207, 3, none⟩ = some (.int .i64 0) := (blk_cell BK207.out 3).trans rfl
        have hcz29_4 : wc.cell? ⟨gb207, 4, none⟩ = some (.int .i64 0) := (blk_cell BK207.out 4).trans rfl
        have hcz29_5 : wc.cell? ⟨gb207, 5, none⟩ = some (.slice none 0 0) := (blk_cell BK207.out 5).trans rfl
        have hcz29_6 : wc.cell? ⟨gb207, 6, none⟩ = some (.int .i64 0) := (blk_cell BK207.out 6).trans rfl
        have hcz29_7 : wc.cell? ⟨gb207, 7, none⟩ = some (.int .i64 0) := (blk_cell BK207.out 7).trans rfl
        have hcz29_8 : wc.cell? ⟨gb207, 8, none⟩ = some (.bool false) := (blk_cell BK207.out 8).trans rfl
        have hcz29_9 : wc.cell? ⟨gb207, 9, none⟩ = some (.bool false) := (blk_cell BK207.out 9).trans rfl
        have hfz29_0 := blk_frozen BK207.out 0
        have hfz29_1 := blk_frozen BK207.out 1
        have hfz29_2 := blk_frozen BK207.out 2
        have hfz29_3 := blk_frozen BK207.out 3
        have hfz29_4 := blk_frozen BK207.out 4
        have hfz29_5 := blk_frozen BK207.out 5
        have hfz29_6 := blk_frozen BK207.out 6
        have hfz29_7 := blk_frozen BK207.out 7
        have hfz29_8 := blk_frozen BK207.out 8
        have hfz29_9 := blk_frozen BK207.out 9
        go_wp2
        refine bodyPost_ret (results_ct rfl _ _ gb207 27 #[.int .i64 a0_0, .int .i64 a0_1, .slice A0_2 l0_2.length c0_2, .int .i64 a0_3, .int .i64 a0_4, .slice A0_5 l0_5.length c0_5, .int .i64 a0_6, .int .i64 a0_7, .bool a0_8, .bool a0_9] (0, 0) _ rfl (by (with_reducible repeat (first | refine blk_drewN ?_ _ | refine blk_drew ?_ | refine blk_alloc ?_ _)); refine blk_put (cs := #[.int .i64 a0_0, .int .i64 a0_1, .slice A0_2 l0_2.length c0_2, .int .i64 a0_3, .int .i64 a0_4, .slice A0_5 l0_5.length c0_5, .int .i64 a0_6, .int .i64 a0_7, .bool a0_8, .bool false]) ?_ 9 _ rfl; (with_reducible repeat (first | refine blk_drewN ?_ _ | refine blk_drew ?_ | refine blk_alloc ?_ _)); refine blk_put (cs := #[.int .i64 a0_0, .int .i64 a0_1, .slice A0_2 l0_2.length c0_2, .int .i64 a0_3, .int .i64 a0_4, .slice A0_5 l0_5.length c0_5, .int .i64 a0_6, .int .i64 a0_7, .bool false, .bool false]) ?_ 8 _ rfl; (with_reducible repeat (first | refine blk_drewN ?_ _ | refine blk_drew ?_ | refine blk_alloc ?_ _)); refine blk_put (cs := #[.int .i64 a0_0, .int .i64 a0_1, .slice A0_2 l0_2.length c0_2, .int .i64 a0_3, .int .i64 a0_4, .slice A0_5 l0_5.length c0_5, .int .i64 a0_6, .int .i64 0, .bool false, .bool false]) ?_ 7 _ rfl; (with_reducible repeat (first | refine blk_drewN ?_ _ | refine blk_drew ?_ | refine blk_alloc ?_ _)); refine blk_put (cs := #[.int .i64 a0_0, .int .i64 a0_1, .slice A0_2 l0_2.length c0_2, .int .i64 a0_3, .int .i64 a0_4, .slice A0_5 l0_5.length c0_5, .int .i64 0, .int .i64 0, .bool false, .bool false]) ?_ 6 _ rfl; (with_reducible repeat (first | refine blk_drewN ?_ _ | refine blk_drew ?_ | refine blk_alloc ?_ _)); refine blk_put (cs := #[.int .i64 a0_0, .int .i64 a0_1, .slice A0_2 l0_2.length c0_2, .int .i64 a0_3, .int .i64 a0_4, .slice none 0 0, .int .i64 0, .int .i64 0, .bool false, .bool false]) ?_ 5 _ rfl; (with_reducible repeat (first | refine blk_drewN ?_ _ | refine blk_drew ?_ | refine blk_alloc ?_ _)); refine blk_put (cs := #[.int .i64 a0_0, .int .i64 a0_1, .slice A0_2 l0_2.length c0_2, .int .i64 a0_3, .int .i64 0, .slice none 0 0, .int .i64 0, .int .i64 0, .bool false, .bool false]) ?_ 4 _ rfl; (with_reducible repeat (first | refine blk_drewN ?_ _ | refine blk_drew ?_ | refine blk_alloc ?_ _)); refine blk_put (cs := #[.int .i64 a0_0, .int .i64 a0_1, .slice A0_2 l0_2.length c0_2, .int .i64 0, .int .i64 0, .slice none 0 0, .int .i64 0, .int .i64 0, .bool false, .bool false]) ?_ 3 _ rfl; (with_reducible repeat (first | refine blk_drewN ?_ _ | refine blk_drew ?_ | refine blk_alloc ?_ _)); refine blk_put (cs := #[.int .i64 a0_0, .int .i64 a0_1, .slice none 0 0, .int .i64 0, .int .i64 0, .slice none 0 0, .int .i64 0, .int .i64 0, .bool false, .bool false]) ?_ 2 _ rfl; (with_reducible repeat (first | refine blk_drewN ?_ _ | refine blk_drew ?_ | refine blk_alloc ?_ _)); refine blk_put (cs := #[.int .i64 a0_0, .int .i64 0, .slice none 0 0, .int .i64 0, .int .i64 0, .slice none 0 0, .int .i64 0, .int .i64 0, .bool false, .bool false]) ?_ 1 _ rfl; (with_reducible repeat (first | refine blk_drewN ?_ _ | refine blk_drew ?_ | refine blk_alloc ?_ _)); refine blk_put (cs := #[.int .i64 0, .int .i64 0, .slice none 0 0, .int .i64 0, .int .i64 0, .slice none 0 0, .int .i64 0, .int .i64 0, .bool false, .bool false]) ?_ 0 _ rfl; (with_reducible repeat (first | refine blk_drewN ?_ _ | refine blk_drew ?_ | refine blk_alloc ?_ _)); exact BK207.out) Try.underlying27 rfl (by kernel_rfl)) rfl ?_
        exact ⟨_, _, by first | rfl | (simp [errW_none, errW_some] <;> rfl) | (simp [*, errW_none, errW_some] <;> rfl), by (with_reducible repeat (first | apply Kd.V_alloc | apply Kd.V_drewN | apply Kd.V_drew)); exact Kd.V_mono (Kd.V_far (p := ⟨gb207, 9, none⟩) (Kd.V_far (p := ⟨gb207, 8, none⟩) (Kd.V_far (p := ⟨gb207, 7, none⟩) (Kd.V_far (p := ⟨gb207, 6, none⟩) (Kd.V_far (p := ⟨gb207, 5, none⟩) (Kd.V_far (p := ⟨gb207, 4, none⟩) (Kd.V_far (p := ⟨gb207, 3, none⟩) (Kd.V_far (p := ⟨gb207, 2, none⟩) (Kd.V_far (p := ⟨gb207, 1, none⟩) (Kd.V_far (p := ⟨gb207, 0, none⟩) (Kd.V_mono HO_206002.out (fun k_ hk => (⟨hk, hk.2.2.2⟩ : _ ∧ k_ ≠ gb207))) (fun _ hk => hk.2) (.int .i64 a0_0)) (fun _ hk => hk.2) (.int .i64 a0_1)) (fun _ hk => hk.2) (.slice A0_2 l0_2.length c0_2)) (fun _ hk => hk.2) (.int .i64 a0_3)) (fun _ hk => hk.2) (.int .i64 a0_4)) (fun _ hk => hk.2) (.slice A0_5 l0_5.length c0_5)) (fun _ hk => hk.2) (.int .i64 a0_6)) (fun _ hk => hk.2) (.int .i64 a0_7)) (fun _ hk => hk.2) (.bool a0_8)) (fun _ hk => hk.2) (.bool a0_9)) (fun _ hk => hk.1.1), by (with_reducible repeat (first | apply Kd.V_alloc | apply Kd.V_drewN | apply Kd.V_drew)); exact Kd.V_mono (Kd.V_far (p := ⟨gb207, 9, none⟩) (Kd.V_far (p := ⟨gb207, 8, none⟩) (Kd.V_far (p := ⟨gb207, 7, none⟩) (Kd.V_far (p := ⟨gb207, 6, none⟩) (Kd.V_far (p := ⟨gb207, 5, none⟩) (Kd.V_far (p := ⟨gb207, 4, none⟩) (Kd.V_far (p := ⟨gb207, 3, none⟩) (Kd.V_far (p := ⟨gb207, 2, none⟩) (Kd.V_far (p := ⟨gb207, 1, none⟩) (Kd.V_far (p := ⟨gb207, 0, none⟩) (Kd.V_mono HO_206005.out (fun k_ hk => (⟨hk, hk.2.2.2⟩ : _ ∧ k_ ≠ gb207))) (fun _ hk => hk.2) (.int .i64 a0_0)) (fun _ hk => hk.2) (.int .i64 a0_1)) (fun _ hk => hk.2) (.slice A0_2 l0_2.length c0_2)) (fun _ hk => hk.2) (.int .i64 a0_3)) (fun _ hk => hk.2) (.int .i64 a0_4)) (fun _ hk => hk.2) (.slice A0_5 l0_5.length c0_5)) (fun _ hk => hk.2) (.int .i64 a0_6)) (fun _ hk => hk.2) (.int .i64 a0_7)) (fun _ hk => hk.2) (.bool a0_8)) (fun _ hk => hk.2) (.bool a0_9)) (fun _ hk => hk.1.1), by repeat (first | (with_reducible first | exact HB.out | apply below_alloc | apply pw_below_drewN | apply below_drew1 | refine below_set ?_ GE205.out | refine below_set ?_ GE206.out | refine below_set ?_ GE207.out) | exact HB.out)⟩
      · replace c24 := Bool.eq_false_iff.mpr c24
        subst c24
        have H1 : (baizeref44_Hear.l0 kj2 0 a0_0 a0_1 l0_2 a0_3 a0_4 l0_5 a0_6 a0_7 a0_8 a0_9 a1_0 l1_1 a1_2) = some (r1, r2, r3, r4, r5, r6, r7, r8, r9, r10, r11) := by rw [if_neg (show ¬ (false = true) by decide)] at H; exact H
        clear H
        have H := H1
        clear H1
        have H' := Aside0.mk H
        clear H
        go_wp2
        go_loopg [6] kj2 (fun kq v6 w' => ∃ (x6_2 : Int) (x208000_2 : Int) (x208001_2 : Int) (x208003_2 : Int) (x208004_2 : Int) (x208006_2 : Int) (x208007_2 : Int) (x208008_2 : Bool) (x208009_2 : Bool), v6 = .int .i64 x6_2 ∧ Aside0 (baizeref44_Hear.l0 kq x6_2 a0_0 a0_1 l0_2 a0_3 a0_4 l0_5 a0_6 a0_7 a0_8 a0_9 a1_0 l1_1 a1_2 = some (r1, r2, r3, r4, r5, r6, r7, r8, r9, r10, r11)) ∧ Aside0 (kq ≤ kj2) ∧ Aside0 (Kd.V (Kd.slice 5 (Kd.int .u8)) 34 w' w.heap.size (fun k_ => ((P0_2_ k_ ∨ P0_5_ k_) ∨ w.heap.size ≤ k_) ∧ k_ ≠ gb205 ∧ k_ ≠ gb206 ∧ k_ ≠ gb207) (.slice A0_2 l0_2.length c0_2) l0_2) ∧ Aside0 (Kd.V (Kd.slice 5 (Kd.int .u8)) 34 w' w.heap.size (fun k_ => ((P0_2_ k_ ∨ P0_5_ k_) ∨ w.heap.size ≤ k_) ∧ k_ ≠ gb205 ∧ k_ ≠ gb206 ∧ k_ ≠ gb207) (.slice A0_5 l0_5.length c0_5) l0_5) ∧ Aside0 (w'.heap[gb205]? = some (.cells #[.int .i64 a0_0, .int .i64 a0_1, (.slice A0_2 l0_2.length c0_2), .int .i64 a0_3, .int .i64 a0_4, (.slice A0_5 l0_5.length c0_5), .int .i64 a0_6, .int .i64 a0_7, .bool a0_8, .bool a0_9] 27 (0, 0))) ∧ Aside0 (w'.heap[gb206]? = some (.cells #[.int .i64 a1_0, (.slice A1_1 l1_1.length c1_1), .int .i64 a1_2] 68 (0, 0))) ∧ Aside0 (w'.heap[gb207]? = some (.cells #[.int .i64 x208000_2, .int .i64 x208001_2, (.slice none 0 0), .int .i64 x208003_2, .int .i64 x208004_2, (.slice none 0 0), .int .i64 x208006_2, .int .i64 x208007_2, .bool x208008_2, .bool x208009_2] 27 (0, 0))) ∧ Aside0 (Below w.heap.size w w'))
        case atStart => exact ⟨(0), (0), (0), (0), (0), (0), (0), (false), (false), (by first | rfl | (simp; done) | (simp [*]; done)), H', ⟨Nat.le_refl _⟩, ⟨by (with_reducible repeat (first | apply Kd.V_alloc | apply Kd.V_drewN | apply Kd.V_drew)); exact HO_206002.out⟩, ⟨by (with_reducible repeat (first | apply Kd.V_alloc | apply Kd.V_drewN | apply Kd.V_drew)); exact HO_206005.out⟩, ⟨by (with_reducible repeat (first | refine blk_drewN ?_ _ | refine blk_drew ?_ | refine blk_alloc ?_ _)); exact BK205.out⟩, ⟨by (with_reducible repeat (first | refine blk_drewN ?_ _ | refine blk_drew ?_ | refine blk_alloc ?_ _)); exact BK206.out⟩, ⟨by (with_reducible repeat (first | refine blk_drewN ?_ _ | refine blk_drew ?_ | refine blk_alloc ?_ _)); exact BK207.out⟩, ⟨by repeat (first | (with_reducible first | exact HB.out | apply below_alloc | apply pw_below_drewN | apply below_drew1 | refine below_set ?_ GE205.out | refine below_set ?_ GE206.out | refine below_set ?_ GE207.out) | exact HB.out)⟩⟩
        case round =>
          clear H'
          try clear c1
          try clear c2
          try clear p2
          try clear c3
          try clear c7
          try clear c7b0
          try clear c8
          try clear c9
          try clear c11
          try clear c11b0
          try clear c12
          try clear c13
          try clear c15
          try clear c15b0
          try clear c15b1
          try clear c16
          try clear c17
          try clear c19
          try clear c20
          try clear c22
          try clear c24
          try clear c25
          try clear c26
          try clear c28
          try clear hcz10_0
          try clear hcz10_1
          try clear hcz10_2
          try clear hcz14_0
          try clear hcz14_1
          try clear hcz14_2
          try clear hcz18_0
          try clear hcz18_1
          try clear hcz18_2
          try clear hcz21_0
          try clear hcz21_1
          try clear hcz21_2
          try clear hcz23_0
          try clear hcz23_1
          try clear hcz23_2
          try clear hcz23_3
          try clear hcz23_4
          try clear hcz23_5
          try clear hcz23_6
          try clear hcz23_7
          try clear hcz23_8
          try clear hcz23_9
          try clear hcz27_0
          try clear hcz27_1
          try clear hcz27_2
          try clear hcz27_3
          try clear hcz27_4
          try clear hcz27_5
          try clear hcz27_6
          try clear hcz27_7
          try clear hcz27_8
          try clear hcz27_9
          try clear hcz29_0
          try clear hcz29_1
          try clear hcz29_2
          try clear hcz29_3
          try clear hcz29_4
          try clear hcz29_5
          try clear hcz29_6
          try clear hcz29_7
          try clear hcz29_8
          try clear hcz29_9
          try clear hfz10_0
          try clear hfz10_1
          try clear hfz10_2
          try clear hfz14_0
          try clear hfz14_1
          try clear hfz14_2
          try clear hfz18_0
          try clear hfz18_1
          try clear hfz18_2
          try clear hfz21_0
          try clear hfz21_1
          try clear hfz21_2
          try clear hfz23_0
          try clear hfz23_1
          try clear hfz23_2
          try clear hfz23_3
          try clear hfz23_4
          try clear hfz23_5
          try clear hfz23_6
          try clear hfz23_7
          try clear hfz23_8
          try clear hfz23_9
          try clear hfz27_0
          try clear hfz27_1
          try clear hfz27_2
          try clear hfz27_3
          try clear hfz27_4
          try clear hfz27_5
          try clear hfz27_6
          try clear hfz27_7
          try clear hfz27_8
          try clear hfz27_9
          try clear hfz29_0
          try clear hfz29_1
          try clear hfz29_2
          try clear hfz29_3
          try clear hfz29_4
          try clear hfz29_5
          try clear hfz29_6
          try clear hfz29_7
          try clear hfz29_8
          try clear hfz29_9
          try clear p2
          obtain ⟨x6_2, x208000_2, x208001_2, x208003_2, x208004_2, x208006_2, x208007_2, x208008_2, x208009_2, rfl, HA, HK2, HO_206002, HO_206005, BK205, BK206, BK207, HB⟩ := hrel
          cases gk with
          | zero => exact absurd HA.out (by simp [baizeref44_Hear.l0])
          | succ k2 =>
            have H := HA.out
            clear HA
            simp only [baizeref44_Hear.l0] at H
            by_cases c30 : x6_2 < (l1_1.length : Int)
            · rw [if_pos c30] at H
              have c30b0 : decide (x6_2 < (l1_1.length : Int)) = true := decide_eq_true c30
              clear c30
              by_cases c31 : 0 ≤ x6_2
              · rw [if_pos c31] at H
                have c31b0 : decide (0 ≤ x6_2) = true := decide_eq_true c31
                clear c31
                by_cases c32 : ((rd_L1 l1_1 x6_2).length : Int) > 4096
                · rw [if_pos c32] at H
                  have c32b0 : decide (4096 < ((rd_L1 l1_1 x6_2).length : Int)) = true := decide_eq_true c32
                  have c32b1 : decide (4096 < (rd_L1 l1_1 x6_2).length) = true := decide_eq_true (by omega)
                  clear c32
                  simp only [Option.some.injEq, Prod.mk.injEq] at H
                  obtain ⟨rfl, rfl, rfl, rfl, rfl, rfl, rfl, rfl, rfl, rfl, rfl⟩ := H
                  have hnb33 := NB206_205.out
                  have hnc33 := NB205_206.out
                  have hnb34 := NB206_207.out
                  have hnc34 := NB207_206.out
                  have hcz35_0 : wr.cell? ⟨gb206, 0, none⟩ = some (.int .i64 a1_0) := (blk_cell BK206.out 0).trans rfl
                  have hcz35_1 : wr.cell? ⟨gb206, 1, none⟩ = some (.slice A1_1 l1_1.length c1_1) := (blk_cell BK206.out 1).trans rfl
                  have hcz35_2 : wr.cell? ⟨gb206, 2, none⟩ = some (.int .i64 a1_2) := (blk_cell BK206.out 2).trans rfl
                  have hfz35_0 := blk_frozen BK206.out 0
                  have hfz35_1 := blk_frozen BK206.out 1
                  have hfz35_2 := blk_frozen BK206.out 2
                  have p208 : 0 ≤ (x6_2 : Int) := of_decide_eq_true (by first | (with_reducible assumption) | assumption)
                  have q208 : x6_2 < (l1_1.length : Int) := of_decide_eq_true (by first | (with_reducible assumption) | assumption)
                  obtain ⟨ad208, A208_0, c208_0, e208, hx208_0, hl208_0, hi208_0⟩ := at_L1 HR1_1.out x6_2 p208 q208
                  cases e208
                  replace hx208_0 := (HB.out.cell (World.block_lt_of_cell? w _ hx208_0)).trans hx208_0
                  have HR208_0 := Aside0.mk hi208_0
                  have HC208_0 := Aside0.mk hl208_0
                  clear hi208_0 hl208_0
                  replace p208 := eq_true p208
                  replace q208 := eq_true q208
                  have hnb36 := NB205_207.out
                  have hnc36 := NB207_205.out
                  have hcz37_0 : wr.cell? ⟨gb205, 0, none⟩ = some (.int .i64 a0_0) := (blk_cell BK205.out 0).trans rfl
                  have hcz37_1 : wr.cell? ⟨gb205, 1, none⟩ = some (.int .i64 a0_1) := (blk_cell BK205.out 1).trans rfl
                  have hcz37_2 : wr.cell? ⟨gb205, 2, none⟩ = some (.slice A0_2 l0_2.length c0_2) := (blk_cell BK205.out 2).trans rfl
                  have hcz37_3 : wr.cell? ⟨gb205, 3, none⟩ = some (.int .i64 a0_3) := (blk_cell BK205.out 3).trans rfl
                  have hcz37_4 : wr.cell? ⟨gb205, 4, none⟩ = some (.int .i64 a0_4) := (blk_cell BK205.out 4).trans rfl
                  have hcz37_5 : wr.cell? ⟨gb205, 5, none⟩ = some (.slice A0_5 l0_5.length c0_5) := (blk_cell BK205.out 5).trans rfl
                  have hcz37_6 : wr.cell? ⟨gb205, 6, none⟩ = some (.int .i64 a0_6) := (blk_cell BK205.out 6).trans rfl
                  have hcz37_7 : wr.cell? ⟨gb205, 7, none⟩ = some (.int .i64 a0_7) := (blk_cell BK205.out 7).trans rfl
                  have hcz37_8 : wr.cell? ⟨gb205, 8, none⟩ = some (.bool a0_8) := (blk_cell BK205.out 8).trans rfl
                  have hcz37_9 : wr.cell? ⟨gb205, 9, none⟩ = some (.bool a0_9) := (blk_cell BK205.out 9).trans rfl
                  have hfz37_0 := blk_frozen BK205.out 0
                  have hfz37_1 := blk_frozen BK205.out 1
                  have hfz37_2 := blk_frozen BK205.out 2
                  have hfz37_3 := blk_frozen BK205.out 3
                  have hfz37_4 := blk_frozen BK205.out 4
                  have hfz37_5 := blk_frozen BK205.out 5
                  have hfz37_6 := blk_frozen BK205.out 6
                  have hfz37_7 := blk_frozen BK205.out 7
                  have hfz37_8 := blk_frozen BK205.out 8
                  have hfz37_9 := blk_frozen BK205.out 9
                  have hcz38_0 : wr.cell? ⟨gb207, 0, none⟩ = some (.int .i64 x208000_2) := (blk_cell BK207.out 0).trans rfl
                  have hcz38_1 : wr.cell? ⟨gb207, 1, none⟩ = some (.int .i64 x208001_2) := (blk_cell BK207.out 1).trans rfl
                  have hcz38_2 : wr.cell? ⟨gb207, 2, none⟩ = some (.slice none 0 0) := (blk_cell BK207.out 2).trans rfl
                  have hcz38_3 : wr.cell? ⟨gb207, 3, none⟩ = some (.int .i64 x208003_2) := (blk_cell BK207.out 3).trans rfl
                  have hcz38_4 : wr.cell? ⟨gb207, 4, none⟩ = some (.int .i64 x208004_2) := (blk_cell BK207.out 4).trans rfl
                  have hcz38_5 : wr.cell? ⟨gb207, 5, none⟩ = some (.slice none 0 0) := (blk_cell BK207.out 5).trans rfl
                  have hcz38_6 : wr.cell? ⟨gb207, 6, none⟩ = some (.int .i64 x208006_2) := (blk_cell BK207.out 6).trans rfl
                  have hcz38_7 : wr.cell? ⟨gb207, 7, none⟩ = some (.int .i64 x208007_2) := (blk_cell BK207.out 7).trans rfl
                  have hcz38_8 : wr.cell? ⟨gb207, 8, none⟩ = some (.bool x208008_2) := (blk_cell BK207.out 8).trans rfl
                  have hcz38_9 : wr.cell? ⟨gb207, 9, none⟩ = some (.bool x208009_2) := (blk_cell BK207.out 9).trans rfl
                  have hfz38_0 := blk_frozen BK207.out 0
                  have hfz38_1 := blk_frozen BK207.out 1
                  have hfz38_2 := blk_frozen BK207.out 2
                  have hfz38_3 := blk_frozen BK207.out 3
                  have hfz38_4 := blk_frozen BK207.out 4
                  have hfz38_5 := blk_frozen BK207.out 5
                  have hfz38_6 := blk_frozen BK207.out 6
                  have hfz38_7 := blk_frozen BK207.out 7
                  have hfz38_8 := blk_frozen BK207.out 8
                  have hfz38_9 := blk_frozen BK207.out 9
                  go_wp2
                  refine bodyPost_ret (results_ct rfl _ _ gb207 27 #[.int .i64 a0_0, .int .i64 a0_1, .slice A0_2 l0_2.length c0_2, .int .i64 a0_3, .int .i64 a0_4, .slice A0_5 l0_5.length c0_5, .int .i64 a0_6, .int .i64 a0_7, .bool a0_8, .bool a0_9] (0, 0) _ rfl (by (with_reducible repeat (first | refine blk_drewN ?_ _ | refine blk_drew ?_ | refine blk_alloc ?_ _)); refine blk_put (cs := #[.int .i64 a0_0, .int .i64 a0_1, .slice A0_2 l0_2.length c0_2, .int .i64 a0_3, .int .i64 a0_4, .slice A0_5 l0_5.length c0_5, .int .i64 a0_6, .int .i64 a0_7, .bool a0_8, .bool x208009_2]) ?_ 9 _ rfl; (with_reducible repeat (first | refine blk_drewN ?_ _ | refine blk_drew ?_ | refine blk_alloc ?_ _)); refine blk_put (cs := #[.int .i64 a0_0, .int .i64 a0_1, .slice A0_2 l0_2.length c0_2, .int .i64 a0_3, .int .i64 a0_4, .slice A0_5 l0_5.length c0_5, .int .i64 a0_6, .int .i64 a0_7, .bool x208008_2, .bool x208009_2]) ?_ 8 _ rfl; (with_reducible repeat (first | refine blk_drewN ?_ _ | refine blk_drew ?_ | refine blk_alloc ?_ _)); refine blk_put (cs := #[.int .i64 a0_0, .int .i64 a0_1, .slice A0_2 l0_2.length c0_2, .int .i64 a0_3, .int .i64 a0_4, .slice A0_5 l0_5.length c0_5, .int .i64 a0_6, .int .i64 x208007_2, .bool x208008_2, .bool x208009_2]) ?_ 7 _ rfl; (with_reducible repeat (first | refine blk_drewN ?_ _ | refine blk_drew ?_ | refine blk_alloc ?_ _)); refine blk_put (cs := #[.int .i64 a0_0, .int .i64 a0_1, .slice A0_2 l0_2.length c0_2, .int .i64 a0_3, .int .i64 a0_4, .slice A0_5 l0_5.length c0_5, .int .i64 x208006_2, .int .i64 x208007_2, .bool x208008_2, .bool x208009_2]) ?_ 6 _ rfl; (with_reducible repeat (first | refine blk_drewN ?_ _ | refine blk_drew ?_ | refine blk_alloc ?_ _)); refine blk_put (cs := #[.int .i64 a0_0, .int .i64 a0_1, .slice A0_2 l0_2.length c0_2, .int .i64 a0_3, .int .i64 a0_4, .slice none 0 0, .int .i64 x208006_2, .int .i64 x208007_2, .bool x208008_2, .bool x208009_2]) ?_ 5 _ rfl; (with_reducible repeat (first | refine blk_drewN ?_ _ | refine blk_drew ?_ | refine blk_alloc ?_ _)); refine blk_put (cs := #[.int .i64 a0_0, .int .i64 a0_1, .slice A0_2 l0_2.length c0_2, .int .i64 a0_3, .int .i64 x208004_2, .slice none 0 0, .int .i64 x208006_2, .int .i64 x208007_2, .bool x208008_2, .bool x208009_2]) ?_ 4 _ rfl; (with_reducible repeat (first | refine blk_drewN ?_ _ | refine blk_drew ?_ | refine blk_alloc ?_ _)); refine blk_put (cs := #[.int .i64 a0_0, .int .i64 a0_1, .slice A0_2 l0_2.length c0_2, .int .i64 x208003_2, .int .i64 x208004_2, .slice none 0 0, .int .i64 x208006_2, .int .i64 x208007_2, .bool x208008_2, .bool x208009_2]) ?_ 3 _ rfl; (with_reducible repeat (first | refine blk_drewN ?_ _ | refine blk_drew ?_ | refine blk_alloc ?_ _)); refine blk_put (cs := #[.int .i64 a0_0, .int .i64 a0_1, .slice none 0 0, .int .i64 x208003_2, .int .i64 x208004_2, .slice none 0 0, .int .i64 x208006_2, .int .i64 x208007_2, .bool x208008_2, .bool x208009_2]) ?_ 2 _ rfl; (with_reducible repeat (first | refine blk_drewN ?_ _ | refine blk_drew ?_ | refine blk_alloc ?_ _)); refine blk_put (cs := #[.int .i64 a0_0, .int .i64 x208001_2, .slice none 0 0, .int .i64 x208003_2, .int .i64 x208004_2, .slice none 0 0, .int .i64 x208006_2, .int .i64 x208007_2, .bool x208008_2, .bool x208009_2]) ?_ 1 _ rfl; (with_reducible repeat (first | refine blk_drewN ?_ _ | refine blk_drew ?_ | refine blk_alloc ?_ _)); refine blk_put (cs := #[.int .i64 x208000_2, .int .i64 x208001_2, .slice none 0 0, .int .i64 x208003_2, .int .i64 x208004_2, .slice none 0 0, .int .i64 x208006_2, .int .i64 x208007_2, .bool x208008_2, .bool x208009_2]) ?_ 0 _ rfl; (with_reducible repeat (first | refine blk_drewN ?_ _ | refine blk_drew ?_ | refine blk_alloc ?_ _)); exact BK207.out) Try.underlying27 rfl (by kernel_rfl)) rfl ?_
                  exact ⟨_, _, by first | rfl | (simp [errW_none, errW_some] <;> rfl) | (simp [*, errW_none, errW_some] <;> rfl), by (with_reducible repeat (first | apply Kd.V_alloc | apply Kd.V_drewN | apply Kd.V_drew)); exact Kd.V_mono (Kd.V_far (p := ⟨gb207, 9, none⟩) (Kd.V_far (p := ⟨gb207, 8, none⟩) (Kd.V_far (p := ⟨gb207, 7, none⟩) (Kd.V_far (p := ⟨gb207, 6, none⟩) (Kd.V_far (p := ⟨gb207, 5, none⟩) (Kd.V_far (p := ⟨gb207, 4, none⟩) (Kd.V_far (p := ⟨gb207, 3, none⟩) (Kd.V_far (p := ⟨gb207, 2, none⟩) (Kd.V_far (p := ⟨gb207, 1, none⟩) (Kd.V_far (p := ⟨gb207, 0, none⟩) (Kd.V_mono HO_206002.out (fun k_ hk => (⟨hk, hk.2.2.2⟩ : _ ∧ k_ ≠ gb207))) (fun _ hk => hk.2) (.int .i64 a0_0)) (fun _ hk => hk.2) (.int .i64 a0_1)) (fun _ hk => hk.2) (.slice A0_2 l0_2.length c0_2)) (fun _ hk => hk.2) (.int .i64 a0_3)) (fun _ hk => hk.2) (.int .i64 a0_4)) (fun _ hk => hk.2) (.slice A0_5 l0_5.length c0_5)) (fun _ hk => hk.2) (.int .i64 a0_6)) (fun _ hk => hk.2) (.int .i64 a0_7)) (fun _ hk => hk.2) (.bool a0_8)) (fun _ hk => hk.2) (.bool a0_9)) (fun _ hk => hk.1.1), by (with_reducible repeat (first | apply Kd.V_alloc | apply Kd.V_drewN | apply Kd.V_drew)); exact Kd.V_mono (Kd.V_far (p := ⟨gb207, 9, none⟩) (Kd.V_far (p := ⟨gb207, 8, none⟩) (Kd.V_far (p := ⟨gb207, 7, none⟩) (Kd.V_far (p := ⟨gb207, 6, none⟩) (Kd.V_far (p := ⟨gb207, 5, none⟩) (Kd.V_far (p := ⟨gb207, 4, none⟩) (Kd.V_far (p := ⟨gb207, 3, none⟩) (Kd.V_far (p := ⟨gb207, 2, none⟩) (Kd.V_far (p := ⟨gb207, 1, none⟩) (Kd.V_far (p := ⟨gb207, 0, none⟩) (Kd.V_mono HO_206005.out (fun k_ hk => (⟨hk, hk.2.2.2⟩ : _ ∧ k_ ≠ gb207))) (fun _ hk => hk.2) (.int .i64 a0_0)) (fun _ hk => hk.2) (.int .i64 a0_1)) (fun _ hk => hk.2) (.slice A0_2 l0_2.length c0_2)) (fun _ hk => hk.2) (.int .i64 a0_3)) (fun _ hk => hk.2) (.int .i64 a0_4)) (fun _ hk => hk.2) (.slice A0_5 l0_5.length c0_5)) (fun _ hk => hk.2) (.int .i64 a0_6)) (fun _ hk => hk.2) (.int .i64 a0_7)) (fun _ hk => hk.2) (.bool a0_8)) (fun _ hk => hk.2) (.bool a0_9)) (fun _ hk => hk.1.1), by repeat (first | (with_reducible first | exact HB.out | apply below_alloc | apply pw_below_drewN | apply below_drew1 | refine below_set ?_ GE205.out | refine below_set ?_ GE206.out | refine below_set ?_ GE207.out) | exact HB.out)⟩
                · rw [if_neg c32] at H
                  have c32b0 : decide (4096 < ((rd_L1 l1_1 x6_2).length : Int)) = false := decide_eq_false c32
                  have c32b1 : decide (4096 < (rd_L1 l1_1 x6_2).length) = false := decide_eq_false (by omega)
                  clear c32
                  have H' := Aside0.mk H
                  clear H
                  have hnb39 := NB206_205.out
                  have hnc39 := NB205_206.out
                  have hnb40 := NB206_207.out
                  have hnc40 := NB207_206.out
                  have hcz41_0 : wr.cell? ⟨gb206, 0, none⟩ = some (.int .i64 a1_0) := (blk_cell BK206.out 0).trans rfl
                  have hcz41_1 : wr.cell? ⟨gb206, 1, none⟩ = some (.slice A1_1 l1_1.length c1_1) := (blk_cell BK206.out 1).trans rfl
                  have hcz41_2 : wr.cell? ⟨gb206, 2, none⟩ = some (.int .i64 a1_2) := (blk_cell BK206.out 2).trans rfl
                  have hfz41_0 := blk_frozen BK206.out 0
                  have hfz41_1 := blk_frozen BK206.out 1
                  have hfz41_2 := blk_frozen BK206.out 2
                  have p208 : 0 ≤ (x6_2 : Int) := of_decide_eq_true (by first | (with_reducible assumption) | assumption)
                  have q208 : x6_2 < (l1_1.length : Int) := of_decide_eq_true (by first | (with_reducible assumption) | assumption)
                  obtain ⟨ad208, A208_0, c208_0, e208, hx208_0, hl208_0, hi208_0⟩ := at_L1 HR1_1.out x6_2 p208 q208
                  cases e208
                  replace hx208_0 := (HB.out.cell (World.block_lt_of_cell? w _ hx208_0)).trans hx208_0
                  have HR208_0 := Aside0.mk hi208_0
                  have HC208_0 := Aside0.mk hl208_0
                  clear hi208_0 hl208_0
                  replace p208 := eq_true p208
                  replace q208 := eq_true q208
                  go_wp2
                  go_roundg k2
                  case measure => have := HJ2.out; have := HK2.out; omega
                  case rel => exact ⟨(wrap64 (x6_2 + 1)), (x208000_2), (x208001_2), (x208003_2), (x208004_2), (x208006_2), (x208007_2), (x208008_2), (x208009_2), (by first | rfl | (simp; done) | (simp [*]; done)), H', ⟨by have := HJ2.out; have := HK2.out; omega⟩, ⟨by (with_reducible repeat (first | apply Kd.V_alloc | apply Kd.V_drewN | apply Kd.V_drew)); exact HO_206002.out⟩, ⟨by (with_reducible repeat (first | apply Kd.V_alloc | apply Kd.V_drewN | apply Kd.V_drew)); exact HO_206005.out⟩, ⟨by (with_reducible repeat (first | refine blk_drewN ?_ _ | refine blk_drew ?_ | refine blk_alloc ?_ _)); exact BK205.out⟩, ⟨by (with_reducible repeat (first | refine blk_drewN ?_ _ | refine blk_drew ?_ | refine blk_alloc ?_ _)); exact BK206.out⟩, ⟨by (with_reducible repeat (first | refine blk_drewN ?_ _ | refine blk_drew ?_ | refine blk_alloc ?_ _)); exact BK207.out⟩, ⟨by repeat (first | (with_reducible first | exact HB.out | apply below_alloc | apply pw_below_drewN | apply below_drew1 | refine below_set ?_ GE205.out | refine below_set ?_ GE206.out | refine below_set ?_ GE207.out) | exact HB.out)⟩⟩
              · rw [if_neg c31] at H
                exact absurd H (by simp)
            · rw [if_neg c30] at H
              have c30b0 : decide (x6_2 < (l1_1.length : Int)) = false := decide_eq_false c30
              clear c30
              obtain ⟨ji42, hji42⟩ : ∃ j_ : Int, (mx a0_3 a1_2) = j_ := ⟨_, rfl⟩
              replace H : (if (l1_1.length : Int) > 0 then (baizeref44_Hear.j2 k2 a0_0 a0_1 l0_2 ji42 (mx a0_4 (ji42)) l0_5 a0_6 a0_7 a0_8 true a1_0 l1_1 a1_2) else (baizeref44_Hear.j2 k2 a0_0 a0_1 l0_2 ji42 (mx a0_4 (ji42)) l0_5 a0_6 a0_7 a0_8 a0_9 a1_0 l1_1 a1_2)) = some (r1, r2, r3, r4, r5, r6, r7, r8, r9, r10, r11) := by first | (rw [hji42] at H; exact H) | (simp only [hji42] at H ⊢; exact H)
              have hji42_ : (if a0_3 < a1_2 then a1_2 else a0_3) = ji42 := hji42
              obtain ⟨ji43, hji43⟩ : ∃ j_ : Int, (mx a0_4 (ji42)) = j_ := ⟨_, rfl⟩
              replace H : (if (l1_1.length : Int) > 0 then (baizeref44_Hear.j2 k2 a0_0 a0_1 l0_2 ji42 ji43 l0_5 a0_6 a0_7 a0_8 true a1_0 l1_1 a1_2) else (baizeref44_Hear.j2 k2 a0_0 a0_1 l0_2 ji42 ji43 l0_5 a0_6 a0_7 a0_8 a0_9 a1_0 l1_1 a1_2)) = some (r1, r2, r3, r4, r5, r6, r7, r8, r9, r10, r11) := by first | (rw [hji43] at H; exact H) | (simp only [hji43] at H ⊢; exact H)
              have hji43_ : (if a0_4 < (ji42) then (ji42) else a0_4) = ji43 := hji43
              have HC44 := Aside0.mk H
              clear H
              have hnb45 := NB206_205.out
              have hnc45 := NB205_206.out
              have hnb46 := NB206_207.out
              have hnc46 := NB207_206.out
              have hcz47_0 : wr.cell? ⟨gb206, 0, none⟩ = some (.int .i64 a1_0) := (blk_cell BK206.out 0).trans rfl
              have hcz47_1 : wr.cell? ⟨gb206, 1, none⟩ = some (.slice A1_1 l1_1.length c1_1) := (blk_cell BK206.out 1).trans rfl
              have hcz47_2 : wr.cell? ⟨gb206, 2, none⟩ = some (.int .i64 a1_2) := (blk_cell BK206.out 2).trans rfl
              have hfz47_0 := blk_frozen BK206.out 0
              have hfz47_1 := blk_frozen BK206.out 1
              have hfz47_2 := blk_frozen BK206.out 2
              have hnb48 := NB205_207.out
              have hnc48 := NB207_205.out
              have hcz49_0 : wr.cell? ⟨gb205, 0, none⟩ = some (.int .i64 a0_0) := (blk_cell BK205.out 0).trans rfl
              have hcz49_1 : wr.cell? ⟨gb205, 1, none⟩ = some (.int .i64 a0_1) := (blk_cell BK205.out 1).trans rfl
              have hcz49_2 : wr.cell? ⟨gb205, 2, none⟩ = some (.slice A0_2 l0_2.length c0_2) := (blk_cell BK205.out 2).trans rfl
              have hcz49_3 : wr.cell? ⟨gb205, 3, none⟩ = some (.int .i64 a0_3) := (blk_cell BK205.out 3).trans rfl
              have hcz49_4 : wr.cell? ⟨gb205, 4, none⟩ = some (.int .i64 a0_4) := (blk_cell BK205.out 4).trans rfl
              have hcz49_5 : wr.cell? ⟨gb205, 5, none⟩ = some (.slice A0_5 l0_5.length c0_5) := (blk_cell BK205.out 5).trans rfl
              have hcz49_6 : wr.cell? ⟨gb205, 6, none⟩ = some (.int .i64 a0_6) := (blk_cell BK205.out 6).trans rfl
              have hcz49_7 : wr.cell? ⟨gb205, 7, none⟩ = some (.int .i64 a0_7) := (blk_cell BK205.out 7).trans rfl
              have hcz49_8 : wr.cell? ⟨gb205, 8, none⟩ = some (.bool a0_8) := (blk_cell BK205.out 8).trans rfl
              have hcz49_9 : wr.cell? ⟨gb205, 9, none⟩ = some (.bool a0_9) := (blk_cell BK205.out 9).trans rfl
              have hfz49_0 := blk_frozen BK205.out 0
              have hfz49_1 := blk_frozen BK205.out 1
              have hfz49_2 := blk_frozen BK205.out 2
              have hfz49_3 := blk_frozen BK205.out 3
              have hfz49_4 := blk_frozen BK205.out 4
              have hfz49_5 := blk_frozen BK205.out 5
              have hfz49_6 := blk_frozen BK205.out 6
              have hfz49_7 := blk_frozen BK205.out 7
              have hfz49_8 := blk_frozen BK205.out 8
              have hfz49_9 := blk_frozen BK205.out 9
              go_upto_if 61 with (fail)
              go_cut [] (fun wc => ∃ (kq : Nat) (x206009_43 : Bool), Aside0 (baizeref44_Hear.j2 kq a0_0 a0_1 l0_2 ji42 ji43 l0_5 a0_6 a0_7 a0_8 x206009_43 a1_0 l1_1 a1_2 = some (r1, r2, r3, r4, r5, r6, r7, r8, r9, r10, r11)) ∧ Aside0 (kq ≤ k2) ∧ Aside0 (Kd.V (Kd.slice 5 (Kd.int .u8)) 34 wc w.heap.size (fun k_ => ((P0_2_ k_ ∨ P0_5_ k_) ∨ w.heap.size ≤ k_) ∧ k_ ≠ gb205 ∧ k_ ≠ gb206 ∧ k_ ≠ gb207) (.slice A0_2 l0_2.length c0_2) l0_2) ∧ Aside0 (Kd.V (Kd.slice 5 (Kd.int .u8)) 34 wc w.heap.size (fun k_ => ((P0_2_ k_ ∨ P0_5_ k_) ∨ w.heap.size ≤ k_) ∧ k_ ≠ gb205 ∧ k_ ≠ gb206 ∧ k_ ≠ gb207) (.slice A0_5 l0_5.length c0_5) l0_5) ∧ Aside0 (wc.heap[gb205]? = some (.cells #[.int .i64 a0_0, .int .i64 a0_1, (.slice A0_2 l0_2.length c0_2), .int .i64 ji42, .int .i64 ji43, (.slice A0_5 l0_5.length c0_5), .int .i64 a0_6, .int .i64 a0_7, .bool a0_8, .bool x206009_43] 27 (0, 0))) ∧ Aside0 (wc.heap[gb206]? = some (.cells #[.int .i64 a1_0, (.slice A1_1 l1_1.length c1_1), .int .i64 a1_2] 68 (0, 0))) ∧ Aside0 (wc.heap[gb207]? = some (.cells #[.int .i64 x208000_2, .int .i64 x208001_2, (.slice none 0 0), .int .i64 x208003_2, .int .i64 x208004_2, (.slice none 0 0), .int .i64 x208006_2, .int .i64 x208007_2, .bool x208008_2, .bool x208009_2] 27 (0, 0))) ∧ Aside0 (Below w.heap.size w wc))
              case first =>
                have H := HC44.out
                clear HC44
                by_cases c50 : (l1_1.length : Int) > 0
                · rw [if_pos c50] at H
                  have c50b0 : decide (0 < (l1_1.length : Int)) = true := decide_eq_true c50
                  have c50b1 : decide (0 < l1_1.length) = true := decide_eq_true (by omega)
                  have c50p1 : 0 < l1_1.length := of_decide_eq_true c50b1
                  have c50p0 : 0 < (l1_1.length : Int) := by omega
                  clear c50
                  (first | rw [c50b0] | (simp only [i64_w, i32_w]; rw [c50b0]) | skip)
                  have H' := Aside0.mk H
                  clear H
                  have hnb51 := NB205_206.out
                  have hnc51 := NB206_205.out
                  have hnb52 := NB205_207.out
                  have hnc52 := NB207_205.out
                  have hcz53_0 : wr.cell? ⟨gb205, 0, none⟩ = some (.int .i64 a0_0) := (blk_cell BK205.out 0).trans rfl
                  have hcz53_1 : wr.cell? ⟨gb205, 1, none⟩ = some (.int .i64 a0_1) := (blk_cell BK205.out 1).trans rfl
                  have hcz53_2 : wr.cell? ⟨gb205, 2, none⟩ = some (.slice A0_2 l0_2.length c0_2) := (blk_cell BK205.out 2).trans rfl
                  have hcz53_3 : wr.cell? ⟨gb205, 3, none⟩ = some (.int .i64 a0_3) := (blk_cell BK205.out 3).trans rfl
                  have hcz53_4 : wr.cell? ⟨gb205, 4, none⟩ = some (.int .i64 a0_4) := (blk_cell BK205.out 4).trans rfl
                  have hcz53_5 : wr.cell? ⟨gb205, 5, none⟩ = some (.slice A0_5 l0_5.length c0_5) := (blk_cell BK205.out 5).trans rfl
                  have hcz53_6 : wr.cell? ⟨gb205, 6, none⟩ = some (.int .i64 a0_6) := (blk_cell BK205.out 6).trans rfl
                  have hcz53_7 : wr.cell? ⟨gb205, 7, none⟩ = some (.int .i64 a0_7) := (blk_cell BK205.out 7).trans rfl
                  have hcz53_8 : wr.cell? ⟨gb205, 8, none⟩ = some (.bool a0_8) := (blk_cell BK205.out 8).trans rfl
                  have hcz53_9 : wr.cell? ⟨gb205, 9, none⟩ = some (.bool a0_9) := (blk_cell BK205.out 9).trans rfl
                  have hfz53_0 := blk_frozen BK205.out 0
                  have hfz53_1 := blk_frozen BK205.out 1
                  have hfz53_2 := blk_frozen BK205.out 2
                  have hfz53_3 := blk_frozen BK205.out 3
                  have hfz53_4 := blk_frozen BK205.out 4
                  have hfz53_5 := blk_frozen BK205.out 5
                  have hfz53_6 := blk_frozen BK205.out 6
                  have hfz53_7 := blk_frozen BK205.out 7
                  have hfz53_8 := blk_frozen BK205.out 8
                  have hfz53_9 := blk_frozen BK205.out 9
                  go_wp2
                  go_meet
                  case rel => exact ⟨_, (true), H', ⟨by have := HJ2.out; have := HK2.out; first | omega | exact Nat.le_refl _⟩, ⟨by (with_reducible repeat (first | apply Kd.V_alloc | apply Kd.V_drewN | apply Kd.V_drew)); exact Kd.V_mono (Kd.V_far (p := ⟨gb205, 9, none⟩) (Kd.V_far (p := ⟨gb205, 4, none⟩) (Kd.V_far (p := ⟨gb205, 3, none⟩) (Kd.V_mono HO_206002.out (fun k_ hk => (⟨hk, hk.2.1⟩ : _ ∧ k_ ≠ gb205))) (fun _ hk => hk.2) (.int .i64 ji42)) (fun _ hk => hk.2) (.int .i64 ji43)) (fun _ hk => hk.2) (.bool true)) (fun _ hk => ⟨hk.1.1, ⟨hk.1.2.1, ⟨hk.1.2.2.1, hk.1.2.2.2⟩⟩⟩)⟩, ⟨by (with_reducible repeat (first | apply Kd.V_alloc | apply Kd.V_drewN | apply Kd.V_drew)); exact Kd.V_mono (Kd.V_far (p := ⟨gb205, 9, none⟩) (Kd.V_far (p := ⟨gb205, 4, none⟩) (Kd.V_far (p := ⟨gb205, 3, none⟩) (Kd.V_mono HO_206005.out (fun k_ hk => (⟨hk, hk.2.1⟩ : _ ∧ k_ ≠ gb205))) (fun _ hk => hk.2) (.int .i64 ji42)) (fun _ hk => hk.2) (.int .i64 ji43)) (fun _ hk => hk.2) (.bool true)) (fun _ hk => ⟨hk.1.1, ⟨hk.1.2.1, ⟨hk.1.2.2.1, hk.1.2.2.2⟩⟩⟩)⟩, ⟨by (with_reducible repeat (first | refine blk_drewN ?_ _ | refine blk_drew ?_ | refine blk_alloc ?_ _)); refine blk_put (cs := #[.int .i64 a0_0, .int .i64 a0_1, .slice A0_2 l0_2.length c0_2, .int .i64 ji42, .int .i64 ji43, .slice A0_5 l0_5.length c0_5, .int .i64 a0_6, .int .i64 a0_7, .bool a0_8, .bool a0_9]) ?_ 9 _ rfl; (with_reducible repeat (first | refine blk_drewN ?_ _ | refine blk_drew ?_ | refine blk_alloc ?_ _)); refine blk_put (cs := #[.int .i64 a0_0, .int .i64 a0_1, .slice A0_2 l0_2.length c0_2, .int .i64 ji42, .int .i64 a0_4, .slice A0_5 l0_5.length c0_5, .int .i64 a0_6, .int .i64 a0_7, .bool a0_8, .bool a0_9]) ?_ 4 _ rfl; (with_reducible repeat (first | refine blk_drewN ?_ _ | refine blk_drew ?_ | refine blk_alloc ?_ _)); refine blk_put (cs := #[.int .i64 a0_0, .int .i64 a0_1, .slice A0_2 l0_2.length c0_2, .int .i64 a0_3, .int .i64 a0_4, .slice A0_5 l0_5.length c0_5, .int .i64 a0_6, .int .i64 a0_7, .bool a0_8, .bool a0_9]) ?_ 3 _ rfl; (with_reducible repeat (first | refine blk_drewN ?_ _ | refine blk_drew ?_ | refine blk_alloc ?_ _)); exact BK205.out⟩, ⟨by (with_reducible repeat (first | refine blk_drewN ?_ _ | refine blk_drew ?_ | refine blk_alloc ?_ _)); refine blk_far ?_ NB206_205.out _; (with_reducible repeat (first | refine blk_drewN ?_ _ | refine blk_drew ?_ | refine blk_alloc ?_ _)); refine blk_far ?_ NB206_205.out _; (with_reducible repeat (first | refine blk_drewN ?_ _ | refine blk_drew ?_ | refine blk_alloc ?_ _)); refine blk_far ?_ NB206_205.out _; (with_reducible repeat (first | refine blk_drewN ?_ _ | refine blk_drew ?_ | refine blk_alloc ?_ _)); exact BK206.out⟩, ⟨by (with_reducible repeat (first | refine blk_drewN ?_ _ | refine blk_drew ?_ | refine blk_alloc ?_ _)); refine blk_far ?_ NB207_205.out _; (with_reducible repeat (first | refine blk_drewN ?_ _ | refine blk_drew ?_ | refine blk_alloc ?_ _)); refine blk_far ?_ NB207_205.out _; (with_reducible repeat (first | refine blk_drewN ?_ _ | refine blk_drew ?_ | refine blk_alloc ?_ _)); refine blk_far ?_ NB207_205.out _; (with_reducible repeat (first | refine blk_drewN ?_ _ | refine blk_drew ?_ | refine blk_alloc ?_ _)); exact BK207.out⟩, ⟨by repeat (first | (with_reducible first | exact HB.out | apply below_alloc | apply pw_below_drewN | apply below_drew1 | refine below_set ?_ GE205.out | refine below_set ?_ GE206.out | refine below_set ?_ GE207.out) | exact HB.out)⟩⟩
                · rw [if_neg c50] at H
                  have c50b0 : decide (0 < (l1_1.length : Int)) = false := decide_eq_false c50
                  have c50b1 : decide (0 < l1_1.length) = false := decide_eq_false (by omega)
                  have c50p1 : ¬ 0 < l1_1.length := of_decide_eq_false c50b1
                  have c50p0 : ¬ 0 < (l1_1.length : Int) := by omega
                  clear c50
                  (first | rw [c50b0] | (simp only [i64_w, i32_w]; rw [c50b0]) | skip)
                  have H' := Aside0.mk H
                  clear H
                  go_wp2
                  go_meet
                  case rel => exact ⟨_, (a0_9), H', ⟨by have := HJ2.out; have := HK2.out; first | omega | exact Nat.le_refl _⟩, ⟨by (with_reducible repeat (first | apply Kd.V_alloc | apply Kd.V_drewN | apply Kd.V_drew)); exact Kd.V_mono (Kd.V_far (p := ⟨gb205, 4, none⟩) (Kd.V_far (p := ⟨gb205, 3, none⟩) (Kd.V_mono HO_206002.out (fun k_ hk => (⟨hk, hk.2.1⟩ : _ ∧ k_ ≠ gb205))) (fun _ hk => hk.2) (.int .i64 ji42)) (fun _ hk => hk.2) (.int .i64 ji43)) (fun _ hk => ⟨hk.1.1, ⟨hk.1.2.1, ⟨hk.1.2.2.1, hk.1.2.2.2⟩⟩⟩)⟩, ⟨by (with_reducible repeat (first | apply Kd.V_alloc | apply Kd.V_drewN | apply Kd.V_drew)); exact Kd.V_mono (Kd.V_far (p := ⟨gb205, 4, none⟩) (Kd.V_far (p := ⟨gb205, 3, none⟩) (Kd.V_mono HO_206005.out (fun k_ hk => (⟨hk, hk.2.1⟩ : _ ∧ k_ ≠ gb205))) (fun _ hk => hk.2) (.int .i64 ji42)) (fun _ hk => hk.2) (.int .i64 ji43)) (fun _ hk => ⟨hk.1.1, ⟨hk.1.2.1, ⟨hk.1.2.2.1, hk.1.2.2.2⟩⟩⟩)⟩, ⟨by (with_reducible repeat (first | refine blk_drewN ?_ _ | refine blk_drew ?_ | refine blk_alloc ?_ _)); refine blk_put (cs := #[.int .i64 a0_0, .int .i64 a0_1, .slice A0_2 l0_2.length c0_2, .int .i64 ji42, .int .i64 a0_4, .slice A0_5 l0_5.length c0_5, .int .i64 a0_6, .int .i64 a0_7, .bool a0_8, .bool a0_9]) ?_ 4 _ rfl; (with_reducible repeat (first | refine blk_drewN ?_ _ | refine blk_drew ?_ | refine blk_alloc ?_ _)); refine blk_put (cs := #[.int .i64 a0_0, .int .i64 a0_1, .slice A0_2 l0_2.length c0_2, .int .i64 a0_3, .int .i64 a0_4, .slice A0_5 l0_5.length c0_5, .int .i64 a0_6, .int .i64 a0_7, .bool a0_8, .bool a0_9]) ?_ 3 _ rfl; (with_reducible repeat (first | refine blk_drewN ?_ _ | refine blk_drew ?_ | refine blk_alloc ?_ _)); exact BK205.out⟩, ⟨by (with_reducible repeat (first | refine blk_drewN ?_ _ | refine blk_drew ?_ | refine blk_alloc ?_ _)); refine blk_far ?_ NB206_205.out _; (with_reducible repeat (first | refine blk_drewN ?_ _ | refine blk_drew ?_ | refine blk_alloc ?_ _)); refine blk_far ?_ NB206_205.out _; (with_reducible repeat (first | refine blk_drewN ?_ _ | refine blk_drew ?_ | refine blk_alloc ?_ _)); exact BK206.out⟩, ⟨by (with_reducible repeat (first | refine blk_drewN ?_ _ | refine blk_drew ?_ | refine blk_alloc ?_ _)); refine blk_far ?_ NB207_205.out _; (with_reducible repeat (first | refine blk_drewN ?_ _ | refine blk_drew ?_ | refine blk_alloc ?_ _)); refine blk_far ?_ NB207_205.out _; (with_reducible repeat (first | refine blk_drewN ?_ _ | refine blk_drew ?_ | refine blk_alloc ?_ _)); exact BK207.out⟩, ⟨by repeat (first | (with_reducible first | exact HB.out | apply below_alloc | apply pw_below_drewN | apply below_drew1 | refine below_set ?_ GE205.out | refine below_set ?_ GE206.out | refine below_set ?_ GE207.out) | exact HB.out)⟩⟩
              case rest =>
                clear HC44
                try clear c1
                try clear c2
                try clear p2
                try clear q2
                try clear hx2
                try clear c3
                try clear c4
                try clear c5
                try clear p6
                try clear c7
                try clear c7b0
                try clear c8
                try clear c9
                try clear c11
                try clear c11b0
                try clear c12
                try clear c13
                try clear c15
                try clear c15b0
                try clear c15b1
                try clear c16
                try clear c17
                try clear c19
                try clear c20
                try clear p20
                try clear q20
                try clear hx20
                try clear c22
                try clear c24
                try clear c25
                try clear c26
                try clear c28
                try clear c30
                try clear c30b0
                try clear c31
                try clear c31b0
                try clear c32
                try clear c32b0
                try clear c32b1
                try clear c33
                try clear c34
                try clear c36
                try clear c39
                try clear c40
                try clear c45
                try clear c46
                try clear c48
                try clear c50
                try clear c50b0
                try clear c50b1
                try clear c51
                try clear c52
                try clear hcz10_0
                try clear hcz10_1
                try clear hcz10_2
                try clear hcz14_0
                try clear hcz14_1
                try clear hcz14_2
                try clear hcz18_0
                try clear hcz18_1
                try clear hcz18_2
                try clear hcz21_0
                try clear hcz21_1
                try clear hcz21_2
                try clear hcz23_0
                try clear hcz23_1
                try clear hcz23_2
                try clear hcz23_3
                try clear hcz23_4
                try clear hcz23_5
                try clear hcz23_6
                try clear hcz23_7
                try clear hcz23_8
                try clear hcz23_9
                try clear hcz27_0
                try clear hcz27_1
                try clear hcz27_2
                try clear hcz27_3
                try clear hcz27_4
                try clear hcz27_5
                try clear hcz27_6
                try clear hcz27_7
                try clear hcz27_8
                try clear hcz27_9
                try clear hcz29_0
                try clear hcz29_1
                try clear hcz29_2
                try clear hcz29_3
                try clear hcz29_4
                try clear hcz29_5
                try clear hcz29_6
                try clear hcz29_7
                try clear hcz29_8
                try clear hcz29_9
                try clear hcz35_0
                try clear hcz35_1
                try clear hcz35_2
                try clear hcz37_0
                try clear hcz37_1
                try clear hcz37_2
                try clear hcz37_3
                try clear hcz37_4
                try clear hcz37_5
                try clear hcz37_6
                try clear hcz37_7
                try clear hcz37_8
                try clear hcz37_9
                try clear hcz38_0
                try clear hcz38_1
                try clear hcz38_2
                try clear hcz38_3
                try clear hcz38_4
                try clear hcz38_5
                try clear hcz38_6
                try clear hcz38_7
                try clear hcz38_8
                try clear hcz38_9
                try clear hcz41_0
                try clear hcz41_1
                try clear hcz41_2
                try clear hcz47_0
                try clear hcz47_1
                try clear hcz47_2
                try clear hcz49_0
                try clear hcz49_1
                try clear hcz49_2
                try clear hcz49_3
                try clear hcz49_4
                try clear hcz49_5
                try clear hcz49_6
                try clear hcz49_7
                try clear hcz49_8
                try clear hcz49_9
                try clear hcz53_0
                try clear hcz53_1
                try clear hcz53_2
                try clear hcz53_3
                try clear hcz53_4
                try clear hcz53_5
                try clear hcz53_6
                try clear hcz53_7
                try clear hcz53_8
                try clear hcz53_9
                try clear hfz10_0
                try clear hfz10_1
                try clear hfz10_2
                try clear hfz14_0
                try clear hfz14_1
                try clear hfz14_2
                try clear hfz18_0
                try clear hfz18_1
                try clear hfz18_2
                try clear hfz21_0
                try clear hfz21_1
                try clear hfz21_2
                try clear hfz23_0
                try clear hfz23_1
                try clear hfz23_2
                try clear hfz23_3
                try clear hfz23_4
                try clear hfz23_5
                try clear hfz23_6
                try clear hfz23_7
                try clear hfz23_8
                try clear hfz23_9
                try clear hfz27_0
                try clear hfz27_1
                try clear hfz27_2
                try clear hfz27_3
                try clear hfz27_4
                try clear hfz27_5
                try clear hfz27_6
                try clear hfz27_7
                try clear hfz27_8
                try clear hfz27_9
                try clear hfz29_0
                try clear hfz29_1
                try clear hfz29_2
                try clear hfz29_3
                try clear hfz29_4
                try clear hfz29_5
                try clear hfz29_6
                try clear hfz29_7
                try clear hfz29_8
                try clear hfz29_9
                try clear hfz35_0
                try clear hfz35_1
                try clear hfz35_2
                try clear hfz37_0
                try clear hfz37_1
                try clear hfz37_2
                try clear hfz37_3
                try clear hfz37_4
                try clear hfz37_5
                try clear hfz37_6
                try clear hfz37_7
                try clear hfz37_8
                try clear hfz37_9
                try clear hfz38_0
                try clear hfz38_1
                try clear hfz38_2
                try clear hfz38_3
                try clear hfz38_4
                try clear hfz38_5
                try clear hfz38_6
                try clear hfz38_7
                try clear hfz38_8
                try clear hfz38_9
                try clear hfz41_0
                try clear hfz41_1
                try clear hfz41_2
                try clear hfz47_0
                try clear hfz47_1
                try clear hfz47_2
                try clear hfz49_0
                try clear hfz49_1
                try clear hfz49_2
                try clear hfz49_3
                try clear hfz49_4
                try clear hfz49_5
                try clear hfz49_6
                try clear hfz49_7
                try clear hfz49_8
                try clear hfz49_9
                try clear hfz53_0
                try clear hfz53_1
                try clear hfz53_2
                try clear hfz53_3
                try clear hfz53_4
                try clear hfz53_5
                try clear hfz53_6
                try clear hfz53_7
                try clear hfz53_8
                try clear hfz53_9
                try clear hx208_0
                try clear p2
                try clear p208
                try clear q208
                obtain ⟨kq, x206009_43, HA, HJ43, HO_206002, HO_206005, BK205, BK206, BK207, HB⟩ := hcut
                cases kq with
                | zero => exact absurd HA.out (by simp [baizeref44_Hear.j2])
                | succ kj43 =>
                  have H := HA.out
                  clear HA
                  simp only [baizeref44_Hear.j2] at H
                  by_cases c54 : a1_0 > (l0_5.length : Int)
                  · rw [if_pos c54] at H
                    have c54b0 : decide ((l0_5.length : Int) < a1_0) = true := decide_eq_true c54
                    clear c54
                    simp only [Option.some.injEq, Prod.mk.injEq] at H
                    obtain ⟨rfl, rfl, rfl, rfl, rfl, rfl, rfl, rfl, rfl, rfl, rfl⟩ := H
                    have hnb55 := NB206_205.out
                    have hnc55 := NB205_206.out
                    have hnb56 := NB206_207.out
                    have hnc56 := NB207_206.out
                    have hcz57_0 : wc.cell? ⟨gb206, 0, none⟩ = some (.int .i64 a1_0) := (blk_cell BK206.out 0).trans rfl
                    have hcz57_1 : wc.cell? ⟨gb206, 1, none⟩ = some (.slice A1_1 l1_1.length c1_1) := (blk_cell BK206.out 1).trans rfl
                    have hcz57_2 : wc.cell? ⟨gb206, 2, none⟩ = some (.int .i64 a1_2) := (blk_cell BK206.out 2).trans rfl
                    have hfz57_0 := blk_frozen BK206.out 0
                    have hfz57_1 := blk_frozen BK206.out 1
                    have hfz57_2 := blk_frozen BK206.out 2
                    have hnb58 := NB205_207.out
                    have hnc58 := NB207_205.out
                    have hcz59_0 : wc.cell? ⟨gb205, 0, none⟩ = some (.int .i64 a0_0) := (blk_cell BK205.out 0).trans rfl
                    have hcz59_1 : wc.cell? ⟨gb205, 1, none⟩ = some (.int .i64 a0_1) := (blk_cell BK205.out 1).trans rfl
                    have hcz59_2 : wc.cell? ⟨gb205, 2, none⟩ = some (.slice A0_2 l0_2.length c0_2) := (blk_cell BK205.out 2).trans rfl
                    have hcz59_3 : wc.cell? ⟨gb205, 3, none⟩ = some (.int .i64 ji42) := (blk_cell BK205.out 3).trans rfl
                    have hcz59_4 : wc.cell? ⟨gb205, 4, none⟩ = some (.int .i64 ji43) := (blk_cell BK205.out 4).trans rfl
                    have hcz59_5 : wc.cell? ⟨gb205, 5, none⟩ = some (.slice A0_5 l0_5.length c0_5) := (blk_cell BK205.out 5).trans rfl
                    have hcz59_6 : wc.cell? ⟨gb205, 6, none⟩ = some (.int .i64 a0_6) := (blk_cell BK205.out 6).trans rfl
                    have hcz59_7 : wc.cell? ⟨gb205, 7, none⟩ = some (.int .i64 a0_7) := (blk_cell BK205.out 7).trans rfl
                    have hcz59_8 : wc.cell? ⟨gb205, 8, none⟩ = some (.bool a0_8) := (blk_cell BK205.out 8).trans rfl
                    have hcz59_9 : wc.cell? ⟨gb205, 9, none⟩ = some (.bool x206009_43) := (blk_cell BK205.out 9).trans rfl
                    have hfz59_0 := blk_frozen BK205.out 0
                    have hfz59_1 := blk_frozen BK205.out 1
                    have hfz59_2 := blk_frozen BK205.out 2
                    have hfz59_3 := blk_frozen BK205.out 3
                    have hfz59_4 := blk_frozen BK205.out 4
                    have hfz59_5 := blk_frozen BK205.out 5
                    have hfz59_6 := blk_frozen BK205.out 6
                    have hfz59_7 := blk_frozen BK205.out 7
                    have hfz59_8 := blk_frozen BK205.out 8
                    have hfz59_9 := blk_frozen BK205.out 9
                    have hcz60_0 : wc.cell? ⟨gb207, 0, none⟩ = some (.int .i64 x208000_2) := (blk_cell BK207.out 0).trans rfl
                    have hcz60_1 : wc.cell? ⟨gb207, 1, none⟩ = some (.int .i64 x208001_2) := (blk_cell BK207.out 1).trans rfl
                    have hcz60_2 : wc.cell? ⟨gb207, 2, none⟩ = some (.slice none 0 0) := (blk_cell BK207.out 2).trans rfl
                    have hcz60_3 : wc.cell? ⟨gb207, 3, none⟩ = some (.int .i64 x208003_2) := (blk_cell BK207.out 3).trans rfl
                    have hcz60_4 : wc.cell? ⟨gb207, 4, none⟩ = some (.int .i64 x208004_2) := (blk_cell BK207.out 4).trans rfl
                    have hcz60_5 : wc.cell? ⟨gb207, 5, none⟩ = some (.slice none 0 0) := (blk_cell BK207.out 5).trans rfl
                    have hcz60_6 : wc.cell? ⟨gb207, 6, none⟩ = some (.int .i64 x208006_2) := (blk_cell BK207.out 6).trans rfl
                    have hcz60_7 : wc.cell? ⟨gb207, 7, none⟩ = some (.int .i64 x208007_2) := (blk_cell BK207.out 7).trans rfl
                    have hcz60_8 : wc.cell? ⟨gb207, 8, none⟩ = some (.bool x208008_2) := (blk_cell BK207.out 8).trans rfl
                    have hcz60_9 : wc.cell? ⟨gb207, 9, none⟩ = some (.bool x208009_2) := (blk_cell BK207.out 9).trans rfl
                    have hfz60_0 := blk_frozen BK207.out 0
                    have hfz60_1 := blk_frozen BK207.out 1
                    have hfz60_2 := blk_frozen BK207.out 2
                    have hfz60_3 := blk_frozen BK207.out 3
                    have hfz60_4 := blk_frozen BK207.out 4
                    have hfz60_5 := blk_frozen BK207.out 5
                    have hfz60_6 := blk_frozen BK207.out 6
                    have hfz60_7 := blk_frozen BK207.out 7
                    have hfz60_8 := blk_frozen BK207.out 8
                    have hfz60_9 := blk_frozen BK207.out 9
                    go_wp2
                    refine bodyPost_ret (results_ct rfl _ _ gb207 27 #[.int .i64 a0_0, .int .i64 a0_1, .slice A0_2 l0_2.length c0_2, .int .i64 ji42, .int .i64 ji43, .slice A0_5 l0_5.length c0_5, .int .i64 a0_6, .int .i64 a0_7, .bool a0_8, .bool x206009_43] (0, 0) _ rfl (by (with_reducible repeat (first | refine blk_drewN ?_ _ | refine blk_drew ?_ | refine blk_alloc ?_ _)); refine blk_put (cs := #[.int .i64 a0_0, .int .i64 a0_1, .slice A0_2 l0_2.length c0_2, .int .i64 ji42, .int .i64 ji43, .slice A0_5 l0_5.length c0_5, .int .i64 a0_6, .int .i64 a0_7, .bool a0_8, .bool x208009_2]) ?_ 9 _ rfl; (with_reducible repeat (first | refine blk_drewN ?_ _ | refine blk_drew ?_ | refine blk_alloc ?_ _)); refine blk_put (cs := #[.int .i64 a0_0, .int .i64 a0_1, .slice A0_2 l0_2.length c0_2, .int .i64 ji42, .int .i64 ji43, .slice A0_5 l0_5.length c0_5, .int .i64 a0_6, .int .i64 a0_7, .bool x208008_2, .bool x208009_2]) ?_ 8 _ rfl; (with_reducible repeat (first | refine blk_drewN ?_ _ | refine blk_drew ?_ | refine blk_alloc ?_ _)); refine blk_put (cs := #[.int .i64 a0_0, .int .i64 a0_1, .slice A0_2 l0_2.length c0_2, .int .i64 ji42, .int .i64 ji43, .slice A0_5 l0_5.length c0_5, .int .i64 a0_6, .int .i64 x208007_2, .bool x208008_2, .bool x208009_2]) ?_ 7 _ rfl; (with_reducible repeat (first | refine blk_drewN ?_ _ | refine blk_drew ?_ | refine blk_alloc ?_ _)); refine blk_put (cs := #[.int .i64 a0_0, .int .i64 a0_1, .slice A0_2 l0_2.length c0_2, .int .i64 ji42, .int .i64 ji43, .slice A0_5 l0_5.length c0_5, .int .i64 x208006_2, .int .i64 x208007_2, .bool x208008_2, .bool x208009_2]) ?_ 6 _ rfl; (with_reducible repeat (first | refine blk_drewN ?_ _ | refine blk_drew ?_ | refine blk_alloc ?_ _)); refine blk_put (cs := #[.int .i64 a0_0, .int .i64 a0_1, .slice A0_2 l0_2.length c0_2, .int .i64 ji42, .int .i64 ji43, .slice none 0 0, .int .i64 x208006_2, .int .i64 x208007_2, .bool x208008_2, .bool x208009_2]) ?_ 5 _ rfl; (with_reducible repeat (first | refine blk_drewN ?_ _ | refine blk_drew ?_ | refine blk_alloc ?_ _)); refine blk_put (cs := #[.int .i64 a0_0, .int .i64 a0_1, .slice A0_2 l0_2.length c0_2, .int .i64 ji42, .int .i64 x208004_2, .slice none 0 0, .int .i64 x208006_2, .int .i64 x208007_2, .bool x208008_2, .bool x208009_2]) ?_ 4 _ rfl; (with_reducible repeat (first | refine blk_drewN ?_ _ | refine blk_drew ?_ | refine blk_alloc ?_ _)); refine blk_put (cs := #[.int .i64 a0_0, .int .i64 a0_1, .slice A0_2 l0_2.length c0_2, .int .i64 x208003_2, .int .i64 x208004_2, .slice none 0 0, .int .i64 x208006_2, .int .i64 x208007_2, .bool x208008_2, .bool x208009_2]) ?_ 3 _ rfl; (with_reducible repeat (first | refine blk_drewN ?_ _ | refine blk_drew ?_ | refine blk_alloc ?_ _)); refine blk_put (cs := #[.int .i64 a0_0, .int .i64 a0_1, .slice none 0 0, .int .i64 x208003_2, .int .i64 x208004_2, .slice none 0 0, .int .i64 x208006_2, .int .i64 x208007_2, .bool x208008_2, .bool x208009_2]) ?_ 2 _ rfl; (with_reducible repeat (first | refine blk_drewN ?_ _ | refine blk_drew ?_ | refine blk_alloc ?_ _)); refine blk_put (cs := #[.int .i64 a0_0, .int .i64 x208001_2, .slice none 0 0, .int .i64 x208003_2, .int .i64 x208004_2, .slice none 0 0, .int .i64 x208006_2, .int .i64 x208007_2, .bool x208008_2, .bool x208009_2]) ?_ 1 _ rfl; (with_reducible repeat (first | refine blk_drewN ?_ _ | refine blk_drew ?_ | refine blk_alloc ?_ _)); refine blk_put (cs := #[.int .i64 x208000_2, .int .i64 x208001_2, .slice none 0 0, .int .i64 x208003_2, .int .i64 x208004_2, .slice none 0 0, .int .i64 x208006_2, .int .i64 x208007_2, .bool x208008_2, .bool x208009_2]) ?_ 0 _ rfl; (with_reducible repeat (first | refine blk_drewN ?_ _ | refine blk_drew ?_ | refine blk_alloc ?_ _)); exact BK207.out) Try.underlying27 rfl (by kernel_rfl)) rfl ?_
                    exact ⟨_, _, by first | rfl | (simp [errW_none, errW_some] <;> rfl) | (simp only [← hji42, ← hji43]; first | rfl | (simp [errW_none, errW_some] <;> rfl)) | (simp [*, errW_none, errW_some] <;> rfl), by (with_reducible repeat (first | apply Kd.V_alloc | apply Kd.V_drewN | apply Kd.V_drew)); exact Kd.V_mono (Kd.V_far (p := ⟨gb207, 9, none⟩) (Kd.V_far (p := ⟨gb207, 8, none⟩) (Kd.V_far (p := ⟨gb207, 7, none⟩) (Kd.V_far (p := ⟨gb207, 6, none⟩) (Kd.V_far (p := ⟨gb207, 5, none⟩) (Kd.V_far (p := ⟨gb207, 4, none⟩) (Kd.V_far (p := ⟨gb207, 3, none⟩) (Kd.V_far (p := ⟨gb207, 2, none⟩) (Kd.V_far (p := ⟨gb207, 1, none⟩) (Kd.V_far (p := ⟨gb207, 0, none⟩) (Kd.V_mono HO_206002.out (fun k_ hk => (⟨hk, hk.2.2.2⟩ : _ ∧ k_ ≠ gb207))) (fun _ hk => hk.2) (.int .i64 a0_0)) (fun _ hk => hk.2) (.int .i64 a0_1)) (fun _ hk => hk.2) (.slice A0_2 l0_2.length c0_2)) (fun _ hk => hk.2) (.int .i64 ji42)) (fun _ hk => hk.2) (.int .i64 ji43)) (fun _ hk => hk.2) (.slice A0_5 l0_5.length c0_5)) (fun _ hk => hk.2) (.int .i64 a0_6)) (fun _ hk => hk.2) (.int .i64 a0_7)) (fun _ hk => hk.2) (.bool a0_8)) (fun _ hk => hk.2) (.bool x206009_43)) (fun _ hk => hk.1.1), by (with_reducible repeat (first | apply Kd.V_alloc | apply Kd.V_drewN | apply Kd.V_drew)); exact Kd.V_mono (Kd.V_far (p := ⟨gb207, 9, none⟩) (Kd.V_far (p := ⟨gb207, 8, none⟩) (Kd.V_far (p := ⟨gb207, 7, none⟩) (Kd.V_far (p := ⟨gb207, 6, none⟩) (Kd.V_far (p := ⟨gb207, 5, none⟩) (Kd.V_far (p := ⟨gb207, 4, none⟩) (Kd.V_far (p := ⟨gb207, 3, none⟩) (Kd.V_far (p := ⟨gb207, 2, none⟩) (Kd.V_far (p := ⟨gb207, 1, none⟩) (Kd.V_far (p := ⟨gb207, 0, none⟩) (Kd.V_mono HO_206005.out (fun k_ hk => (⟨hk, hk.2.2.2⟩ : _ ∧ k_ ≠ gb207))) (fun _ hk => hk.2) (.int .i64 a0_0)) (fun _ hk => hk.2) (.int .i64 a0_1)) (fun _ hk => hk.2) (.slice A0_2 l0_2.length c0_2)) (fun _ hk => hk.2) (.int .i64 ji42)) (fun _ hk => hk.2) (.int .i64 ji43)) (fun _ hk => hk.2) (.slice A0_5 l0_5.length c0_5)) (fun _ hk => hk.2) (.int .i64 a0_6)) (fun _ hk => hk.2) (.int .i64 a0_7)) (fun _ hk => hk.2) (.bool a0_8)) (fun _ hk => hk.2) (.bool x206009_43)) (fun _ hk => hk.1.1), by repeat (first | (with_reducible first | exact HB.out | apply below_alloc | apply pw_below_drewN | apply below_drew1 | refine below_set ?_ GE205.out | refine below_set ?_ GE206.out | refine below_set ?_ GE207.out) | exact HB.out)⟩
                  · rw [if_neg c54] at H
                    have c54b0 : decide ((l0_5.length : Int) < a1_0) = false := decide_eq_false c54
                    clear c54
                    have H' := Aside0.mk H
                    clear H
                    have hnb61 := NB206_205.out
                    have hnc61 := NB205_206.out
                    have hnb62 := NB206_207.out
                    have hnc62 := NB207_206.out
                    have hcz63_0 : wc.cell? ⟨gb206, 0, none⟩ = some (.int .i64 a1_0) := (blk_cell BK206.out 0).trans rfl
                    have hcz63_1 : wc.cell? ⟨gb206, 1, none⟩ = some (.slice A1_1 l1_1.length c1_1) := (blk_cell BK206.out 1).trans rfl
                    have hcz63_2 : wc.cell? ⟨gb206, 2, none⟩ = some (.int .i64 a1_2) := (blk_cell BK206.out 2).trans rfl
                    have hfz63_0 := blk_frozen BK206.out 0
                    have hfz63_1 := blk_frozen BK206.out 1
                    have hfz63_2 := blk_frozen BK206.out 2
                    have hnb64 := NB205_207.out
                    have hnc64 := NB207_205.out
                    have hcz65_0 : wc.cell? ⟨gb205, 0, none⟩ = some (.int .i64 a0_0) := (blk_cell BK205.out 0).trans rfl
                    have hcz65_1 : wc.cell? ⟨gb205, 1, none⟩ = some (.int .i64 a0_1) := (blk_cell BK205.out 1).trans rfl
                    have hcz65_2 : wc.cell? ⟨gb205, 2, none⟩ = some (.slice A0_2 l0_2.length c0_2) := (blk_cell BK205.out 2).trans rfl
                    have hcz65_3 : wc.cell? ⟨gb205, 3, none⟩ = some (.int .i64 ji42) := (blk_cell BK205.out 3).trans rfl
                    have hcz65_4 : wc.cell? ⟨gb205, 4, none⟩ = some (.int .i64 ji43) := (blk_cell BK205.out 4).trans rfl
                    have hcz65_5 : wc.cell? ⟨gb205, 5, none⟩ = some (.slice A0_5 l0_5.length c0_5) := (blk_cell BK205.out 5).trans rfl
                    have hcz65_6 : wc.cell? ⟨gb205, 6, none⟩ = some (.int .i64 a0_6) := (blk_cell BK205.out 6).trans rfl
                    have hcz65_7 : wc.cell? ⟨gb205, 7, none⟩ = some (.int .i64 a0_7) := (blk_cell BK205.out 7).trans rfl
                    have hcz65_8 : wc.cell? ⟨gb205, 8, none⟩ = some (.bool a0_8) := (blk_cell BK205.out 8).trans rfl
                    have hcz65_9 : wc.cell? ⟨gb205, 9, none⟩ = some (.bool x206009_43) := (blk_cell BK205.out 9).trans rfl
                    have hfz65_0 := blk_frozen BK205.out 0
                    have hfz65_1 := blk_frozen BK205.out 1
                    have hfz65_2 := blk_frozen BK205.out 2
                    have hfz65_3 := blk_frozen BK205.out 3
                    have hfz65_4 := blk_frozen BK205.out 4
                    have hfz65_5 := blk_frozen BK205.out 5
                    have hfz65_6 := blk_frozen BK205.out 6
                    have hfz65_7 := blk_frozen BK205.out 7
                    have hfz65_8 := blk_frozen BK205.out 8
                    have hfz65_9 := blk_frozen BK205.out 9
                    go_wp2
                    go_loopg [7] kj43 (fun kq v7 w' => ∃ (x7_4 : Int) (x206005_4 : List (List Int)) (u206005 : Value), v7 = .int .i64 x7_4 ∧ Aside0 (baizeref44_Hear.l1 kq x7_4 a0_0 a0_1 l0_2 ji42 ji43 x206005_4 a0_6 a0_7 a0_8 x206009_43 a1_0 l1_1 a1_2 = some (r1, r2, r3, r4, r5, r6, r7, r8, r9, r10, r11)) ∧ Aside0 (kq ≤ kj43) ∧ Aside0 (Kd.V (Kd.slice 5 (Kd.int .u8)) 34 w' w.heap.size (fun k_ => ((P0_2_ k_ ∨ P0_5_ k_) ∨ w.heap.size ≤ k_) ∧ k_ ≠ gb205 ∧ k_ ≠ gb206 ∧ k_ ≠ gb207) (.slice A0_2 l0_2.length c0_2) l0_2) ∧ Aside0 (Kd.V (Kd.slice 5 (Kd.int .u8)) 34 w' w.heap.size (fun k_ => ((P0_2_ k_ ∨ P0_5_ k_) ∨ w.heap.size ≤ k_) ∧ k_ ≠ gb205 ∧ k_ ≠ gb206 ∧ k_ ≠ gb207) u206005 x206005_4) ∧ Aside0 (w'.heap[gb205]? = some (.cells #[.int .i64 a0_0, .int .i64 a0_1, (.slice A0_2 l0_2.length c0_2), .int .i64 ji42, .int .i64 ji43, u206005, .int .i64 a0_6, .int .i64 a0_7, .bool a0_8, .bool x206009_43] 27 (0, 0))) ∧ Aside0 (w'.heap[gb206]? = some (.cells #[.int .i64 a1_0, (.slice A1_1 l1_1.length c1_1), .int .i64 a1_2] 68 (0, 0))) ∧ Aside0 (w'.heap[gb207]? = some (.cells #[.int .i64 x208000_2, .int .i64 x208001_2, (.slice none 0 0), .int .i64 x208003_2, .int .i64 x208004_2, (.slice none 0 0), .int .i64 x208006_2, .int .i64 x208007_2, .bool x208008_2, .bool x208009_2] 27 (0, 0))) ∧ Aside0 (Below w.heap.size w w'))
                    case atStart => exact ⟨(0), (l0_5), (.slice A0_5 l0_5.length c0_5), (by first | rfl | (simp; done) | (simp [*]; done)), H', ⟨Nat.le_refl _⟩, ⟨by (with_reducible repeat (first | apply Kd.V_alloc | apply Kd.V_drewN | apply Kd.V_drew)); exact HO_206002.out⟩, ⟨by (with_reducible repeat (first | apply Kd.V_alloc | apply Kd.V_drewN | apply Kd.V_drew)); exact HO_206005.out⟩, ⟨by (with_reducible repeat (first | refine blk_drewN ?_ _ | refine blk_drew ?_ | refine blk_alloc ?_ _)); exact BK205.out⟩, ⟨by (with_reducible repeat (first | refine blk_drewN ?_ _ | refine blk_drew ?_ | refine blk_alloc ?_ _)); exact BK206.out⟩, ⟨by (with_reducible repeat (first | refine blk_drewN ?_ _ | refine blk_drew ?_ | refine blk_alloc ?_ _)); exact BK207.out⟩, ⟨by repeat (first | (with_reducible first | exact HB.out | apply below_alloc | apply pw_below_drewN | apply below_drew1 | refine below_set ?_ GE205.out | refine below_set ?_ GE206.out | refine below_set ?_ GE207.out) | exact HB.out)⟩⟩
                    case round =>
                      clear H'
                      try clear c1
                      try clear c2
                      try clear p2
                      try clear q2
                      try clear hx2
                      try clear c3
                      try clear c4
                      try clear c5
                      try clear c6
                      try clear p6
                      try clear c7
                      try clear c7b0
                      try clear c8
                      try clear c9
                      try clear c11
                      try clear c11b0
                      try clear c12
                      try clear c13
                      try clear c15
                      try clear c15b0
                      try clear c15b1
                      try clear c16
                      try clear c17
                      try clear c19
                      try clear c20
                      try clear p20
                      try clear q20
                      try clear hx20
                      try clear c22
                      try clear c24
                      try clear c25
                      try clear c26
                      try clear c28
                      try clear c30
                      try clear c30b0
                      try clear c31
                      try clear c31b0
                      try clear c32
                      try clear c32b0
                      try clear c32b1
                      try clear c33
                      try clear c34
                      try clear c36
                      try clear c39
                      try clear c40
                      try clear c45
                      try clear c46
                      try clear c48
                      try clear c50
                      try clear c50b0
                      try clear c50b1
                      try clear c51
                      try clear c52
                      try clear c54
                      try clear c54b0
                      try clear c55
                      try clear c56
                      try clear c58
                      try clear c61
                      try clear c62
                      try clear c64
                      try clear p64
                      try clear hcz10_0
                      try clear hcz10_1
                      try clear hcz10_2
                      try clear hcz14_0
                      try clear hcz14_1
                      try clear hcz14_2
                      try clear hcz18_0
                      try clear hcz18_1
                      try clear hcz18_2
                      try clear hcz21_0
                      try clear hcz21_1
                      try clear hcz21_2
                      try clear hcz23_0
                      try clear hcz23_1
                      try clear hcz23_2
                      try clear hcz23_3
                      try clear hcz23_4
                      try clear hcz23_5
                      try clear hcz23_6
                      try clear hcz23_7
                      try clear hcz23_8
                      try clear hcz23_9
                      try clear hcz27_0
                      try clear hcz27_1
                      try clear hcz27_2
                      try clear hcz27_3
                      try clear hcz27_4
                      try clear hcz27_5
                      try clear hcz27_6
                      try clear hcz27_7
                      try clear hcz27_8
                      try clear hcz27_9
                      try clear hcz29_0
                      try clear hcz29_1
                      try clear hcz29_2
                      try clear hcz29_3
                      try clear hcz29_4
                      try clear hcz29_5
                      try clear hcz29_6
                      try clear hcz29_7
                      try clear hcz29_8
                      try clear hcz29_9
                      try clear hcz35_0
                      try clear hcz35_1
                      try clear hcz35_2
                      try clear hcz37_0
                      try clear hcz37_1
                      try clear hcz37_2
                      try clear hcz37_3
                      try clear hcz37_4
                      try clear hcz37_5
                      try clear hcz37_6
                      try clear hcz37_7
                      try clear hcz37_8
                      try clear hcz37_9
                      try clear hcz38_0
                      try clear hcz38_1
                      try clear hcz38_2
                      try clear hcz38_3
                      try clear hcz38_4
                      try clear hcz38_5
                      try clear hcz38_6
                      try clear hcz38_7
                      try clear hcz38_8
                      try clear hcz38_9
                      try clear hcz41_0
                      try clear hcz41_1
                      try clear hcz41_2
                      try clear hcz47_0
                      try clear hcz47_1
                      try clear hcz47_2
                      try clear hcz49_0
                      try clear hcz49_1
                      try clear hcz49_2
                      try clear hcz49_3
                      try clear hcz49_4
                      try clear hcz49_5
                      try clear hcz49_6
                      try clear hcz49_7
                      try clear hcz49_8
                      try clear hcz49_9
                      try clear hcz53_0
                      try clear hcz53_1
                      try clear hcz53_2
                      try clear hcz53_3
                      try clear hcz53_4
                      try clear hcz53_5
                      try clear hcz53_6
                      try clear hcz53_7
                      try clear hcz53_8
                      try clear hcz53_9
                      try clear hcz57_0
                      try clear hcz57_1
                      try clear hcz57_2
                      try clear hcz59_0
                      try clear hcz59_1
                      try clear hcz59_2
                      try clear hcz59_3
                      try clear hcz59_4
                      try clear hcz59_5
                      try clear hcz59_6
                      try clear hcz59_7
                      try clear hcz59_8
                      try clear hcz59_9
                      try clear hcz60_0
                      try clear hcz60_1
                      try clear hcz60_2
                      try clear hcz60_3
                      try clear hcz60_4
                      try clear hcz60_5
                      try clear hcz60_6
                      try clear hcz60_7
                      try clear hcz60_8
                      try clear hcz60_9
                      try clear hcz63_0
                      try clear hcz63_1
                      try clear hcz63_2
                      try clear hcz65_0
                      try clear hcz65_1
                      try clear hcz65_2
                      try clear hcz65_3
                      try clear hcz65_4
                      try clear hcz65_5
                      try clear hcz65_6
                      try clear hcz65_7
                      try clear hcz65_8
                      try clear hcz65_9
                      try clear hfz10_0
                      try clear hfz10_1
                      try clear hfz10_2
                      try clear hfz14_0
                      try clear hfz14_1
                      try clear hfz14_2
                      try clear hfz18_0
                      try clear hfz18_1
                      try clear hfz18_2
                      try clear hfz21_0
                      try clear hfz21_1
                      try clear hfz21_2
                      try clear hfz23_0
                      try clear hfz23_1
                      try clear hfz23_2
                      try clear hfz23_3
                      try clear hfz23_4
                      try clear hfz23_5
                      try clear hfz23_6
                      try clear hfz23_7
                      try clear hfz23_8
                      try clear hfz23_9
                      try clear hfz27_0
                      try clear hfz27_1
                      try clear hfz27_2
                      try clear hfz27_3
                      try clear hfz27_4
                      try clear hfz27_5
                      try clear hfz27_6
                      try clear hfz27_7
                      try clear hfz27_8
                      try clear hfz27_9
                      try clear hfz29_0
                      try clear hfz29_1
                      try clear hfz29_2
                      try clear hfz29_3
                      try clear hfz29_4
                      try clear hfz29_5
                      try clear hfz29_6
                      try clear hfz29_7
                      try clear hfz29_8
                      try clear hfz29_9
                      try clear hfz35_0
                      try clear hfz35_1
                      try clear hfz35_2
                      try clear hfz37_0
                      try clear hfz37_1
                      try clear hfz37_2
                      try clear hfz37_3
                      try clear hfz37_4
                      try clear hfz37_5
                      try clear hfz37_6
                      try clear hfz37_7
                      try clear hfz37_8
                      try clear hfz37_9
                      try clear hfz38_0
                      try clear hfz38_1
                      try clear hfz38_2
                      try clear hfz38_3
                      try clear hfz38_4
                      try clear hfz38_5
                      try clear hfz38_6
                      try clear hfz38_7
                      try clear hfz38_8
                      try clear hfz38_9
                      try clear hfz41_0
                      try clear hfz41_1
                      try clear hfz41_2
                      try clear hfz47_0
                      try clear hfz47_1
                      try clear hfz47_2
                      try clear hfz49_0
                      try clear hfz49_1
                      try clear hfz49_2
                      try clear hfz49_3
                      try clear hfz49_4
                      try clear hfz49_5
                      try clear hfz49_6
                      try clear hfz49_7
                      try clear hfz49_8
                      try clear hfz49_9
                      try clear hfz53_0
                      try clear hfz53_1
                      try clear hfz53_2
                      try clear hfz53_3
                      try clear hfz53_4
                      try clear hfz53_5
                      try clear hfz53_6
                      try clear hfz53_7
                      try clear hfz53_8
                      try clear hfz53_9
                      try clear hfz57_0
                      try clear hfz57_1
                      try clear hfz57_2
                      try clear hfz59_0
                      try clear hfz59_1
                      try clear hfz59_2
                      try clear hfz59_3
                      try clear hfz59_4
                      try clear hfz59_5
                      try clear hfz59_6
                      try clear hfz59_7
                      try clear hfz59_8
                      try clear hfz59_9
                      try clear hfz60_0
                      try clear hfz60_1
                      try clear hfz60_2
                      try clear hfz60_3
                      try clear hfz60_4
                      try clear hfz60_5
                      try clear hfz60_6
                      try clear hfz60_7
                      try clear hfz60_8
                      try clear hfz60_9
                      try clear hfz63_0
                      try clear hfz63_1
                      try clear hfz63_2
                      try clear hfz65_0
                      try clear hfz65_1
                      try clear hfz65_2
                      try clear hfz65_3
                      try clear hfz65_4
                      try clear hfz65_5
                      try clear hfz65_6
                      try clear hfz65_7
                      try clear hfz65_8
                      try clear hfz65_9
                      try clear hx208_0
                      try clear p2
                      try clear p20
                      try clear p208
                      try clear p6
                      try clear q2
                      try clear q20
                      try clear q208
                      obtain ⟨x7_4, x206005_4, u206005, rfl, HA, HK4, HO_206002, HO_206005, BK205, BK206, BK207, HB⟩ := hrel
                      cases gk with
                      | zero => exact absurd HA.out (by simp [baizeref44_Hear.l1])
                      | succ k4 =>
                        have H := HA.out
                        clear HA
                        simp only [baizeref44_Hear.l1] at H
                        by_cases c66 : x7_4 < (l1_1.length : Int)
                        · rw [if_pos c66] at H
                          have c66b0 : decide (x7_4 < (l1_1.length : Int)) = true := decide_eq_true c66
                          clear c66
                          by_cases c67 : (wrap64 (a1_0 + x7_4)) = (x206005_4.length : Int)
                          · rw [if_pos c67] at H
                            have c67b0 : ((wrap64 (a1_0 + x7_4)) == (x206005_4.length : Int)) = true := beq_iff_eq.mpr c67
                            have c67b1 : ((wrap64 (a1_0 + x7_4)) != (x206005_4.length : Int)) = false := bne_eq_false_iff_eq.mpr c67
                            clear c67
                            obtain ⟨y209, hy209⟩ : ∃ y_ : List (List Int), y_ = (([] : List (List Int))) := ⟨_, rfl⟩
                            replace H : (if y209.length + x206005_4.length < 5864062014805 then ((some (y209 ++ x206005_4 : List (List Int))).bind fun y212 => ((some (([] : List Int) : List Int)).bind fun y215 => (if 0 ≤ x7_4 then (if y215.length + (rd_L1 l1_1 x7_4).length < 140737488355328 then (if y212.length < 5864062014805 then (baizeref44_Hear.l1 k4 (wrap64 (x7_4 + 1)) a0_0 a0_1 l0_2 ji42 ji43 (y212 ++ [(y215 ++ (rd_L1 l1_1 x7_4))]) a0_6 a0_7 a0_8 x206009_43 a1_0 l1_1 a1_2) else (none)) else (none)) else (none)))) else (none)) = some (r1, r2, r3, r4, r5, r6, r7, r8, r9, r10, r11) := by first | (rw [hy209]; with_reducible exact H) | (have H2_ := (Option.bind_some _ _).symm.trans H; rw [hy209]; with_reducible exact H2_) | (have H2_ := (Option.bind_some _ _).symm.trans H; with_reducible exact H2_) | with_reducible exact H | (rw [hy209]; exact H) | exact H
                            have Ny209 := Aside0.mk hy209
                            clear hy209
                            by_cases c68 : y209.length + x206005_4.length < 5864062014805
                            · rw [if_pos c68] at H
                              have LMc68 := Aside0.mk c68
                              clear c68
                              obtain ⟨y212, hy212⟩ : ∃ y_ : List (List Int), y_ = (y209 ++ x206005_4) := ⟨_, rfl⟩
                              replace H : ((some (([] : List Int) : List Int)).bind fun y215 => (if 0 ≤ x7_4 then (if y215.length + (rd_L1 l1_1 x7_4).length < 140737488355328 then (if y212.length < 5864062014805 then (baizeref44_Hear.l1 k4 (wrap64 (x7_4 + 1)) a0_0 a0_1 l0_2 ji42 ji43 (y212 ++ [(y215 ++ (rd_L1 l1_1 x7_4))]) a0_6 a0_7 a0_8 x206009_43 a1_0 l1_1 a1_2) else (none)) else (none)) else (none))) = some (r1, r2, r3, r4, r5, r6, r7, r8, r9, r10, r11) := by first | (rw [hy212]; with_reducible exact H) | (have H2_ := (Option.bind_some _ _).symm.trans H; rw [hy212]; with_reducible exact H2_) | (have H2_ := (Option.bind_some _ _).symm.trans H; with_reducible exact H2_) | with_reducible exact H | (rw [hy212]; exact H) | exact H
                              have Ny212 := Aside0.mk hy212
                              clear hy212
                              obtain ⟨y215, hy215⟩ : ∃ y_ : List Int, y_ = (([] : List Int)) := ⟨_, rfl⟩
                              replace H : (if 0 ≤ x7_4 then (if y215.length + (rd_L1 l1_1 x7_4).length < 140737488355328 then (if y212.length < 5864062014805 then (baizeref44_Hear.l1 k4 (wrap64 (x7_4 + 1)) a0_0 a0_1 l0_2 ji42 ji43 (y212 ++ [(y215 ++ (rd_L1 l1_1 x7_4))]) a0_6 a0_7 a0_8 x206009_43 a1_0 l1_1 a1_2) else (none)) else (none)) else (none)) = some (r1, r2, r3, r4, r5, r6, r7, r8, r9, r10, r11) := by first | (rw [hy215]; with_reducible exact H) | (have H2_ := (Option.bind_some _ _).symm.trans H; rw [hy215]; with_reducible exact H2_) | (have H2_ := (Option.bind_some _ _).symm.trans H; with_reducible exact H2_) | with_reducible exact H | (rw [hy215]; exact H) | exact H
                              have Ny215 := Aside0.mk hy215
                              clear hy215
                              by_cases c69 : 0 ≤ x7_4
                              · rw [if_pos c69] at H
                                have c69b0 : decide (0 ≤ x7_4) = true := decide_eq_true c69
                                clear c69
                                by_cases c70 : y215.length + (rd_L1 l1_1 x7_4).length < 140737488355328
                                · rw [if_pos c70] at H
                                  have LMc70 := Aside0.mk c70
                                  clear c70
                                  obtain ⟨y219, hy219⟩ : ∃ y_ : List Int, y_ = (y215 ++ (rd_L1 l1_1 x7_4)) := ⟨_, rfl⟩
                                  replace H : (if y212.length < 5864062014805 then (baizeref44_Hear.l1 k4 (wrap64 (x7_4 + 1)) a0_0 a0_1 l0_2 ji42 ji43 (y212 ++ [y219]) a0_6 a0_7 a0_8 x206009_43 a1_0 l1_1 a1_2) else (none)) = some (r1, r2, r3, r4, r5, r6, r7, r8, r9, r10, r11) := by first | (rw [hy219]; with_reducible exact H) | (have H2_ := (Option.bind_some _ _).symm.trans H; rw [hy219]; with_reducible exact H2_) | (have H2_ := (Option.bind_some _ _).symm.trans H; with_reducible exact H2_) | with_reducible exact H | (rw [hy219]; exact H) | exact H
                                  have Ny219 := Aside0.mk hy219
                                  clear hy219
                                  by_cases c71 : y212.length < 5864062014805
                                  · rw [if_pos c71] at H
                                    have LMc71 := Aside0.mk c71
                                    clear c71
                                    obtain ⟨y222, hy222⟩ : ∃ y_ : List (List Int), y_ = (y212 ++ [y219]) := ⟨_, rfl⟩
                                    replace H : (baizeref44_Hear.l1 k4 (wrap64 (x7_4 + 1)) a0_0 a0_1 l0_2 ji42 ji43 y222 a0_6 a0_7 a0_8 x206009_43 a1_0 l1_1 a1_2) = some (r1, r2, r3, r4, r5, r6, r7, r8, r9, r10, r11) := by first | (rw [hy222]; with_reducible exact H) | (have H2_ := (Option.bind_some _ _).symm.trans H; rw [hy222]; with_reducible exact H2_) | (have H2_ := (Option.bind_some _ _).symm.trans H; with_reducible exact H2_) | with_reducible exact H | (rw [hy222]; exact H) | exact H
                                    have Ny222 := Aside0.mk hy222
                                    clear hy222
                                    have H' := Aside0.mk H
                                    clear H
                                    have hnb72 := NB206_205.out
                                    have hnc72 := NB205_206.out
                                    have hnb73 := NB206_207.out
                                    have hnc73 := NB207_206.out
                                    have hcz74_0 : wr.cell? ⟨gb206, 0, none⟩ = some (.int .i64 a1_0) := (blk_cell BK206.out 0).trans rfl
                                    have hcz74_1 : wr.cell? ⟨gb206, 1, none⟩ = some (.slice A1_1 l1_1.length c1_1) := (blk_cell BK206.out 1).trans rfl
                                    have hcz74_2 : wr.cell? ⟨gb206, 2, none⟩ = some (.int .i64 a1_2) := (blk_cell BK206.out 2).trans rfl
                                    have hfz74_0 := blk_frozen BK206.out 0
                                    have hfz74_1 := blk_frozen BK206.out 1
                                    have hfz74_2 := blk_frozen BK206.out 2
                                    have hnb75 := NB205_207.out
                                    have hnc75 := NB207_205.out
                                    have hcz76_0 : wr.cell? ⟨gb205, 0, none⟩ = some (.int .i64 a0_0) := (blk_cell BK205.out 0).trans rfl
                                    have hcz76_1 : wr.cell? ⟨gb205, 1, none⟩ = some (.int .i64 a0_1) := (blk_cell BK205.out 1).trans rfl
                                    have hcz76_2 : wr.cell? ⟨gb205, 2, none⟩ = some (.slice A0_2 l0_2.length c0_2) := (blk_cell BK205.out 2).trans rfl
                                    have hcz76_3 : wr.cell? ⟨gb205, 3, none⟩ = some (.int .i64 ji42) := (blk_cell BK205.out 3).trans rfl
                                    have hcz76_4 : wr.cell? ⟨gb205, 4, none⟩ = some (.int .i64 ji43) := (blk_cell BK205.out 4).trans rfl
                                    have hcz76_5 : wr.cell? ⟨gb205, 5, none⟩ = some (u206005) := (blk_cell BK205.out 5).trans rfl
                                    have hcz76_6 : wr.cell? ⟨gb205, 6, none⟩ = some (.int .i64 a0_6) := (blk_cell BK205.out 6).trans rfl
                                    have hcz76_7 : wr.cell? ⟨gb205, 7, none⟩ = some (.int .i64 a0_7) := (blk_cell BK205.out 7).trans rfl
                                    have hcz76_8 : wr.cell? ⟨gb205, 8, none⟩ = some (.bool a0_8) := (blk_cell BK205.out 8).trans rfl
                                    have hcz76_9 : wr.cell? ⟨gb205, 9, none⟩ = some (.bool x206009_43) := (blk_cell BK205.out 9).trans rfl
                                    have hfz76_0 := blk_frozen BK205.out 0
                                    have hfz76_1 := blk_frozen BK205.out 1
                                    have hfz76_2 := blk_frozen BK205.out 2
                                    have hfz76_3 := blk_frozen BK205.out 3
                                    have hfz76_4 := blk_frozen BK205.out 4
                                    have hfz76_5 := blk_frozen BK205.out 5
                                    have hfz76_6 := blk_frozen BK205.out 6
                                    have hfz76_7 := blk_frozen BK205.out 7
                                    have hfz76_8 := blk_frozen BK205.out 8
                                    have hfz76_9 := blk_frozen BK205.out 9
                                    obtain ⟨Ao77, co77, eo77⟩ := Kd.V_slice HO_206005.out
                                    subst eo77
                                    try go_wp2
                                    have n0_ := Aside0.mk (Kd.V_drew HO_206002.out)
                                    have n1_ := Aside0.mk (Kd.V_drew HO_206005.out)
                                    have n2_ := Aside0.mk (blk_drew BK205.out)
                                    have n3_ := Aside0.mk (blk_drew BK206.out)
                                    have n4_ := Aside0.mk (blk_drew BK207.out)
                                    have n5_ := Aside0.mk (below_drew1 HB.out)
                                    clear HO_206002
                                    clear HO_206005
                                    clear BK205
                                    clear BK206
                                    clear BK207
                                    clear HB
                                    have HO_206002 := n0_
                                    have HO_206005 := n1_
                                    have BK205 := n2_
                                    have BK206 := n3_
                                    have BK207 := n4_
                                    have HB := n5_
                                    clear n0_ n1_ n2_ n3_ n4_ n5_
                                    have p218 : 0 ≤ (x7_4 : Int) := of_decide_eq_true (by first | (with_reducible assumption) | assumption)
                                    have q218 : x7_4 < (l1_1.length : Int) := of_decide_eq_true (by first | (with_reducible assumption) | assumption)
                                    obtain ⟨ad218, A218_0, c218_0, e218, hx218_0, hl218_0, hi218_0⟩ := at_L1 HR1_1.out x7_4 p218 q218
                                    have hw218_0 := hx218_0
                                    cases e218
                                    replace hx218_0 := (HB.out.cell (World.block_lt_of_cell? w _ hx218_0)).trans hx218_0
                                    have HR218_0 := Aside0.mk hi218_0
                                    have HC218_0 := Aside0.mk hl218_0
                                    clear hi218_0 hl218_0
                                    replace p218 := eq_true p218
                                    replace q218 := eq_true q218
                                    refine start_ (n := 15) (S := fun w' => w'.cell? ⟨gb205, 0, none⟩ = some (.int .i64 a0_0) ∧ w'.cell? ⟨gb205, 1, none⟩ = some (.int .i64 a0_1) ∧ w'.cell? ⟨gb205, 2, none⟩ = some (.slice A0_2 l0_2.length c0_2) ∧ w'.cell? ⟨gb205, 3, none⟩ = some (.int .i64 ji42) ∧ w'.cell? ⟨gb205, 4, none⟩ = some (.int .i64 ji43) ∧ w'.cell? ⟨gb205, 5, none⟩ = some (.slice Ao77 x206005_4.length co77) ∧ w'.cell? ⟨gb205, 6, none⟩ = some (.int .i64 a0_6) ∧ w'.cell? ⟨gb205, 7, none⟩ = some (.int .i64 a0_7) ∧ w'.cell? ⟨gb205, 8, none⟩ = some (.bool a0_8) ∧ w'.cell? ⟨gb205, 9, none⟩ = some (.bool x206009_43) ∧ w'.cell? ⟨gb206, 0, none⟩ = some (.int .i64 a1_0) ∧ w'.cell? ⟨gb206, 1, none⟩ = some (.slice (some ad218) l1_1.length c1_1) ∧ w'.cell? ⟨gb206, 2, none⟩ = some (.int .i64 a1_2) ∧ w'.cell? (ad218.add (x7_4).toNat) = some (.slice A218_0 (rd_L1 l1_1 x7_4).length c218_0)) (ds := [14]) #[false, false, false, false, false, false, false, false, false, false, false, false, false, false, false] (by kernel_rfl) rfl rfl ⟨(blk_cell BK205.out 0).trans rfl, (blk_cell BK205.out 1).trans rfl, (blk_cell BK205.out 2).trans rfl, (blk_cell BK205.out 3).trans rfl, (blk_cell BK205.out 4).trans rfl, (blk_cell BK205.out 5).trans rfl, (blk_cell BK205.out 6).trans rfl, (blk_cell BK205.out 7).trans rfl, (blk_cell BK205.out 8).trans rfl, (blk_cell BK205.out 9).trans rfl, (blk_cell BK206.out 0).trans rfl, (blk_cell BK206.out 1).trans rfl, (blk_cell BK206.out 2).trans rfl, ((HB.out.cell (World.block_lt_of_cell? w _ hw218_0)).trans hw218_0)⟩ (fun hHeld => ?_); refine with_tabW baizeref44_Hear.tab18 baizeref44_Hear.bits18 (fun HT_ HW_ => ?_)
                                    generalize wr.drew = w78 at HO_206002 HO_206005 BK205 BK206 BK207 HB HR218_0 hx218_0 hHeld ⊢
                                    refine pure_ (i := 1) (N := some 86) (v := ?_) (a' := ?_) #[false, true, false, false, false, false, false, false, false, false, false, false, false, false, false] rfl rfl (any_of HT_.out (by kernel_rfl)) (fun _ _ _ h => h) (Or.inl ⟨by rfl, ?_⟩) ?_ ?_
                                    rotate_left
                                    · intro w'
                                      go_simp
                                      with_reducible rfl
                                    rotate_left
                                    · simp only [Act.put, List.setIfInBounds_toArray, List.set_cons_zero, List.set_cons_succ, i64_w, i32_w]
                                      rfl
                                    refine pure_ (i := 5) (N := some 90) (v := ?_) (a' := ?_) #[false, true, false, false, false, true, false, false, false, false, false, false, false, false, false] rfl rfl (any_of HT_.out (by kernel_rfl)) (fun _ _ _ h => h) (Or.inl ⟨by rfl, ?_⟩) ?_ ?_
                                    rotate_left
                                    · intro w'
                                      go_simp
                                      with_reducible rfl
                                    rotate_left
                                    · simp only [Act.put, List.setIfInBounds_toArray, List.set_cons_zero, List.set_cons_succ, i64_w, i32_w]
                                      rfl
                                    refine pure_ (i := 7) (N := some 92) (v := ?_) (a' := ?_) #[false, true, false, false, false, true, false, true, false, false, false, false, false, false, false] rfl rfl (any_of HT_.out (by kernel_rfl)) (fun _ _ _ h => h) (Or.inl ⟨by rfl, ?_⟩) ?_ ?_
                                    rotate_left
                                    · intro w'
                                      go_simp
                                      with_reducible rfl
                                    rotate_left
                                    · simp only [Act.put, List.setIfInBounds_toArray, List.set_cons_zero, List.set_cons_succ, i64_w, i32_w]
                                      rfl
                                    refine take_ (i := 2) (N := some 87) (v := ?_) (a' := ?_) #[false, true, true, false, false, true, false, true, false, false, false, false, false, false, false] rfl rfl (take_ofW HT_.out HW_.out (by kernel_rfl)) (fun _ _ _ h => h) (Or.inl ⟨by rfl, ?_⟩) hHeld ?_ ?_
                                    rotate_left
                                    · rintro w' ⟨s0, s1, s2, s3, s4, s5, s6, s7, s8, s9, s10, s11, s12, s13⟩
                                      go_simp
                                      with_reducible rfl
                                    rotate_left
                                    · simp only [Act.put, List.setIfInBounds_toArray, List.set_cons_zero, List.set_cons_succ, i64_w, i32_w]
                                      rfl
                                    refine take_ (i := 6) (N := some 91) (v := ?_) (a' := ?_) #[false, true, true, false, false, true, true, true, false, false, false, false, false, false, false] rfl rfl (take_ofW HT_.out HW_.out (by kernel_rfl)) (fun _ _ _ h => h) (Or.inl ⟨by rfl, ?_⟩) hHeld ?_ ?_
                                    rotate_left
                                    · rintro w' ⟨s0, s1, s2, s3, s4, s5, s6, s7, s8, s9, s10, s11, s12, s13⟩
                                      go_simp
                                      with_reducible rfl
                                    rotate_left
                                    · simp only [Act.put, List.setIfInBounds_toArray, List.set_cons_zero, List.set_cons_succ, i64_w, i32_w]
                                      rfl
                                    refine pure_ (i := 8) (N := some 93) (v := ?_) (a' := ?_) #[false, true, true, false, false, true, true, true, true, false, false, false, false, false, false] rfl rfl (any_of HT_.out (by kernel_rfl)) (fun _ _ _ h => h) (Or.inl ⟨by rfl, ?_⟩) ?_ ?_
                                    rotate_left
                                    · intro w'
                                      go_simp
                                      with_reducible rfl
                                    rotate_left
                                    · simp only [Act.put, List.setIfInBounds_toArray, List.set_cons_zero, List.set_cons_succ, i64_w, i32_w]
                                      rfl
                                    refine take_ (i := 9) (N := some 94) (v := ?_) (a' := ?_) #[false, true, true, false, false, true, true, true, true, true, false, false, false, false, false] rfl rfl (take_ofW HT_.out HW_.out (by kernel_rfl)) (fun _ _ _ h => h) (Or.inl ⟨by rfl, ?_⟩) hHeld ?_ ?_
                                    rotate_left
                                    · rintro w' ⟨s0, s1, s2, s3, s4, s5, s6, s7, s8, s9, s10, s11, s12, s13⟩
                                      go_simp
                                      with_reducible rfl
                                    rotate_left
                                    · simp only [Act.put, List.setIfInBounds_toArray, List.set_cons_zero, List.set_cons_succ, i64_w, i32_w]
                                      rfl
                                    refine join_ (σ := Value × Value × Value) 5 #[true, true, true, true, true, true, true, true, true, true, false, false, false, false, false] (fun s_ => [(85, s_.1), (88, s_.2.1), (89, s_.2.2)]) (fun s_ w' => (w'.cell? ⟨gb205, 0, none⟩ = some (.int .i64 a0_0) ∧ w'.cell? ⟨gb205, 1, none⟩ = some (.int .i64 a0_1) ∧ w'.cell? ⟨gb205, 2, none⟩ = some (.slice A0_2 l0_2.length c0_2) ∧ w'.cell? ⟨gb205, 3, none⟩ = some (.int .i64 ji42) ∧ w'.cell? ⟨gb205, 4, none⟩ = some (.int .i64 ji43) ∧ w'.cell? ⟨gb205, 5, none⟩ = some (.slice Ao77 x206005_4.length co77) ∧ w'.cell? ⟨gb205, 6, none⟩ = some (.int .i64 a0_6) ∧ w'.cell? ⟨gb205, 7, none⟩ = some (.int .i64 a0_7) ∧ w'.cell? ⟨gb205, 8, none⟩ = some (.bool a0_8) ∧ w'.cell? ⟨gb205, 9, none⟩ = some (.bool x206009_43) ∧ w'.cell? ⟨gb206, 0, none⟩ = some (.int .i64 a1_0) ∧ w'.cell? ⟨gb206, 1, none⟩ = some (.slice (some ad218) l1_1.length c1_1) ∧ w'.cell? ⟨gb206, 2, none⟩ = some (.int .i64 a1_2) ∧ w'.cell? (ad218.add (x7_4).toNat) = some (.slice A218_0 (rd_L1 l1_1 x7_4).length c218_0)) ∧ (Kd.N (Kd.slice 5 (Kd.int .u8)) 34 w' w.heap.size (fun k_ => ((P0_2_ k_ ∨ P0_5_ k_) ∨ w.heap.size ≤ k_) ∧ some k_ ≠ (s_.2.2 : Value).ownBlock ∧ k_ ≠ gb205 ∧ k_ ≠ gb206 ∧ k_ ≠ gb207) s_.2.1 y212) ∧ (Kd.R (Kd.int .u8) 5 w' w.heap.size (fun k_ => (w.heap.size ≤ k_)) s_.2.2 y215) ∧ (Kd.V (Kd.slice 5 (Kd.int .u8)) 34 w' w.heap.size (fun k_ => ((P0_2_ k_ ∨ P0_5_ k_) ∨ w.heap.size ≤ k_) ∧ some k_ ≠ (s_.2.1 : Value).ownBlock ∧ some k_ ≠ (s_.2.2 : Value).ownBlock ∧ k_ ≠ gb205 ∧ k_ ≠ gb206 ∧ k_ ≠ gb207) (.slice A0_2 l0_2.length c0_2) l0_2) ∧ (Kd.V (Kd.slice 5 (Kd.int .u8)) 34 w' w.heap.size (fun k_ => ((P0_2_ k_ ∨ P0_5_ k_) ∨ w.heap.size ≤ k_) ∧ some k_ ≠ (s_.2.1 : Value).ownBlock ∧ some k_ ≠ (s_.2.2 : Value).ownBlock ∧ k_ ≠ gb205 ∧ k_ ≠ gb206 ∧ k_ ≠ gb207) (.slice Ao77 x206005_4.length co77) x206005_4) ∧ (w'.heap[gb205]? = some (.cells #[.int .i64 a0_0, .int .i64 a0_1, .slice A0_2 l0_2.length c0_2, .int .i64 ji42, .int .i64 ji43, .slice Ao77 x206005_4.length co77, .int .i64 a0_6, .int .i64 a0_7, .bool a0_8, .bool x206009_43] 27 (0, 0))) ∧ (w'.heap[gb206]? = some (.cells #[.int .i64 a1_0, .slice (some ad218) l1_1.length c1_1, .int .i64 a1_2] 68 (0, 0))) ∧ (w'.heap[gb207]? = some (.cells #[.int .i64 x208000_2, .int .i64 x208001_2, .slice none 0 0, .int .i64 x208003_2, .int .i64 x208004_2, .slice none 0 0, .int .i64 x208006_2, .int .i64 x208007_2, .bool x208008_2, .bool x208009_2] 27 (0, 0))) ∧ (Below w.heap.size w w')) ?_ ?_
                                    rotate_left
                                    · intro hCont
                                      refine two_ (i := 0) (j := 4) (Ni := some 85) (Nj := some 89) #[true, true, true, false, false, true, true, true, true, true, false, false, false, false, false] #[false, true, true, false, true, true, true, true, true, true, false, false, false, false, false] rfl rfl rfl rfl (two_of HT_.out (by kernel_rfl)) (by decide) (by decide) (fun K hK => ?_) (fun K hK => ?_)
                                      · skip
                                        refine Kd.N_lit_step (Kd.slice 5 (Kd.int .u8)) _ 34 ?hg (N' := 85) ?hd (xs := ([] : List (List Int))) (inner := []) (ok := (fun k_ => ((P0_2_ k_ ∨ P0_5_ k_) ∨ w.heap.size ≤ k_) ∧ k_ ≠ gb205 ∧ k_ ≠ gb206 ∧ k_ ≠ gb207)) (okp := (fun k_ => ((P0_2_ k_ ∨ P0_5_ k_) ∨ w.heap.size ≤ k_) ∧ k_ ≠ gb205 ∧ k_ ≠ gb206 ∧ k_ ≠ gb207)) ?hr ?hp (fun _ hk => hk) ((show ∀ k_, w78.heap.size ≤ k_ → (fun k_ => ((P0_2_ k_ ∨ P0_5_ k_) ∨ w.heap.size ≤ k_) ∧ k_ ≠ gb205 ∧ k_ ≠ gb206 ∧ k_ ≠ gb207) k_ from fun k_ hk => ⟨(.inr (Nat.le_trans (below_size (by repeat (first | (with_reducible first | exact HB.out | apply below_alloc | apply pw_below_drewN | apply below_drew1 | refine below_set ?_ GE205.out | refine below_set ?_ GE206.out | refine below_set ?_ GE207.out) | exact HB.out))) hk)), Kd.freshB (g := gb205) (o := .cells #[.int .i64 a0_0, .int .i64 a0_1, .slice A0_2 l0_2.length c0_2, .int .i64 ji42, .int .i64 ji43, .slice Ao77 x206005_4.length co77, .int .i64 a0_6, .int .i64 a0_7, .bool a0_8, .bool x206009_43] 27 (0, 0)) (by (with_reducible repeat (first | refine blk_drewN ?_ _ | refine blk_drew ?_ | refine blk_alloc ?_ _)); exact BK205.out) k_ hk, Kd.freshB (g := gb206) (o := .cells #[.int .i64 a1_0, .slice (some ad218) l1_1.length c1_1, .int .i64 a1_2] 68 (0, 0)) (by (with_reducible repeat (first | refine blk_drewN ?_ _ | refine blk_drew ?_ | refine blk_alloc ?_ _)); exact BK206.out) k_ hk, Kd.freshB (g := gb207) (o := .cells #[.int .i64 x208000_2, .int .i64 x208001_2, .slice none 0 0, .int .i64 x208003_2, .int .i64 x208004_2, .slice none 0 0, .int .i64 x208006_2, .int .i64 x208007_2, .bool x208008_2, .bool x208009_2] 27 (0, 0)) (by (with_reducible repeat (first | refine blk_drewN ?_ _ | refine blk_drew ?_ | refine blk_alloc ?_ _)); exact BK207.out) k_ hk⟩) _ (Nat.le_refl _)) (Below.refl _ _) (Nat.le_refl _) (by simp) ?_; (case hd => rfl); (case hg => rfl); (case hr => first | (go_simp; done) | (go_simp; rfl)); (case hp => exact (Reps.none _ _))
                                        intro v210 w79 ho80 hb hg_ hnew_
                                        clear hg_ hnew_
                                        (first | rw [← Ny209.out] at ho80 | (simp only [Int.reduceToNat] at ho80; rw [← Ny209.out] at ho80))
                                        have n0_ := Aside0.mk (Kd.V_elder' (by (with_reducible repeat (first | apply Kd.V_alloc | apply Kd.V_drewN | apply Kd.V_drew)); exact HO_206002.out) (Kd.N_base ho80) hb)
                                        have n1_ := Aside0.mk (Kd.V_elder' (by (with_reducible repeat (first | apply Kd.V_alloc | apply Kd.V_drewN | apply Kd.V_drew)); exact HO_206005.out) (Kd.N_base ho80) hb)
                                        have n2_ := Aside0.mk (Kd.N_lower ho80 (below_size (by repeat (first | (with_reducible first | exact HB.out | apply below_alloc | apply pw_below_drewN | apply below_drew1 | refine below_set ?_ GE205.out | refine below_set ?_ GE206.out | refine below_set ?_ GE207.out) | exact HB.out))))
                                        have n3_ := Aside0.mk (blk_below (g := gb205) (o := .cells #[.int .i64 a0_0, .int .i64 a0_1, .slice A0_2 l0_2.length c0_2, .int .i64 ji42, .int .i64 ji43, .slice Ao77 x206005_4.length co77, .int .i64 a0_6, .int .i64 a0_7, .bool a0_8, .bool x206009_43] 27 (0, 0)) (by (with_reducible repeat (first | refine blk_drewN ?_ _ | refine blk_drew ?_ | refine blk_alloc ?_ _)); exact BK205.out) hb)
                                        have n4_ := Aside0.mk (blk_below (g := gb206) (o := .cells #[.int .i64 a1_0, .slice (some ad218) l1_1.length c1_1, .int .i64 a1_2] 68 (0, 0)) (by (with_reducible repeat (first | refine blk_drewN ?_ _ | refine blk_drew ?_ | refine blk_alloc ?_ _)); exact BK206.out) hb)
                                        have n5_ := Aside0.mk (blk_below (g := gb207) (o := .cells #[.int .i64 x208000_2, .int .i64 x208001_2, .slice none 0 0, .int .i64 x208003_2, .int .i64 x208004_2, .slice none 0 0, .int .i64 x208006_2, .int .i64 x208007_2, .bool x208008_2, .bool x208009_2] 27 (0, 0)) (by (with_reducible repeat (first | refine blk_drewN ?_ _ | refine blk_drew ?_ | refine blk_alloc ?_ _)); exact BK207.out) hb)
                                        have n6_ := Aside0.mk (below_step (by repeat (first | (with_reducible first | exact HB.out | apply below_alloc | apply pw_below_drewN | apply below_drew1 | refine below_set ?_ GE205.out | refine below_set ?_ GE206.out | refine below_set ?_ GE207.out) | exact HB.out)) hb)
                                        clear HO_206002
                                        clear HO_206005
                                        clear BK205
                                        clear BK206
                                        clear BK207
                                        clear HB
                                        have HO_206002 := n0_
                                        have HO_206005 := n1_
                                        have HO211 := n2_
                                        have BK205 := n3_
                                        have BK206 := n4_
                                        have BK207 := n5_
                                        have HB := n6_
                                        clear n0_ n1_ n2_ n3_ n4_ n5_ n6_
                                        clear hb ho80
                                        refine hK.out _ _ ⟨(blk_cell BK205.out 0).trans rfl, (blk_cell BK205.out 1).trans rfl, (blk_cell BK205.out 2).trans rfl, (blk_cell BK205.out 3).trans rfl, (blk_cell BK205.out 4).trans rfl, (blk_cell BK205.out 5).trans rfl, (blk_cell BK205.out 6).trans rfl, (blk_cell BK205.out 7).trans rfl, (blk_cell BK205.out 8).trans rfl, (blk_cell BK205.out 9).trans rfl, (blk_cell BK206.out 0).trans rfl, (blk_cell BK206.out 1).trans rfl, (blk_cell BK206.out 2).trans rfl, ((HB.out.cell (World.block_lt_of_cell? w _ hw218_0)).trans hw218_0)⟩ (fun hHeld => ?_)
                                        clear hK K
                                        refine norm_ (a' := ?_) ?_ ?_
                                        rotate_left
                                        · show Act.put _ (some 85) _ = _
                                          simp only [Act.put, List.setIfInBounds_toArray, List.set_cons_zero, List.set_cons_succ, i64_w, i32_w]
                                          rfl
                                        refine two_ (i := 3) (j := 4) (Ni := some 88) (Nj := some 89) #[true, true, true, true, false, true, true, true, true, true, false, false, false, false, false] #[true, true, true, false, true, true, true, true, true, true, false, false, false, false, false] rfl rfl rfl rfl (two_of HT_.out (by kernel_rfl)) (by decide) (by decide) (fun K hK => ?_) (fun K hK => ?_)
                                        · skip
                                          refine Kd.N_append_rows_step (Kd.slice 5 (Kd.int .u8)) (w0 := w) w.heap.size (by rfl) (.tmp 85) (.tmp 87) 25 34 (.slice none 0 0) 24 rfl Try.underlying25 info34 rfl (by decide) (by omega) v210 y209 x206005_4 _ _ _ (fun k_ => ((P0_2_ k_ ∨ P0_5_ k_) ∨ w.heap.size ≤ k_) ∧ k_ ≠ gb205 ∧ k_ ≠ gb206 ∧ k_ ≠ gb207) (fun k_ => ((fun k_ => ((P0_2_ k_ ∨ P0_5_ k_) ∨ w.heap.size ≤ k_) ∧ k_ ≠ gb205 ∧ k_ ≠ gb206 ∧ k_ ≠ gb207)) k_ ∧ some k_ ≠ (v210 : Value).ownBlock) rfl rfl ?aO ?aR (fun _ hk => hk) ?aF ?aB ?aS ?aL ?_
                                          (case aR => exact (by skip; exact Kd.V_F (Kd.V_mono (ok' := (fun k_ => ((fun k_ => ((P0_2_ k_ ∨ P0_5_ k_) ∨ w.heap.size ≤ k_) ∧ k_ ≠ gb205 ∧ k_ ≠ gb206 ∧ k_ ≠ gb207)) k_ ∧ some k_ ≠ (v210 : Value).ownBlock)) (HO_206005.out) (fun k_ hk => ⟨⟨hk.1.1, ⟨hk.1.2.1, ⟨hk.1.2.2.1, hk.1.2.2.2⟩⟩⟩, hk.2⟩))))
                                          (case aB => exact (by repeat (first | (with_reducible first | exact HB.out | apply below_alloc | apply pw_below_drewN | apply below_drew1 | refine below_set ?_ GE205.out | refine below_set ?_ GE206.out | refine below_set ?_ GE207.out) | exact HB.out)))
                                          (case aF => exact (fun k_ hk => ⟨(.inr (Nat.le_trans (below_size (by repeat (first | (with_reducible first | exact HB.out | apply below_alloc | apply pw_below_drewN | apply below_drew1 | refine below_set ?_ GE205.out | refine below_set ?_ GE206.out | refine below_set ?_ GE207.out) | exact HB.out))) hk)), Kd.freshB (g := gb205) (o := .cells #[.int .i64 a0_0, .int .i64 a0_1, .slice A0_2 l0_2.length c0_2, .int .i64 ji42, .int .i64 ji43, .slice Ao77 x206005_4.length co77, .int .i64 a0_6, .int .i64 a0_7, .bool a0_8, .bool x206009_43] 27 (0, 0)) (by (with_reducible repeat (first | refine blk_drewN ?_ _ | refine blk_drew ?_ | refine blk_alloc ?_ _)); exact BK205.out) k_ hk, Kd.freshB (g := gb206) (o := .cells #[.int .i64 a1_0, .slice (some ad218) l1_1.length c1_1, .int .i64 a1_2] 68 (0, 0)) (by (with_reducible repeat (first | refine blk_drewN ?_ _ | refine blk_drew ?_ | refine blk_alloc ?_ _)); exact BK206.out) k_ hk, Kd.freshB (g := gb207) (o := .cells #[.int .i64 x208000_2, .int .i64 x208001_2, .slice none 0 0, .int .i64 x208003_2, .int .i64 x208004_2, .slice none 0 0, .int .i64 x208006_2, .int .i64 x208007_2, .bool x208008_2, .bool x208009_2] 27 (0, 0)) (by (with_reducible repeat (first | refine blk_drewN ?_ _ | refine blk_drew ?_ | refine blk_alloc ?_ _)); exact BK207.out) k_ hk⟩))
                                          (case aO => exact (by (with_reducible repeat (first | apply Kd.N_alloc | apply Kd.N_drewN | apply Kd.N_drew)); exact HO211.out))
                                          (case aS => exact (below_size (by repeat (first | (with_reducible first | exact HB.out | apply below_alloc | apply pw_below_drewN | apply below_drew1 | refine below_set ?_ GE205.out | refine below_set ?_ GE206.out | refine below_set ?_ GE207.out) | exact HB.out))))
                                          (case aL => have := LMc68.out; omega)
                                          intro v213 w81 ho hb hg hat
                                          rw [← Ny212.out] at ho
                                          have n0_ := Aside0.mk (Kd.V_afterv (ok := (fun k_ => ((P0_2_ k_ ∨ P0_5_ k_) ∨ w.heap.size ≤ k_) ∧ k_ ≠ gb205 ∧ k_ ≠ gb206 ∧ k_ ≠ gb207)) (by (with_reducible repeat (first | apply Kd.V_alloc | apply Kd.V_drewN | apply Kd.V_drew)); exact HO_206002.out) hg hat)
                                          have n1_ := Aside0.mk (Kd.V_afterv (ok := (fun k_ => ((P0_2_ k_ ∨ P0_5_ k_) ∨ w.heap.size ≤ k_) ∧ k_ ≠ gb205 ∧ k_ ≠ gb206 ∧ k_ ≠ gb207)) (by (with_reducible repeat (first | apply Kd.V_alloc | apply Kd.V_drewN | apply Kd.V_drew)); exact HO_206005.out) hg hat)
                                          have n2_ := Aside0.mk (blk_grown (g := gb205) (o := .cells #[.int .i64 a0_0, .int .i64 a0_1, .slice A0_2 l0_2.length c0_2, .int .i64 ji42, .int .i64 ji43, .slice Ao77 x206005_4.length co77, .int .i64 a0_6, .int .i64 a0_7, .bool a0_8, .bool x206009_43] 27 (0, 0)) (by (with_reducible repeat (first | refine blk_drewN ?_ _ | refine blk_drew ?_ | refine blk_alloc ?_ _)); exact BK205.out) hg (Kd.N_ne HO211.out BK205.out (by decide)))
                                          have n3_ := Aside0.mk (blk_grown (g := gb206) (o := .cells #[.int .i64 a1_0, .slice (some ad218) l1_1.length c1_1, .int .i64 a1_2] 68 (0, 0)) (by (with_reducible repeat (first | refine blk_drewN ?_ _ | refine blk_drew ?_ | refine blk_alloc ?_ _)); exact BK206.out) hg (Kd.N_ne HO211.out BK206.out (by decide)))
                                          have n4_ := Aside0.mk (blk_grown (g := gb207) (o := .cells #[.int .i64 x208000_2, .int .i64 x208001_2, .slice none 0 0, .int .i64 x208003_2, .int .i64 x208004_2, .slice none 0 0, .int .i64 x208006_2, .int .i64 x208007_2, .bool x208008_2, .bool x208009_2] 27 (0, 0)) (by (with_reducible repeat (first | refine blk_drewN ?_ _ | refine blk_drew ?_ | refine blk_alloc ?_ _)); exact BK207.out) hg (Kd.N_ne HO211.out BK207.out (by decide)))
                                          have n5_ := Aside0.mk (hb)
                                          have n6_ := Aside0.mk (ho)
                                          clear HO_206002
                                          clear HO_206005
                                          clear BK205
                                          clear BK206
                                          clear BK207
                                          clear HB
                                          clear HO211
                                          have HO_206002 := n0_
                                          have HO_206005 := n1_
                                          have BK205 := n2_
                                          have BK206 := n3_
                                          have BK207 := n4_
                                          have HB := n5_
                                          have HO214 := n6_
                                          clear n0_ n1_ n2_ n3_ n4_ n5_ n6_
                                          clear ho hb hg hat
                                          refine hK.out _ _ ⟨(blk_cell BK205.out 0).trans rfl, (blk_cell BK205.out 1).trans rfl, (blk_cell BK205.out 2).trans rfl, (blk_cell BK205.out 3).trans rfl, (blk_cell BK205.out 4).trans rfl, (blk_cell BK205.out 5).trans rfl, (blk_cell BK205.out 6).trans rfl, (blk_cell BK205.out 7).trans rfl, (blk_cell BK205.out 8).trans rfl, (blk_cell BK205.out 9).trans rfl, (blk_cell BK206.out 0).trans rfl, (blk_cell BK206.out 1).trans rfl, (blk_cell BK206.out 2).trans rfl, ((HB.out.cell (World.block_lt_of_cell? w _ hw218_0)).trans hw218_0)⟩ (fun hHeld => ?_)
                                          clear hK K
                                          refine norm_ (a' := ?_) ?_ ?_
                                          rotate_left
                                          · show Act.put _ (some 88) _ = _
                                            simp only [Act.put, List.setIfInBounds_toArray, List.set_cons_zero, List.set_cons_succ, i64_w, i32_w]
                                            rfl
                                          refine one_ (i := 4) (N := some 89) #[true, true, true, true, true, true, true, true, true, true, false, false, false, false, false] rfl rfl (one_of HT_.out (by kernel_rfl)) (by decide) (fun K hK => ?_)
                                          refine Kd.R_lit_step (Kd.int .u8) _ 5 ?hg (N := 89) ?hd (xs := ([] : List Int)) (inner := []) (ok := fun _ => True) (okp := fun _ => True) ?hr ?hp (fun _ hk => hk) trivial (Below.refl _ _) (Nat.le_refl _) (by simp) ?_; (case hd => rfl); (case hg => rfl); (case hr => first | (go_simp; done) | (go_simp; rfl)); (case hp => exact (Reps.none _ _))
                                          intro v216 w82 ho83 hb hg_ hnew_
                                          clear hg_ hnew_
                                          (first | rw [← Ny215.out] at ho83 | (simp only [Int.reduceToNat] at ho83; rw [← Ny215.out] at ho83))
                                          have n0_ := Aside0.mk (Kd.V_elder' (by (with_reducible repeat (first | apply Kd.V_alloc | apply Kd.V_drewN | apply Kd.V_drew)); exact HO_206002.out) (Kd.R_base ho83) hb)
                                          have n1_ := Aside0.mk (Kd.V_elder' (by (with_reducible repeat (first | apply Kd.V_alloc | apply Kd.V_drewN | apply Kd.V_drew)); exact HO_206005.out) (Kd.R_base ho83) hb)
                                          have n2_ := Aside0.mk (Kd.N_elder' (by (with_reducible repeat (first | apply Kd.N_alloc | apply Kd.N_drewN | apply Kd.N_drew)); exact HO214.out) (Kd.R_base ho83) hb)
                                          have n3_ := Aside0.mk (Kd.R_lower (Kd.R_newM (M := fun k_ => (w.heap.size ≤ k_)) ho83 (below_size (by repeat (first | (with_reducible first | exact HB.out | apply below_alloc | apply pw_below_drewN | apply below_drew1 | refine below_set ?_ GE205.out | refine below_set ?_ GE206.out | refine below_set ?_ GE207.out) | exact HB.out))) (fun k_ h_ => h_)) (below_size (by repeat (first | (with_reducible first | exact HB.out | apply below_alloc | apply pw_below_drewN | apply below_drew1 | refine below_set ?_ GE205.out | refine below_set ?_ GE206.out | refine below_set ?_ GE207.out) | exact HB.out))))
                                          have n4_ := Aside0.mk (blk_below (g := gb205) (o := .cells #[.int .i64 a0_0, .int .i64 a0_1, .slice A0_2 l0_2.length c0_2, .int .i64 ji42, .int .i64 ji43, .slice Ao77 x206005_4.length co77, .int .i64 a0_6, .int .i64 a0_7, .bool a0_8, .bool x206009_43] 27 (0, 0)) (by (with_reducible repeat (first | refine blk_drewN ?_ _ | refine blk_drew ?_ | refine blk_alloc ?_ _)); exact BK205.out) hb)
                                          have n5_ := Aside0.mk (blk_below (g := gb206) (o := .cells #[.int .i64 a1_0, .slice (some ad218) l1_1.length c1_1, .int .i64 a1_2] 68 (0, 0)) (by (with_reducible repeat (first | refine blk_drewN ?_ _ | refine blk_drew ?_ | refine blk_alloc ?_ _)); exact BK206.out) hb)
                                          have n6_ := Aside0.mk (blk_below (g := gb207) (o := .cells #[.int .i64 x208000_2, .int .i64 x208001_2, .slice none 0 0, .int .i64 x208003_2, .int .i64 x208004_2, .slice none 0 0, .int .i64 x208006_2, .int .i64 x208007_2, .bool x208008_2, .bool x208009_2] 27 (0, 0)) (by (with_reducible repeat (first | refine blk_drewN ?_ _ | refine blk_drew ?_ | refine blk_alloc ?_ _)); exact BK207.out) hb)
                                          have n7_ := Aside0.mk (below_step (by repeat (first | (with_reducible first | exact HB.out | apply below_alloc | apply pw_below_drewN | apply below_drew1 | refine below_set ?_ GE205.out | refine below_set ?_ GE206.out | refine below_set ?_ GE207.out) | exact HB.out)) hb)
                                          clear HO_206002
                                          clear HO_206005
                                          clear HO214
                                          clear BK205
                                          clear BK206
                                          clear BK207
                                          clear HB
                                          have HO_206002 := n0_
                                          have HO_206005 := n1_
                                          have HO214 := n2_
                                          have HO217 := n3_
                                          have BK205 := n4_
                                          have BK206 := n5_
                                          have BK207 := n6_
                                          have HB := n7_
                                          clear n0_ n1_ n2_ n3_ n4_ n5_ n6_ n7_
                                          clear hb ho83
                                          refine hK.out _ _ ⟨(blk_cell BK205.out 0).trans rfl, (blk_cell BK205.out 1).trans rfl, (blk_cell BK205.out 2).trans rfl, (blk_cell BK205.out 3).trans rfl, (blk_cell BK205.out 4).trans rfl, (blk_cell BK205.out 5).trans rfl, (blk_cell BK205.out 6).trans rfl, (blk_cell BK205.out 7).trans rfl, (blk_cell BK205.out 8).trans rfl, (blk_cell BK205.out 9).trans rfl, (blk_cell BK206.out 0).trans rfl, (blk_cell BK206.out 1).trans rfl, (blk_cell BK206.out 2).trans rfl, ((HB.out.cell (World.block_lt_of_cell? w _ hw218_0)).trans hw218_0)⟩ (fun hHeld => ?_)
                                          clear hK K
                                          refine norm_ (a' := ?_) ?_ ?_
                                          rotate_left
                                          · show Act.put _ (some 89) _ = _
                                            simp only [Act.put, List.setIfInBounds_toArray, List.set_cons_zero, List.set_cons_succ, i64_w, i32_w]
                                            rfl
                                          exact norm_ (by simp only [putAll, Act.put, List.setIfInBounds_toArray, List.set_cons_zero, List.set_cons_succ]) (hCont (v210, v213, v216) _ ⟨hHeld, (by (with_reducible repeat (first | apply Kd.N_alloc | apply Kd.N_drewN | apply Kd.N_drew)); exact Kd.N_mono HO214.out (fun _ hk => ⟨hk.1.1, ⟨hk.2, ⟨hk.1.2.1, ⟨hk.1.2.2.1, hk.1.2.2.2⟩⟩⟩⟩)), (by (with_reducible repeat (first | apply Kd.R_alloc | apply Kd.R_drewN | apply Kd.R_drew)); exact Kd.R_mono HO217.out (fun _ hk => hk.1)), (by (with_reducible repeat (first | apply Kd.V_alloc | apply Kd.V_drewN | apply Kd.V_drew)); exact Kd.V_mono HO_206002.out (fun _ hk => ⟨hk.1.1.1, ⟨hk.1.2, ⟨hk.2, ⟨hk.1.1.2.1, ⟨hk.1.1.2.2.1, hk.1.1.2.2.2⟩⟩⟩⟩⟩)), (by (with_reducible repeat (first | apply Kd.V_alloc | apply Kd.V_drewN | apply Kd.V_drew)); exact Kd.V_mono HO_206005.out (fun _ hk => ⟨hk.1.1.1, ⟨hk.1.2, ⟨hk.2, ⟨hk.1.1.2.1, ⟨hk.1.1.2.2.1, hk.1.1.2.2.2⟩⟩⟩⟩⟩)), (by (with_reducible repeat (first | refine blk_drewN ?_ _ | refine blk_drew ?_ | refine blk_alloc ?_ _)); exact BK205.out), (by (with_reducible repeat (first | refine blk_drewN ?_ _ | refine blk_drew ?_ | refine blk_alloc ?_ _)); exact BK206.out), (by (with_reducible repeat (first | refine blk_drewN ?_ _ | refine blk_drew ?_ | refine blk_alloc ?_ _)); exact BK207.out), (by repeat (first | (with_reducible first | exact HB.out | apply below_alloc | apply pw_below_drewN | apply below_drew1 | refine below_set ?_ GE205.out | refine below_set ?_ GE206.out | refine below_set ?_ GE207.out) | exact HB.out))⟩)
                                        · skip
                                          refine Kd.R_lit_step (Kd.int .u8) _ 5 ?hg (N := 89) ?hd (xs := ([] : List Int)) (inner := []) (ok := fun _ => True) (okp := fun _ => True) ?hr ?hp (fun _ hk => hk) trivial (Below.refl _ _) (Nat.le_refl _) (by simp) ?_; (case hd => rfl); (case hg => rfl); (case hr => first | (go_simp; done) | (go_simp; rfl)); (case hp => exact (Reps.none _ _))
                                          intro v216 w81 ho82 hb hg_ hnew_
                                          clear hg_ hnew_
                                          (first | rw [← Ny215.out] at ho82 | (simp only [Int.reduceToNat] at ho82; rw [← Ny215.out] at ho82))
                                          have n0_ := Aside0.mk (Kd.V_elder' (by (with_reducible repeat (first | apply Kd.V_alloc | apply Kd.V_drewN | apply Kd.V_drew)); exact HO_206002.out) (Kd.R_base ho82) hb)
                                          have n1_ := Aside0.mk (Kd.V_elder' (by (with_reducible repeat (first | apply Kd.V_alloc | apply Kd.V_drewN | apply Kd.V_drew)); exact HO_206005.out) (Kd.R_base ho82) hb)
                                          have n2_ := Aside0.mk (Kd.N_elder' (by (with_reducible repeat (first | apply Kd.N_alloc | apply Kd.N_drewN | apply Kd.N_drew)); exact HO211.out) (Kd.R_base ho82) hb)
                                          have n3_ := Aside0.mk (Kd.R_lower (Kd.R_newM (M := fun k_ => (w.heap.size ≤ k_)) ho82 (below_size (by repeat (first | (with_reducible first | exact HB.out | apply below_alloc | apply pw_below_drewN | apply below_drew1 | refine below_set ?_ GE205.out | refine below_set ?_ GE206.out | refine below_set ?_ GE207.out) | exact HB.out))) (fun k_ h_ => h_)) (below_size (by repeat (first | (with_reducible first | exact HB.out | apply below_alloc | apply pw_below_drewN | apply below_drew1 | refine below_set ?_ GE205.out | refine below_set ?_ GE206.out | refine below_set ?_ GE207.out) | exact HB.out))))
                                          have n4_ := Aside0.mk (blk_below (g := gb205) (o := .cells #[.int .i64 a0_0, .int .i64 a0_1, .slice A0_2 l0_2.length c0_2, .int .i64 ji42, .int .i64 ji43, .slice Ao77 x206005_4.length co77, .int .i64 a0_6, .int .i64 a0_7, .bool a0_8, .bool x206009_43] 27 (0, 0)) (by (with_reducible repeat (first | refine blk_drewN ?_ _ | refine blk_drew ?_ | refine blk_alloc ?_ _)); exact BK205.out) hb)
                                          have n5_ := Aside0.mk (blk_below (g := gb206) (o := .cells #[.int .i64 a1_0, .slice (some ad218) l1_1.length c1_1, .int .i64 a1_2] 68 (0, 0)) (by (with_reducible repeat (first | refine blk_drewN ?_ _ | refine blk_drew ?_ | refine blk_alloc ?_ _)); exact BK206.out) hb)
                                          have n6_ := Aside0.mk (blk_below (g := gb207) (o := .cells #[.int .i64 x208000_2, .int .i64 x208001_2, .slice none 0 0, .int .i64 x208003_2, .int .i64 x208004_2, .slice none 0 0, .int .i64 x208006_2, .int .i64 x208007_2, .bool x208008_2, .bool x208009_2] 27 (0, 0)) (by (with_reducible repeat (first | refine blk_drewN ?_ _ | refine blk_drew ?_ | refine blk_alloc ?_ _)); exact BK207.out) hb)
                                          have n7_ := Aside0.mk (below_step (by repeat (first | (with_reducible first | exact HB.out | apply below_alloc | apply pw_below_drewN | apply below_drew1 | refine below_set ?_ GE205.out | refine below_set ?_ GE206.out | refine below_set ?_ GE207.out) | exact HB.out)) hb)
                                          clear HO_206002
                                          clear HO_206005
                                          clear HO211
                                          clear BK205
                                          clear BK206
                                          clear BK207
                                          clear HB
                                          have HO_206002 := n0_
                                          have HO_206005 := n1_
                                          have HO211 := n2_
                                          have HO217 := n3_
                                          have BK205 := n4_
                                          have BK206 := n5_
                                          have BK207 := n6_
                                          have HB := n7_
                                          clear n0_ n1_ n2_ n3_ n4_ n5_ n6_ n7_
                                          clear hb ho82
                                          refine hK.out _ _ ⟨(blk_cell BK205.out 0).trans rfl, (blk_cell BK205.out 1).trans rfl, (blk_cell BK205.out 2).trans rfl, (blk_cell BK205.out 3).trans rfl, (blk_cell BK205.out 4).trans rfl, (blk_cell BK205.out 5).trans rfl, (blk_cell BK205.out 6).trans rfl, (blk_cell BK205.out 7).trans rfl, (blk_cell BK205.out 8).trans rfl, (blk_cell BK205.out 9).trans rfl, (blk_cell BK206.out 0).trans rfl, (blk_cell BK206.out 1).trans rfl, (blk_cell BK206.out 2).trans rfl, ((HB.out.cell (World.block_lt_of_cell? w _ hw218_0)).trans hw218_0)⟩ (fun hHeld => ?_)
                                          clear hK K
                                          refine norm_ (a' := ?_) ?_ ?_
                                          rotate_left
                                          · show Act.put _ (some 89) _ = _
                                            simp only [Act.put, List.setIfInBounds_toArray, List.set_cons_zero, List.set_cons_succ, i64_w, i32_w]
                                            rfl
                                          refine one_ (i := 3) (N := some 88) #[true, true, true, true, true, true, true, true, true, true, false, false, false, false, false] rfl rfl (one_of HT_.out (by kernel_rfl)) (by decide) (fun K hK => ?_)
                                          refine Kd.N_append_rows_step (Kd.slice 5 (Kd.int .u8)) (w0 := w) w.heap.size (by rfl) (.tmp 85) (.tmp 87) 25 34 (.slice none 0 0) 24 rfl Try.underlying25 info34 rfl (by decide) (by omega) v210 y209 x206005_4 _ _ _ (fun k_ => ((P0_2_ k_ ∨ P0_5_ k_) ∨ w.heap.size ≤ k_) ∧ some k_ ≠ (v216 : Value).ownBlock ∧ k_ ≠ gb205 ∧ k_ ≠ gb206 ∧ k_ ≠ gb207) (fun k_ => ((fun k_ => ((P0_2_ k_ ∨ P0_5_ k_) ∨ w.heap.size ≤ k_) ∧ some k_ ≠ (v216 : Value).ownBlock ∧ k_ ≠ gb205 ∧ k_ ≠ gb206 ∧ k_ ≠ gb207)) k_ ∧ some k_ ≠ (v210 : Value).ownBlock) rfl rfl ?aO ?aR (fun _ hk => hk) ?aF ?aB ?aS ?aL ?_
                                          (case aR => exact (by skip; exact Kd.V_F (Kd.V_mono (ok' := (fun k_ => ((fun k_ => ((P0_2_ k_ ∨ P0_5_ k_) ∨ w.heap.size ≤ k_) ∧ some k_ ≠ (v216 : Value).ownBlock ∧ k_ ≠ gb205 ∧ k_ ≠ gb206 ∧ k_ ≠ gb207)) k_ ∧ some k_ ≠ (v210 : Value).ownBlock)) (HO_206005.out) (fun k_ hk => ⟨⟨hk.1.1.1, ⟨hk.2, ⟨hk.1.1.2.1, ⟨hk.1.1.2.2.1, hk.1.1.2.2.2⟩⟩⟩⟩, hk.1.2⟩))))
                                          (case aB => exact (by repeat (first | (with_reducible first | exact HB.out | apply below_alloc | apply pw_below_drewN | apply below_drew1 | refine below_set ?_ GE205.out | refine below_set ?_ GE206.out | refine below_set ?_ GE207.out) | exact HB.out)))
                                          (case aF => exact (fun k_ hk => ⟨(.inr (Nat.le_trans (below_size (by repeat (first | (with_reducible first | exact HB.out | apply below_alloc | apply pw_below_drewN | apply below_drew1 | refine below_set ?_ GE205.out | refine below_set ?_ GE206.out | refine below_set ?_ GE207.out) | exact HB.out))) hk)), Kd.fresh' (Kd.R_lt (by (with_reducible repeat (first | apply Kd.R_alloc | apply Kd.R_drewN | apply Kd.R_drew)); exact HO217.out)) k_ hk, Kd.freshB (g := gb205) (o := .cells #[.int .i64 a0_0, .int .i64 a0_1, .slice A0_2 l0_2.length c0_2, .int .i64 ji42, .int .i64 ji43, .slice Ao77 x206005_4.length co77, .int .i64 a0_6, .int .i64 a0_7, .bool a0_8, .bool x206009_43] 27 (0, 0)) (by (with_reducible repeat (first | refine blk_drewN ?_ _ | refine blk_drew ?_ | refine blk_alloc ?_ _)); exact BK205.out) k_ hk, Kd.freshB (g := gb206) (o := .cells #[.int .i64 a1_0, .slice (some ad218) l1_1.length c1_1, .int .i64 a1_2] 68 (0, 0)) (by (with_reducible repeat (first | refine blk_drewN ?_ _ | refine blk_drew ?_ | refine blk_alloc ?_ _)); exact BK206.out) k_ hk, Kd.freshB (g := gb207) (o := .cells #[.int .i64 x208000_2, .int .i64 x208001_2, .slice none 0 0, .int .i64 x208003_2, .int .i64 x208004_2, .slice none 0 0, .int .i64 x208006_2, .int .i64 x208007_2, .bool x208008_2, .bool x208009_2] 27 (0, 0)) (by (with_reducible repeat (first | refine blk_drewN ?_ _ | refine blk_drew ?_ | refine blk_alloc ?_ _)); exact BK207.out) k_ hk⟩))
                                          (case aO => exact (by (with_reducible repeat (first | apply Kd.N_alloc | apply Kd.N_drewN | apply Kd.N_drew)); exact Kd.N_mono HO211.out (fun _ hk => ⟨hk.1.1, ⟨hk.2, ⟨hk.1.2.1, ⟨hk.1.2.2.1, hk.1.2.2.2⟩⟩⟩⟩)))
                                          (case aS => exact (below_size (by repeat (first | (with_reducible first | exact HB.out | apply below_alloc | apply pw_below_drewN | apply below_drew1 | refine below_set ?_ GE205.out | refine below_set ?_ GE206.out | refine below_set ?_ GE207.out) | exact HB.out))))
                                          (case aL => have := LMc68.out; omega)
                                          intro v213 w83 ho hb hg hat
                                          rw [← Ny212.out] at ho
                                          have n0_ := Aside0.mk (Kd.V_afterv (ok := (fun k_ => ((P0_2_ k_ ∨ P0_5_ k_) ∨ w.heap.size ≤ k_) ∧ some k_ ≠ (v216 : Value).ownBlock ∧ k_ ≠ gb205 ∧ k_ ≠ gb206 ∧ k_ ≠ gb207)) (by (with_reducible repeat (first | apply Kd.V_alloc | apply Kd.V_drewN | apply Kd.V_drew)); exact Kd.V_mono HO_206002.out (fun _ hk => ⟨⟨hk.1.1.1, ⟨hk.2, ⟨hk.1.1.2.1, ⟨hk.1.1.2.2.1, hk.1.1.2.2.2⟩⟩⟩⟩, hk.1.2⟩)) hg hat)
                                          have n1_ := Aside0.mk (Kd.V_afterv (ok := (fun k_ => ((P0_2_ k_ ∨ P0_5_ k_) ∨ w.heap.size ≤ k_) ∧ some k_ ≠ (v216 : Value).ownBlock ∧ k_ ≠ gb205 ∧ k_ ≠ gb206 ∧ k_ ≠ gb207)) (by (with_reducible repeat (first | apply Kd.V_alloc | apply Kd.V_drewN | apply Kd.V_drew)); exact Kd.V_mono HO_206005.out (fun _ hk => ⟨⟨hk.1.1.1, ⟨hk.2, ⟨hk.1.1.2.1, ⟨hk.1.1.2.2.1, hk.1.1.2.2.2⟩⟩⟩⟩, hk.1.2⟩)) hg hat)
                                          have n2_ := Aside0.mk (blk_grown (g := gb205) (o := .cells #[.int .i64 a0_0, .int .i64 a0_1, .slice A0_2 l0_2.length c0_2, .int .i64 ji42, .int .i64 ji43, .slice Ao77 x206005_4.length co77, .int .i64 a0_6, .int .i64 a0_7, .bool a0_8, .bool x206009_43] 27 (0, 0)) (by (with_reducible repeat (first | refine blk_drewN ?_ _ | refine blk_drew ?_ | refine blk_alloc ?_ _)); exact BK205.out) hg (Kd.N_ne HO211.out BK205.out (by decide)))
                                          have n3_ := Aside0.mk (blk_grown (g := gb206) (o := .cells #[.int .i64 a1_0, .slice (some ad218) l1_1.length c1_1, .int .i64 a1_2] 68 (0, 0)) (by (with_reducible repeat (first | refine blk_drewN ?_ _ | refine blk_drew ?_ | refine blk_alloc ?_ _)); exact BK206.out) hg (Kd.N_ne HO211.out BK206.out (by decide)))
                                          have n4_ := Aside0.mk (blk_grown (g := gb207) (o := .cells #[.int .i64 x208000_2, .int .i64 x208001_2, .slice none 0 0, .int .i64 x208003_2, .int .i64 x208004_2, .slice none 0 0, .int .i64 x208006_2, .int .i64 x208007_2, .bool x208008_2, .bool x208009_2] 27 (0, 0)) (by (with_reducible repeat (first | refine blk_drewN ?_ _ | refine blk_drew ?_ | refine blk_alloc ?_ _)); exact BK207.out) hg (Kd.N_ne HO211.out BK207.out (by decide)))
                                          have n5_ := Aside0.mk (Kd.R_over' (by (with_reducible repeat (first | apply Kd.R_alloc | apply Kd.R_drewN | apply Kd.R_drew)); exact HO217.out) (Kd.N_typed (by (with_reducible repeat (first | apply Kd.N_alloc | apply Kd.N_drewN | apply Kd.N_drew)); exact HO211.out)) (by decide) hg)
                                          have n6_ := Aside0.mk (hb)
                                          have n7_ := Aside0.mk (ho)
                                          clear HO_206002
                                          clear HO_206005
                                          clear BK205
                                          clear BK206
                                          clear BK207
                                          clear HO217
                                          clear HB
                                          clear HO211
                                          have HO_206002 := n0_
                                          have HO_206005 := n1_
                                          have BK205 := n2_
                                          have BK206 := n3_
                                          have BK207 := n4_
                                          have HO217 := n5_
                                          have HB := n6_
                                          have HO214 := n7_
                                          clear n0_ n1_ n2_ n3_ n4_ n5_ n6_ n7_
                                          clear ho hb hg hat
                                          refine hK.out _ _ ⟨(blk_cell BK205.out 0).trans rfl, (blk_cell BK205.out 1).trans rfl, (blk_cell BK205.out 2).trans rfl, (blk_cell BK205.out 3).trans rfl, (blk_cell BK205.out 4).trans rfl, (blk_cell BK205.out 5).trans rfl, (blk_cell BK205.out 6).trans rfl, (blk_cell BK205.out 7).trans rfl, (blk_cell BK205.out 8).trans rfl, (blk_cell BK205.out 9).trans rfl, (blk_cell BK206.out 0).trans rfl, (blk_cell BK206.out 1).trans rfl, (blk_cell BK206.out 2).trans rfl, ((HB.out.cell (World.block_lt_of_cell? w _ hw218_0)).trans hw218_0)⟩ (fun hHeld => ?_)
                                          clear hK K
                                          refine norm_ (a' := ?_) ?_ ?_
                                          rotate_left
                                          · show Act.put _ (some 88) _ = _
                                            simp only [Act.put, List.setIfInBounds_toArray, List.set_cons_zero, List.set_cons_succ, i64_w, i32_w]
                                            rfl
                                          exact norm_ (by simp only [putAll, Act.put, List.setIfInBounds_toArray, List.set_cons_zero, List.set_cons_succ]) (hCont (v210, v213, v216) _ ⟨hHeld, (by (with_reducible repeat (first | apply Kd.N_alloc | apply Kd.N_drewN | apply Kd.N_drew)); exact HO214.out), (by (with_reducible repeat (first | apply Kd.R_alloc | apply Kd.R_drewN | apply Kd.R_drew)); exact Kd.R_mono HO217.out (fun _ hk => hk.1)), (by (with_reducible repeat (first | apply Kd.V_alloc | apply Kd.V_drewN | apply Kd.V_drew)); exact Kd.V_mono HO_206002.out (fun _ hk => ⟨hk.1.1, ⟨hk.2, ⟨hk.1.2.1, ⟨hk.1.2.2.1, ⟨hk.1.2.2.2.1, hk.1.2.2.2.2⟩⟩⟩⟩⟩)), (by (with_reducible repeat (first | apply Kd.V_alloc | apply Kd.V_drewN | apply Kd.V_drew)); exact Kd.V_mono HO_206005.out (fun _ hk => ⟨hk.1.1, ⟨hk.2, ⟨hk.1.2.1, ⟨hk.1.2.2.1, ⟨hk.1.2.2.2.1, hk.1.2.2.2.2⟩⟩⟩⟩⟩)), (by (with_reducible repeat (first | refine blk_drewN ?_ _ | refine blk_drew ?_ | refine blk_alloc ?_ _)); exact BK205.out), (by (with_reducible repeat (first | refine blk_drewN ?_ _ | refine blk_drew ?_ | refine blk_alloc ?_ _)); exact BK206.out), (by (with_reducible repeat (first | refine blk_drewN ?_ _ | refine blk_drew ?_ | refine blk_alloc ?_ _)); exact BK207.out), (by repeat (first | (with_reducible first | exact HB.out | apply below_alloc | apply pw_below_drewN | apply below_drew1 | refine below_set ?_ GE205.out | refine below_set ?_ GE206.out | refine below_set ?_ GE207.out) | exact HB.out))⟩)
                                      · skip
                                        refine Kd.R_lit_step (Kd.int .u8) _ 5 ?hg (N := 89) ?hd (xs := ([] : List Int)) (inner := []) (ok := fun _ => True) (okp := fun _ => True) ?hr ?hp (fun _ hk => hk) trivial (Below.refl _ _) (Nat.le_refl _) (by simp) ?_; (case hd => rfl); (case hg => rfl); (case hr => first | (go_simp; done) | (go_simp; rfl)); (case hp => exact (Reps.none _ _))
                                        intro v216 w79 ho80 hb hg_ hnew_
                                        clear hg_ hnew_
                                        (first | rw [← Ny215.out] at ho80 | (simp only [Int.reduceToNat] at ho80; rw [← Ny215.out] at ho80))
                                        have n0_ := Aside0.mk (Kd.V_elder' (by (with_reducible repeat (first | apply Kd.V_alloc | apply Kd.V_drewN | apply Kd.V_drew)); exact HO_206002.out) (Kd.R_base ho80) hb)
                                        have n1_ := Aside0.mk (Kd.V_elder' (by (with_reducible repeat (first | apply Kd.V_alloc | apply Kd.V_drewN | apply Kd.V_drew)); exact HO_206005.out) (Kd.R_base ho80) hb)
                                        have n2_ := Aside0.mk (Kd.R_lower (Kd.R_newM (M := fun k_ => (w.heap.size ≤ k_)) ho80 (below_size (by repeat (first | (with_reducible first | exact HB.out | apply below_alloc | apply pw_below_drewN | apply below_drew1 | refine below_set ?_ GE205.out | refine below_set ?_ GE206.out | refine below_set ?_ GE207.out) | exact HB.out))) (fun k_ h_ => h_)) (below_size (by repeat (first | (with_reducible first | exact HB.out | apply below_alloc | apply pw_below_drewN | apply below_drew1 | refine below_set ?_ GE205.out | refine below_set ?_ GE206.out | refine below_set ?_ GE207.out) | exact HB.out))))
                                        have n3_ := Aside0.mk (blk_below (g := gb205) (o := .cells #[.int .i64 a0_0, .int .i64 a0_1, .slice A0_2 l0_2.length c0_2, .int .i64 ji42, .int .i64 ji43, .slice Ao77 x206005_4.length co77, .int .i64 a0_6, .int .i64 a0_7, .bool a0_8, .bool x206009_43] 27 (0, 0)) (by (with_reducible repeat (first | refine blk_drewN ?_ _ | refine blk_drew ?_ | refine blk_alloc ?_ _)); exact BK205.out) hb)
                                        have n4_ := Aside0.mk (blk_below (g := gb206) (o := .cells #[.int .i64 a1_0, .slice (some ad218) l1_1.length c1_1, .int .i64 a1_2] 68 (0, 0)) (by (with_reducible repeat (first | refine blk_drewN ?_ _ | refine blk_drew ?_ | refine blk_alloc ?_ _)); exact BK206.out) hb)
                                        have n5_ := Aside0.mk (blk_below (g := gb207) (o := .cells #[.int .i64 x208000_2, .int .i64 x208001_2, .slice none 0 0, .int .i64 x208003_2, .int .i64 x208004_2, .slice none 0 0, .int .i64 x208006_2, .int .i64 x208007_2, .bool x208008_2, .bool x208009_2] 27 (0, 0)) (by (with_reducible repeat (first | refine blk_drewN ?_ _ | refine blk_drew ?_ | refine blk_alloc ?_ _)); exact BK207.out) hb)
                                        have n6_ := Aside0.mk (below_step (by repeat (first | (with_reducible first | exact HB.out | apply below_alloc | apply pw_below_drewN | apply below_drew1 | refine below_set ?_ GE205.out | refine below_set ?_ GE206.out | refine below_set ?_ GE207.out) | exact HB.out)) hb)
                                        clear HO_206002
                                        clear HO_206005
                                        clear BK205
                                        clear BK206
                                        clear BK207
                                        clear HB
                                        have HO_206002 := n0_
                                        have HO_206005 := n1_
                                        have HO217 := n2_
                                        have BK205 := n3_
                                        have BK206 := n4_
                                        have BK207 := n5_
                                        have HB := n6_
                                        clear n0_ n1_ n2_ n3_ n4_ n5_ n6_
                                        clear hb ho80
                                        refine hK.out _ _ ⟨(blk_cell BK205.out 0).trans rfl, (blk_cell BK205.out 1).trans rfl, (blk_cell BK205.out 2).trans rfl, (blk_cell BK205.out 3).trans rfl, (blk_cell BK205.out 4).trans rfl, (blk_cell BK205.out 5).trans rfl, (blk_cell BK205.out 6).trans rfl, (blk_cell BK205.out 7).trans rfl, (blk_cell BK205.out 8).trans rfl, (blk_cell BK205.out 9).trans rfl, (blk_cell BK206.out 0).trans rfl, (blk_cell BK206.out 1).trans rfl, (blk_cell BK206.out 2).trans rfl, ((HB.out.cell (World.block_lt_of_cell? w _ hw218_0)).trans hw218_0)⟩ (fun hHeld => ?_)
                                        clear hK K
                                        refine norm_ (a' := ?_) ?_ ?_
                                        rotate_left
                                        · show Act.put _ (some 89) _ = _
                                          simp only [Act.put, List.setIfInBounds_toArray, List.set_cons_zero, List.set_cons_succ, i64_w, i32_w]
                                          rfl
                                        refine one_ (i := 0) (N := some 85) #[true, true, true, false, true, true, true, true, true, true, false, false, false, false, false] rfl rfl (one_of HT_.out (by kernel_rfl)) (by decide) (fun K hK => ?_)
                                        refine Kd.N_lit_step (Kd.slice 5 (Kd.int .u8)) _ 34 ?hg (N' := 85) ?hd (xs := ([] : List (List Int))) (inner := []) (ok := (fun k_ => ((P0_2_ k_ ∨ P0_5_ k_) ∨ w.heap.size ≤ k_) ∧ some k_ ≠ (v216 : Value).ownBlock ∧ k_ ≠ gb205 ∧ k_ ≠ gb206 ∧ k_ ≠ gb207)) (okp := (fun k_ => ((P0_2_ k_ ∨ P0_5_ k_) ∨ w.heap.size ≤ k_) ∧ some k_ ≠ (v216 : Value).ownBlock ∧ k_ ≠ gb205 ∧ k_ ≠ gb206 ∧ k_ ≠ gb207)) ?hr ?hp (fun _ hk => hk) ((show ∀ k_, w79.heap.size ≤ k_ → (fun k_ => ((P0_2_ k_ ∨ P0_5_ k_) ∨ w.heap.size ≤ k_) ∧ some k_ ≠ (v216 : Value).ownBlock ∧ k_ ≠ gb205 ∧ k_ ≠ gb206 ∧ k_ ≠ gb207) k_ from fun k_ hk => ⟨(.inr (Nat.le_trans (below_size (by repeat (first | (with_reducible first | exact HB.out | apply below_alloc | apply pw_below_drewN | apply below_drew1 | refine below_set ?_ GE205.out | refine below_set ?_ GE206.out | refine below_set ?_ GE207.out) | exact HB.out))) hk)), Kd.fresh' (Kd.R_lt (by (with_reducible repeat (first | apply Kd.R_alloc | apply Kd.R_drewN | apply Kd.R_drew)); exact HO217.out)) k_ hk, Kd.freshB (g := gb205) (o := .cells #[.int .i64 a0_0, .int .i64 a0_1, .slice A0_2 l0_2.length c0_2, .int .i64 ji42, .int .i64 ji43, .slice Ao77 x206005_4.length co77, .int .i64 a0_6, .int .i64 a0_7, .bool a0_8, .bool x206009_43] 27 (0, 0)) (by (with_reducible repeat (first | refine blk_drewN ?_ _ | refine blk_drew ?_ | refine blk_alloc ?_ _)); exact BK205.out) k_ hk, Kd.freshB (g := gb206) (o := .cells #[.int .i64 a1_0, .slice (some ad218) l1_1.length c1_1, .int .i64 a1_2] 68 (0, 0)) (by (with_reducible repeat (first | refine blk_drewN ?_ _ | refine blk_drew ?_ | refine blk_alloc ?_ _)); exact BK206.out) k_ hk, Kd.freshB (g := gb207) (o := .cells #[.int .i64 x208000_2, .int .i64 x208001_2, .slice none 0 0, .int .i64 x208003_2, .int .i64 x208004_2, .slice none 0 0, .int .i64 x208006_2, .int .i64 x208007_2, .bool x208008_2, .bool x208009_2] 27 (0, 0)) (by (with_reducible repeat (first | refine blk_drewN ?_ _ | refine blk_drew ?_ | refine blk_alloc ?_ _)); exact BK207.out) k_ hk⟩) _ (Nat.le_refl _)) (Below.refl _ _) (Nat.le_refl _) (by simp) ?_; (case hd => rfl); (case hg => rfl); (case hr => first | (go_simp; done) | (go_simp; rfl)); (case hp => exact (Reps.none _ _))
                                        intro v210 w81 ho82 hb hg_ hnew_
                                        clear hg_ hnew_
                                        (first | rw [← Ny209.out] at ho82 | (simp only [Int.reduceToNat] at ho82; rw [← Ny209.out] at ho82))
                                        have n0_ := Aside0.mk (Kd.V_elder' (by (with_reducible repeat (first | apply Kd.V_alloc | apply Kd.V_drewN | apply Kd.V_drew)); exact HO_206002.out) (Kd.N_base ho82) hb)
                                        have n1_ := Aside0.mk (Kd.V_elder' (by (with_reducible repeat (first | apply Kd.V_alloc | apply Kd.V_drewN | apply Kd.V_drew)); exact HO_206005.out) (Kd.N_base ho82) hb)
                                        have n2_ := Aside0.mk (Kd.R_below (by (with_reducible repeat (first | apply Kd.R_alloc | apply Kd.R_drewN | apply Kd.R_drew)); exact HO217.out) hb)
                                        have n3_ := Aside0.mk (Kd.N_lower ho82 (below_size (by repeat (first | (with_reducible first | exact HB.out | apply below_alloc | apply pw_below_drewN | apply below_drew1 | refine below_set ?_ GE205.out | refine below_set ?_ GE206.out | refine below_set ?_ GE207.out) | exact HB.out))))
                                        have n4_ := Aside0.mk (blk_below (g := gb205) (o := .cells #[.int .i64 a0_0, .int .i64 a0_1, .slice A0_2 l0_2.length c0_2, .int .i64 ji42, .int .i64 ji43, .slice Ao77 x206005_4.length co77, .int .i64 a0_6, .int .i64 a0_7, .bool a0_8, .bool x206009_43] 27 (0, 0)) (by (with_reducible repeat (first | refine blk_drewN ?_ _ | refine blk_drew ?_ | refine blk_alloc ?_ _)); exact BK205.out) hb)
                                        have n5_ := Aside0.mk (blk_below (g := gb206) (o := .cells #[.int .i64 a1_0, .slice (some ad218) l1_1.length c1_1, .int .i64 a1_2] 68 (0, 0)) (by (with_reducible repeat (first | refine blk_drewN ?_ _ | refine blk_drew ?_ | refine blk_alloc ?_ _)); exact BK206.out) hb)
                                        have n6_ := Aside0.mk (blk_below (g := gb207) (o := .cells #[.int .i64 x208000_2, .int .i64 x208001_2, .slice none 0 0, .int .i64 x208003_2, .int .i64 x208004_2, .slice none 0 0, .int .i64 x208006_2, .int .i64 x208007_2, .bool x208008_2, .bool x208009_2] 27 (0, 0)) (by (with_reducible repeat (first | refine blk_drewN ?_ _ | refine blk_drew ?_ | refine blk_alloc ?_ _)); exact BK207.out) hb)
                                        have n7_ := Aside0.mk (below_step (by repeat (first | (with_reducible first | exact HB.out | apply below_alloc | apply pw_below_drewN | apply below_drew1 | refine below_set ?_ GE205.out | refine below_set ?_ GE206.out | refine below_set ?_ GE207.out) | exact HB.out)) hb)
                                        clear HO_206002
                                        clear HO_206005
                                        clear HO217
                                        clear BK205
                                        clear BK206
                                        clear BK207
                                        clear HB
                                        have HO_206002 := n0_
                                        have HO_206005 := n1_
                                        have HO217 := n2_
                                        have HO211 := n3_
                                        have BK205 := n4_
                                        have BK206 := n5_
                                        have BK207 := n6_
                                        have HB := n7_
                                        clear n0_ n1_ n2_ n3_ n4_ n5_ n6_ n7_
                                        clear hb ho82
                                        refine hK.out _ _ ⟨(blk_cell BK205.out 0).trans rfl, (blk_cell BK205.out 1).trans rfl, (blk_cell BK205.out 2).trans rfl, (blk_cell BK205.out 3).trans rfl, (blk_cell BK205.out 4).trans rfl, (blk_cell BK205.out 5).trans rfl, (blk_cell BK205.out 6).trans rfl, (blk_cell BK205.out 7).trans rfl, (blk_cell BK205.out 8).trans rfl, (blk_cell BK205.out 9).trans rfl, (blk_cell BK206.out 0).trans rfl, (blk_cell BK206.out 1).trans rfl, (blk_cell BK206.out 2).trans rfl, ((HB.out.cell (World.block_lt_of_cell? w _ hw218_0)).trans hw218_0)⟩ (fun hHeld => ?_)
                                        clear hK K
                                        refine norm_ (a' := ?_) ?_ ?_
                                        rotate_left
                                        · show Act.put _ (some 85) _ = _
                                          simp only [Act.put, List.setIfInBounds_toArray, List.set_cons_zero, List.set_cons_succ, i64_w, i32_w]
                                          rfl
                                        refine one_ (i := 3) (N := some 88) #[true, true, true, true, true, true, true, true, true, true, false, false, false, false, false] rfl rfl (one_of HT_.out (by kernel_rfl)) (by decide) (fun K hK => ?_)
                                        refine Kd.N_append_rows_step (Kd.slice 5 (Kd.int .u8)) (w0 := w) w.heap.size (by rfl) (.tmp 85) (.tmp 87) 25 34 (.slice none 0 0) 24 rfl Try.underlying25 info34 rfl (by decide) (by omega) v210 y209 x206005_4 _ _ _ (fun k_ => ((P0_2_ k_ ∨ P0_5_ k_) ∨ w.heap.size ≤ k_) ∧ some k_ ≠ (v216 : Value).ownBlock ∧ k_ ≠ gb205 ∧ k_ ≠ gb206 ∧ k_ ≠ gb207) (fun k_ => ((fun k_ => ((P0_2_ k_ ∨ P0_5_ k_) ∨ w.heap.size ≤ k_) ∧ some k_ ≠ (v216 : Value).ownBlock ∧ k_ ≠ gb205 ∧ k_ ≠ gb206 ∧ k_ ≠ gb207)) k_ ∧ some k_ ≠ (v210 : Value).ownBlock) rfl rfl ?aO ?aR (fun _ hk => hk) ?aF ?aB ?aS ?aL ?_
                                        (case aR => exact (by skip; exact Kd.V_F (Kd.V_mono (ok' := (fun k_ => ((fun k_ => ((P0_2_ k_ ∨ P0_5_ k_) ∨ w.heap.size ≤ k_) ∧ some k_ ≠ (v216 : Value).ownBlock ∧ k_ ≠ gb205 ∧ k_ ≠ gb206 ∧ k_ ≠ gb207)) k_ ∧ some k_ ≠ (v210 : Value).ownBlock)) (HO_206005.out) (fun k_ hk => ⟨⟨hk.1.1.1, ⟨hk.1.2, ⟨hk.1.1.2.1, ⟨hk.1.1.2.2.1, hk.1.1.2.2.2⟩⟩⟩⟩, hk.2⟩))))
                                        (case aB => exact (by repeat (first | (with_reducible first | exact HB.out | apply below_alloc | apply pw_below_drewN | apply below_drew1 | refine below_set ?_ GE205.out | refine below_set ?_ GE206.out | refine below_set ?_ GE207.out) | exact HB.out)))
                                        (case aF => exact (fun k_ hk => ⟨(.inr (Nat.le_trans (below_size (by repeat (first | (with_reducible first | exact HB.out | apply below_alloc | apply pw_below_drewN | apply below_drew1 | refine below_set ?_ GE205.out | refine below_set ?_ GE206.out | refine below_set ?_ GE207.out) | exact HB.out))) hk)), Kd.fresh' (Kd.R_lt (by (with_reducible repeat (first | apply Kd.R_alloc | apply Kd.R_drewN | apply Kd.R_drew)); exact HO217.out)) k_ hk, Kd.freshB (g := gb205) (o := .cells #[.int .i64 a0_0, .int .i64 a0_1, .slice A0_2 l0_2.length c0_2, .int .i64 ji42, .int .i64 ji43, .slice Ao77 x206005_4.length co77, .int .i64 a0_6, .int .i64 a0_7, .bool a0_8, .bool x206009_43] 27 (0, 0)) (by (with_reducible repeat (first | refine blk_drewN ?_ _ | refine blk_drew ?_ | refine blk_alloc ?_ _)); exact BK205.out) k_ hk, Kd.freshB (g := gb206) (o := .cells #[.int .i64 a1_0, .slice (some ad218) l1_1.length c1_1, .int .i64 a1_2] 68 (0, 0)) (by (with_reducible repeat (first | refine blk_drewN ?_ _ | refine blk_drew ?_ | refine blk_alloc ?_ _)); exact BK206.out) k_ hk, Kd.freshB (g := gb207) (o := .cells #[.int .i64 x208000_2, .int .i64 x208001_2, .slice none 0 0, .int .i64 x208003_2, .int .i64 x208004_2, .slice none 0 0, .int .i64 x208006_2, .int .i64 x208007_2, .bool x208008_2, .bool x208009_2] 27 (0, 0)) (by (with_reducible repeat (first | refine blk_drewN ?_ _ | refine blk_drew ?_ | refine blk_alloc ?_ _)); exact BK207.out) k_ hk⟩))
                                        (case aO => exact (by (with_reducible repeat (first | apply Kd.N_alloc | apply Kd.N_drewN | apply Kd.N_drew)); exact HO211.out))
                                        (case aS => exact (below_size (by repeat (first | (with_reducible first | exact HB.out | apply below_alloc | apply pw_below_drewN | apply below_drew1 | refine below_set ?_ GE205.out | refine below_set ?_ GE206.out | refine below_set ?_ GE207.out) | exact HB.out))))
                                        (case aL => have := LMc68.out; omega)
                                        intro v213 w83 ho hb hg hat
                                        rw [← Ny212.out] at ho
                                        have n0_ := Aside0.mk (Kd.V_afterv (ok := (fun k_ => ((P0_2_ k_ ∨ P0_5_ k_) ∨ w.heap.size ≤ k_) ∧ some k_ ≠ (v216 : Value).ownBlock ∧ k_ ≠ gb205 ∧ k_ ≠ gb206 ∧ k_ ≠ gb207)) (by (with_reducible repeat (first | apply Kd.V_alloc | apply Kd.V_drewN | apply Kd.V_drew)); exact Kd.V_mono HO_206002.out (fun _ hk => ⟨⟨hk.1.1.1, ⟨hk.1.2, ⟨hk.1.1.2.1, ⟨hk.1.1.2.2.1, hk.1.1.2.2.2⟩⟩⟩⟩, hk.2⟩)) hg hat)
                                        have n1_ := Aside0.mk (Kd.V_afterv (ok := (fun k_ => ((P0_2_ k_ ∨ P0_5_ k_) ∨ w.heap.size ≤ k_) ∧ some k_ ≠ (v216 : Value).ownBlock ∧ k_ ≠ gb205 ∧ k_ ≠ gb206 ∧ k_ ≠ gb207)) (by (with_reducible repeat (first | apply Kd.V_alloc | apply Kd.V_drewN | apply Kd.V_drew)); exact Kd.V_mono HO_206005.out (fun _ hk => ⟨⟨hk.1.1.1, ⟨hk.1.2, ⟨hk.1.1.2.1, ⟨hk.1.1.2.2.1, hk.1.1.2.2.2⟩⟩⟩⟩, hk.2⟩)) hg hat)
                                        have n2_ := Aside0.mk (blk_grown (g := gb205) (o := .cells #[.int .i64 a0_0, .int .i64 a0_1, .slice A0_2 l0_2.length c0_2, .int .i64 ji42, .int .i64 ji43, .slice Ao77 x206005_4.length co77, .int .i64 a0_6, .int .i64 a0_7, .bool a0_8, .bool x206009_43] 27 (0, 0)) (by (with_reducible repeat (first | refine blk_drewN ?_ _ | refine blk_drew ?_ | refine blk_alloc ?_ _)); exact BK205.out) hg (Kd.N_ne HO211.out BK205.out (by decide)))
                                        have n3_ := Aside0.mk (blk_grown (g := gb206) (o := .cells #[.int .i64 a1_0, .slice (some ad218) l1_1.length c1_1, .int .i64 a1_2] 68 (0, 0)) (by (with_reducible repeat (first | refine blk_drewN ?_ _ | refine blk_drew ?_ | refine blk_alloc ?_ _)); exact BK206.out) hg (Kd.N_ne HO211.out BK206.out (by decide)))
                                        have n4_ := Aside0.mk (blk_grown (g := gb207) (o := .cells #[.int .i64 x208000_2, .int .i64 x208001_2, .slice none 0 0, .int .i64 x208003_2, .int .i64 x208004_2, .slice none 0 0, .int .i64 x208006_2, .int .i64 x208007_2, .bool x208008_2, .bool x208009_2] 27 (0, 0)) (by (with_reducible repeat (first | refine blk_drewN ?_ _ | refine blk_drew ?_ | refine blk_alloc ?_ _)); exact BK207.out) hg (Kd.N_ne HO211.out BK207.out (by decide)))
                                        have n5_ := Aside0.mk (Kd.R_over' (by (with_reducible repeat (first | apply Kd.R_alloc | apply Kd.R_drewN | apply Kd.R_drew)); exact HO217.out) (Kd.N_typed (by (with_reducible repeat (first | apply Kd.N_alloc | apply Kd.N_drewN | apply Kd.N_drew)); exact HO211.out)) (by decide) hg)
                                        have n6_ := Aside0.mk (hb)
                                        have n7_ := Aside0.mk (ho)
                                        clear HO_206002
                                        clear HO_206005
                                        clear BK205
                                        clear BK206
                                        clear BK207
                                        clear HO217
                                        clear HB
                                        clear HO211
                                        have HO_206002 := n0_
                                        have HO_206005 := n1_
                                        have BK205 := n2_
                                        have BK206 := n3_
                                        have BK207 := n4_
                                        have HO217 := n5_
                                        have HB := n6_
                                        have HO214 := n7_
                                        clear n0_ n1_ n2_ n3_ n4_ n5_ n6_ n7_
                                        clear ho hb hg hat
                                        refine hK.out _ _ ⟨(blk_cell BK205.out 0).trans rfl, (blk_cell BK205.out 1).trans rfl, (blk_cell BK205.out 2).trans rfl, (blk_cell BK205.out 3).trans rfl, (blk_cell BK205.out 4).trans rfl, (blk_cell BK205.out 5).trans rfl, (blk_cell BK205.out 6).trans rfl, (blk_cell BK205.out 7).trans rfl, (blk_cell BK205.out 8).trans rfl, (blk_cell BK205.out 9).trans rfl, (blk_cell BK206.out 0).trans rfl, (blk_cell BK206.out 1).trans rfl, (blk_cell BK206.out 2).trans rfl, ((HB.out.cell (World.block_lt_of_cell? w _ hw218_0)).trans hw218_0)⟩ (fun hHeld => ?_)
                                        clear hK K
                                        refine norm_ (a' := ?_) ?_ ?_
                                        rotate_left
                                        · show Act.put _ (some 88) _ = _
                                          simp only [Act.put, List.setIfInBounds_toArray, List.set_cons_zero, List.set_cons_succ, i64_w, i32_w]
                                          rfl
                                        exact norm_ (by simp only [putAll, Act.put, List.setIfInBounds_toArray, List.set_cons_zero, List.set_cons_succ]) (hCont (v210, v213, v216) _ ⟨hHeld, (by (with_reducible repeat (first | apply Kd.N_alloc | apply Kd.N_drewN | apply Kd.N_drew)); exact HO214.out), (by (with_reducible repeat (first | apply Kd.R_alloc | apply Kd.R_drewN | apply Kd.R_drew)); exact Kd.R_mono HO217.out (fun _ hk => hk.1)), (by (with_reducible repeat (first | apply Kd.V_alloc | apply Kd.V_drewN | apply Kd.V_drew)); exact Kd.V_mono HO_206002.out (fun _ hk => ⟨hk.1.1, ⟨hk.2, ⟨hk.1.2.1, ⟨hk.1.2.2.1, ⟨hk.1.2.2.2.1, hk.1.2.2.2.2⟩⟩⟩⟩⟩)), (by (with_reducible repeat (first | apply Kd.V_alloc | apply Kd.V_drewN | apply Kd.V_drew)); exact Kd.V_mono HO_206005.out (fun _ hk => ⟨hk.1.1, ⟨hk.2, ⟨hk.1.2.1, ⟨hk.1.2.2.1, ⟨hk.1.2.2.2.1, hk.1.2.2.2.2⟩⟩⟩⟩⟩)), (by (with_reducible repeat (first | refine blk_drewN ?_ _ | refine blk_drew ?_ | refine blk_alloc ?_ _)); exact BK205.out), (by (with_reducible repeat (first | refine blk_drewN ?_ _ | refine blk_drew ?_ | refine blk_alloc ?_ _)); exact BK206.out), (by (with_reducible repeat (first | refine blk_drewN ?_ _ | refine blk_drew ?_ | refine blk_alloc ?_ _)); exact BK207.out), (by repeat (first | (with_reducible first | exact HB.out | apply below_alloc | apply pw_below_drewN | apply below_drew1 | refine below_set ?_ GE205.out | refine below_set ?_ GE206.out | refine below_set ?_ GE207.out) | exact HB.out))⟩)
                                    rintro ⟨v210, v213, v216⟩ w84 ⟨hS_, h0_, h1_, h2_, h3_, h4_, h5_, h6_, h7_⟩
                                    have n0_ : Aside0 (Kd.N (Kd.slice 5 (Kd.int .u8)) 34 w84 w.heap.size (fun k_ => ((P0_2_ k_ ∨ P0_5_ k_) ∨ w.heap.size ≤ k_) ∧ some k_ ≠ (v216 : Value).ownBlock ∧ k_ ≠ gb205 ∧ k_ ≠ gb206 ∧ k_ ≠ gb207) v213 y212) := ⟨h0_⟩
                                    have n1_ : Aside0 (Kd.R (Kd.int .u8) 5 w84 w.heap.size (fun k_ => (w.heap.size ≤ k_)) v216 y215) := ⟨h1_⟩
                                    have n2_ : Aside0 (Kd.V (Kd.slice 5 (Kd.int .u8)) 34 w84 w.heap.size (fun k_ => ((P0_2_ k_ ∨ P0_5_ k_) ∨ w.heap.size ≤ k_) ∧ some k_ ≠ (v213 : Value).ownBlock ∧ some k_ ≠ (v216 : Value).ownBlock ∧ k_ ≠ gb205 ∧ k_ ≠ gb206 ∧ k_ ≠ gb207) (.slice A0_2 l0_2.length c0_2) l0_2) := ⟨h2_⟩
                                    have n3_ : Aside0 (Kd.V (Kd.slice 5 (Kd.int .u8)) 34 w84 w.heap.size (fun k_ => ((P0_2_ k_ ∨ P0_5_ k_) ∨ w.heap.size ≤ k_) ∧ some k_ ≠ (v213 : Value).ownBlock ∧ some k_ ≠ (v216 : Value).ownBlock ∧ k_ ≠ gb205 ∧ k_ ≠ gb206 ∧ k_ ≠ gb207) (.slice Ao77 x206005_4.length co77) x206005_4) := ⟨h3_⟩
                                    have n4_ : Aside0 (w84.heap[gb205]? = some (.cells #[.int .i64 a0_0, .int .i64 a0_1, .slice A0_2 l0_2.length c0_2, .int .i64 ji42, .int .i64 ji43, .slice Ao77 x206005_4.length co77, .int .i64 a0_6, .int .i64 a0_7, .bool a0_8, .bool x206009_43] 27 (0, 0))) := ⟨h4_⟩
                                    have n5_ : Aside0 (w84.heap[gb206]? = some (.cells #[.int .i64 a1_0, .slice (some ad218) l1_1.length c1_1, .int .i64 a1_2] 68 (0, 0))) := ⟨h5_⟩
                                    have n6_ : Aside0 (w84.heap[gb207]? = some (.cells #[.int .i64 x208000_2, .int .i64 x208001_2, .slice none 0 0, .int .i64 x208003_2, .int .i64 x208004_2, .slice none 0 0, .int .i64 x208006_2, .int .i64 x208007_2, .bool x208008_2, .bool x208009_2] 27 (0, 0))) := ⟨h6_⟩
                                    have n7_ : Aside0 (Below w.heap.size w w84) := ⟨h7_⟩
                                    clear HO_206002
                                    clear HO_206005
                                    clear BK205
                                    clear BK206
                                    clear BK207
                                    clear HB
                                    clear h0_ h1_ h2_ h3_ h4_ h5_ h6_ h7_
                                    have HO214 := n0_
                                    have HO217 := n1_
                                    have HO_206002 := n2_
                                    have HO_206005 := n3_
                                    have BK205 := n4_
                                    have BK206 := n5_
                                    have BK207 := n6_
                                    have HB := n7_
                                    clear n0_ n1_ n2_ n3_ n4_ n5_ n6_ n7_
                                    have hHeld : w84.cell? ⟨gb205, 0, none⟩ = some (.int .i64 a0_0) ∧ w84.cell? ⟨gb205, 1, none⟩ = some (.int .i64 a0_1) ∧ w84.cell? ⟨gb205, 2, none⟩ = some (.slice A0_2 l0_2.length c0_2) ∧ w84.cell? ⟨gb205, 3, none⟩ = some (.int .i64 ji42) ∧ w84.cell? ⟨gb205, 4, none⟩ = some (.int .i64 ji43) ∧ w84.cell? ⟨gb205, 5, none⟩ = some (.slice Ao77 x206005_4.length co77) ∧ w84.cell? ⟨gb205, 6, none⟩ = some (.int .i64 a0_6) ∧ w84.cell? ⟨gb205, 7, none⟩ = some (.int .i64 a0_7) ∧ w84.cell? ⟨gb205, 8, none⟩ = some (.bool a0_8) ∧ w84.cell? ⟨gb205, 9, none⟩ = some (.bool x206009_43) ∧ w84.cell? ⟨gb206, 0, none⟩ = some (.int .i64 a1_0) ∧ w84.cell? ⟨gb206, 1, none⟩ = some (.slice (some ad218) l1_1.length c1_1) ∧ w84.cell? ⟨gb206, 2, none⟩ = some (.int .i64 a1_2) ∧ w84.cell? (ad218.add (x7_4).toNat) = some (.slice A218_0 (rd_L1 l1_1 x7_4).length c218_0) := hS_
                                    refine norm_ (a' := ?_) ?_ ?_
                                    rotate_left
                                    · simp only [putAll, Act.put, List.setIfInBounds_toArray, List.set_cons_zero, List.set_cons_succ]
                                      rfl
                                    refine one_ (i := 10) (N := some 95) #[true, true, true, true, true, true, true, true, true, true, true, false, false, false, false] rfl rfl (one_of HT_.out (by kernel_rfl)) (by decide) (fun K hK => ?_)
                                    refine Kd.R_append_rows_step (Kd.int .u8) (w0 := w) w.heap.size (by rfl) (.tmp 89) (.tmp 94) 34 5 (.int .u8 0) 1 rfl Try.underlying34 info5 rfl (by decide) (by omega) v216 y215 (rd_L1 l1_1 x7_4) _ _ _ (fun k_ => (w.heap.size ≤ k_)) (fun _ => False) rfl rfl ?aO ?aR (fun _ _ h => h) (fun _ h => h.elim) ?aF ?aB ?aS ?aL ?_
                                    (case aR => repeat (first | exact (Kd.C_below HR218_0.out HB.out) | (with_reducible refine Kd.C_alloc ?_ _) | (with_reducible refine Kd.C_drewN ?_ _) | (with_reducible refine Kd.C_drew ?_)))
                                    (case aB => exact (by repeat (first | (with_reducible first | exact HB.out | apply below_alloc | apply pw_below_drewN | apply below_drew1 | refine below_set ?_ GE205.out | refine below_set ?_ GE206.out | refine below_set ?_ GE207.out) | exact HB.out)))
                                    (case aF => exact (fun k_ hk => (Nat.le_trans (below_size (by repeat (first | (with_reducible first | exact HB.out | apply below_alloc | apply pw_below_drewN | apply below_drew1 | refine below_set ?_ GE205.out | refine below_set ?_ GE206.out | refine below_set ?_ GE207.out) | exact HB.out))) hk)))
                                    (case aO => exact (by (with_reducible repeat (first | apply Kd.R_alloc | apply Kd.R_drewN | apply Kd.R_drew)); exact HO217.out))
                                    (case aS => exact (below_size (by repeat (first | (with_reducible first | exact HB.out | apply below_alloc | apply pw_below_drewN | apply below_drew1 | refine below_set ?_ GE205.out | refine below_set ?_ GE206.out | refine below_set ?_ GE207.out) | exact HB.out))))
                                    (case aL => have := LMc70.out; omega)
                                    intro v220 w85 ho hb hg hat
                                    rw [← Ny219.out] at ho
                                    have n0_ := Aside0.mk (Kd.V_afterv (ok := (fun k_ => ((P0_2_ k_ ∨ P0_5_ k_) ∨ w.heap.size ≤ k_) ∧ some k_ ≠ (v213 : Value).ownBlock ∧ k_ ≠ gb205 ∧ k_ ≠ gb206 ∧ k_ ≠ gb207)) (by (with_reducible repeat (first | apply Kd.V_alloc | apply Kd.V_drewN | apply Kd.V_drew)); exact Kd.V_mono HO_206002.out (fun _ hk => ⟨⟨hk.1, ⟨hk.2.1, ⟨hk.2.2.2.1, ⟨hk.2.2.2.2.1, hk.2.2.2.2.2⟩⟩⟩⟩, hk.2.2.1⟩)) hg hat)
                                    have n1_ := Aside0.mk (Kd.V_afterv (ok := (fun k_ => ((P0_2_ k_ ∨ P0_5_ k_) ∨ w.heap.size ≤ k_) ∧ some k_ ≠ (v213 : Value).ownBlock ∧ k_ ≠ gb205 ∧ k_ ≠ gb206 ∧ k_ ≠ gb207)) (by (with_reducible repeat (first | apply Kd.V_alloc | apply Kd.V_drewN | apply Kd.V_drew)); exact Kd.V_mono HO_206005.out (fun _ hk => ⟨⟨hk.1, ⟨hk.2.1, ⟨hk.2.2.2.1, ⟨hk.2.2.2.2.1, hk.2.2.2.2.2⟩⟩⟩⟩, hk.2.2.1⟩)) hg hat)
                                    have n2_ := Aside0.mk (blk_grown (g := gb205) (o := .cells #[.int .i64 a0_0, .int .i64 a0_1, .slice A0_2 l0_2.length c0_2, .int .i64 ji42, .int .i64 ji43, .slice Ao77 x206005_4.length co77, .int .i64 a0_6, .int .i64 a0_7, .bool a0_8, .bool x206009_43] 27 (0, 0)) (by (with_reducible repeat (first | refine blk_drewN ?_ _ | refine blk_drew ?_ | refine blk_alloc ?_ _)); exact BK205.out) hg (Kd.R_ne HO217.out BK205.out (by decide)))
                                    have n3_ := Aside0.mk (blk_grown (g := gb206) (o := .cells #[.int .i64 a1_0, .slice (some ad218) l1_1.length c1_1, .int .i64 a1_2] 68 (0, 0)) (by (with_reducible repeat (first | refine blk_drewN ?_ _ | refine blk_drew ?_ | refine blk_alloc ?_ _)); exact BK206.out) hg (Kd.R_ne HO217.out BK206.out (by decide)))
                                    have n4_ := Aside0.mk (blk_grown (g := gb207) (o := .cells #[.int .i64 x208000_2, .int .i64 x208001_2, .slice none 0 0, .int .i64 x208003_2, .int .i64 x208004_2, .slice none 0 0, .int .i64 x208006_2, .int .i64 x208007_2, .bool x208008_2, .bool x208009_2] 27 (0, 0)) (by (with_reducible repeat (first | refine blk_drewN ?_ _ | refine blk_drew ?_ | refine blk_alloc ?_ _)); exact BK207.out) hg (Kd.R_ne HO217.out BK207.out (by decide)))
                                    have n5_ := Aside0.mk (Kd.N_afterv (ok := (fun k_ => ((P0_2_ k_ ∨ P0_5_ k_) ∨ w.heap.size ≤ k_) ∧ k_ ≠ gb205 ∧ k_ ≠ gb206 ∧ k_ ≠ gb207)) (by (with_reducible repeat (first | apply Kd.N_alloc | apply Kd.N_drewN | apply Kd.N_drew)); exact Kd.N_mono HO214.out (fun _ hk => ⟨⟨hk.1, ⟨hk.2.2.1, ⟨hk.2.2.2.1, hk.2.2.2.2⟩⟩⟩, hk.2.1⟩)) hg hat)
                                    have n6_ := Aside0.mk (hb)
                                    have n7_ := Aside0.mk (ho)
                                    clear HO_206002
                                    clear HO_206005
                                    clear BK205
                                    clear BK206
                                    clear BK207
                                    clear HO214
                                    clear HB
                                    clear HO217
                                    have HO_206002 := n0_
                                    have HO_206005 := n1_
                                    have BK205 := n2_
                                    have BK206 := n3_
                                    have BK207 := n4_
                                    have HO214 := n5_
                                    have HB := n6_
                                    have HO221 := n7_
                                    clear n0_ n1_ n2_ n3_ n4_ n5_ n6_ n7_
                                    clear ho hb hg hat
                                    obtain ⟨Ao87, co87, eo87⟩ := Kd.R_slice HO221.out
                                    (first | subst eo87 | (injection eo87 with f1_ f2_ f3_; have f4_ := f1_.symm; have f5_ := f3_.symm; clear f1_ f2_ f3_; subst f4_; subst f5_))
                                    refine hK.out _ _ ⟨(blk_cell BK205.out 0).trans rfl, (blk_cell BK205.out 1).trans rfl, (blk_cell BK205.out 2).trans rfl, (blk_cell BK205.out 3).trans rfl, (blk_cell BK205.out 4).trans rfl, (blk_cell BK205.out 5).trans rfl, (blk_cell BK205.out 6).trans rfl, (blk_cell BK205.out 7).trans rfl, (blk_cell BK205.out 8).trans rfl, (blk_cell BK205.out 9).trans rfl, (blk_cell BK206.out 0).trans rfl, (blk_cell BK206.out 1).trans rfl, (blk_cell BK206.out 2).trans rfl, ((HB.out.cell (World.block_lt_of_cell? w _ hw218_0)).trans hw218_0)⟩ (fun hHeld => ?_)
                                    clear hK K
                                    refine norm_ (a' := ?_) ?_ ?_
                                    rotate_left
                                    · show Act.put _ (some 95) _ = _
                                      simp only [Act.put, List.setIfInBounds_toArray, List.set_cons_zero, List.set_cons_succ, i64_w, i32_w]
                                      rfl
                                    refine one_ (i := 11) (N := some 96) #[true, true, true, true, true, true, true, true, true, true, true, true, false, false, false] rfl rfl (one_of HT_.out (by kernel_rfl)) (by decide) (fun K hK => ?_)
                                    refine value_ (w1 := ?_) (v := ?_) (by rfl) rfl ?_ ?_
                                    rotate_left 2
                                    · go_simp
                                      constructor
                                      · rfl
                                      · rfl
                                    refine hK.out _ _ ⟨(blk_cell (blk_alloc BK205.out _) 0).trans rfl, (blk_cell (blk_alloc BK205.out _) 1).trans rfl, (blk_cell (blk_alloc BK205.out _) 2).trans rfl, (blk_cell (blk_alloc BK205.out _) 3).trans rfl, (blk_cell (blk_alloc BK205.out _) 4).trans rfl, (blk_cell (blk_alloc BK205.out _) 5).trans rfl, (blk_cell (blk_alloc BK205.out _) 6).trans rfl, (blk_cell (blk_alloc BK205.out _) 7).trans rfl, (blk_cell (blk_alloc BK205.out _) 8).trans rfl, (blk_cell (blk_alloc BK205.out _) 9).trans rfl, (blk_cell (blk_alloc BK206.out _) 0).trans rfl, (blk_cell (blk_alloc BK206.out _) 1).trans rfl, (blk_cell (blk_alloc BK206.out _) 2).trans rfl, (World.cell?_alloc_lt _ _ _ (World.block_lt_of_cell? _ _ (((HB.out.cell (World.block_lt_of_cell? w _ hw218_0)).trans hw218_0)))).trans (((HB.out.cell (World.block_lt_of_cell? w _ hw218_0)).trans hw218_0))⟩ (fun hHeld => ?_)
                                    clear hK K
                                    refine norm_ (a' := ?_) ?_ ?_
                                    rotate_left
                                    · show Act.put _ (some 96) _ = _
                                      simp only [Act.put, List.setIfInBounds_toArray, List.set_cons_zero, List.set_cons_succ, i64_w, i32_w]
                                      rfl
                                    refine one_ (i := 12) (N := some 97) #[true, true, true, true, true, true, true, true, true, true, true, true, true, false, false] rfl rfl (one_of HT_.out (by kernel_rfl)) (by decide) (fun K hK => ?_)
                                    refine Kd.N_append_step (Kd.slice 5 (Kd.int .u8)) (w0 := w) w.heap.size (by rfl) (.tmp 88) (.tmp 96) 25 34 (.slice none 0 0) 24 rfl Try.underlying25 info34 rfl (by decide) (by omega) v213 y212 y219 [.slice Ao87 y219.length co87] (fun k_ => ((P0_2_ k_ ∨ P0_5_ k_) ∨ w.heap.size ≤ k_) ∧ k_ ≠ gb205 ∧ k_ ≠ gb206 ∧ k_ ≠ gb207) (fun k_ => ((fun k_ => ((P0_2_ k_ ∨ P0_5_ k_) ∨ w.heap.size ≤ k_) ∧ k_ ≠ gb205 ∧ k_ ≠ gb206 ∧ k_ ≠ gb207)) k_ ∧ some k_ ≠ (v213 : Value).ownBlock) rfl rfl ?aP (fun _ hk => hk) ?aF ?aO ?aB ?aS ?aL ?_
                                    (case aP => exact (Kd.FK_slice_mk (Kd.R_reads' (Kd.R_mono (ok' := (fun k_ => ((fun k_ => ((P0_2_ k_ ∨ P0_5_ k_) ∨ w.heap.size ≤ k_) ∧ k_ ≠ gb205 ∧ k_ ≠ gb206 ∧ k_ ≠ gb207)) k_ ∧ some k_ ≠ (v213 : Value).ownBlock)) (Kd.R_types (Kd.R_types (Kd.R_types (Kd.R_apart' (HO221.out) (Kd.N_typed HO214.out) (by decide)) BK205.out (by decide)) BK206.out (by decide)) BK207.out (by decide)) (fun k_ hk => ⟨⟨(.inr (hk.1.1.1.1)), ⟨hk.1.1.2, ⟨hk.1.2, hk.2⟩⟩⟩, hk.1.1.1.2⟩))).2.1 (Kd.R_F (Kd.R_mono (ok' := (fun k_ => ((fun k_ => ((P0_2_ k_ ∨ P0_5_ k_) ∨ w.heap.size ≤ k_) ∧ k_ ≠ gb205 ∧ k_ ≠ gb206 ∧ k_ ≠ gb207)) k_ ∧ some k_ ≠ (v213 : Value).ownBlock)) (Kd.R_types (Kd.R_types (Kd.R_types (Kd.R_apart' (HO221.out) (Kd.N_typed HO214.out) (by decide)) BK205.out (by decide)) BK206.out (by decide)) BK207.out (by decide)) (fun k_ hk => ⟨⟨(.inr (hk.1.1.1.1)), ⟨hk.1.1.2, ⟨hk.1.2, hk.2⟩⟩⟩, hk.1.1.1.2⟩)))))
                                    (case aB => exact (by repeat (first | (with_reducible first | exact HB.out | apply below_alloc | apply pw_below_drewN | apply below_drew1 | refine below_set ?_ GE205.out | refine below_set ?_ GE206.out | refine below_set ?_ GE207.out) | exact HB.out)))
                                    (case aF => exact (fun k_ hk => ⟨(.inr (Nat.le_trans (below_size (by repeat (first | (with_reducible first | exact HB.out | apply below_alloc | apply pw_below_drewN | apply below_drew1 | refine below_set ?_ GE205.out | refine below_set ?_ GE206.out | refine below_set ?_ GE207.out) | exact HB.out))) hk)), Kd.freshB (g := gb205) (o := .cells #[.int .i64 a0_0, .int .i64 a0_1, .slice A0_2 l0_2.length c0_2, .int .i64 ji42, .int .i64 ji43, .slice Ao77 x206005_4.length co77, .int .i64 a0_6, .int .i64 a0_7, .bool a0_8, .bool x206009_43] 27 (0, 0)) (by (with_reducible repeat (first | refine blk_drewN ?_ _ | refine blk_drew ?_ | refine blk_alloc ?_ _)); exact BK205.out) k_ hk, Kd.freshB (g := gb206) (o := .cells #[.int .i64 a1_0, .slice (some ad218) l1_1.length c1_1, .int .i64 a1_2] 68 (0, 0)) (by (with_reducible repeat (first | refine blk_drewN ?_ _ | refine blk_drew ?_ | refine blk_alloc ?_ _)); exact BK206.out) k_ hk, Kd.freshB (g := gb207) (o := .cells #[.int .i64 x208000_2, .int .i64 x208001_2, .slice none 0 0, .int .i64 x208003_2, .int .i64 x208004_2, .slice none 0 0, .int .i64 x208006_2, .int .i64 x208007_2, .bool x208008_2, .bool x208009_2] 27 (0, 0)) (by (with_reducible repeat (first | refine blk_drewN ?_ _ | refine blk_drew ?_ | refine blk_alloc ?_ _)); exact BK207.out) k_ hk⟩))
                                    (case aO => exact (by (with_reducible repeat (first | apply Kd.N_alloc | apply Kd.N_drewN | apply Kd.N_drew)); exact Kd.N_mono HO214.out (fun _ hk => ⟨hk.1.1, ⟨hk.1.2.1, ⟨hk.1.2.2.1, hk.1.2.2.2⟩⟩⟩)))
                                    (case aS => exact (below_size (by repeat (first | (with_reducible first | exact HB.out | apply below_alloc | apply pw_below_drewN | apply below_drew1 | refine below_set ?_ GE205.out | refine below_set ?_ GE206.out | refine below_set ?_ GE207.out) | exact HB.out))))
                                    (case aL => have := LMc71.out; omega)
                                    intro v223 w86 ho hb hg hat
                                    rw [← Ny222.out] at ho
                                    have n0_ := Aside0.mk (Kd.V_afterv (ok := (fun k_ => ((P0_2_ k_ ∨ P0_5_ k_) ∨ w.heap.size ≤ k_) ∧ some k_ ≠ (.slice Ao87 y219.length co87 : Value).ownBlock ∧ k_ ≠ gb205 ∧ k_ ≠ gb206 ∧ k_ ≠ gb207)) (by (with_reducible repeat (first | apply Kd.V_alloc | apply Kd.V_drewN | apply Kd.V_drew)); exact Kd.V_mono HO_206002.out (fun _ hk => ⟨⟨hk.1.1, ⟨hk.2, ⟨hk.1.2.2.1, ⟨hk.1.2.2.2.1, hk.1.2.2.2.2⟩⟩⟩⟩, hk.1.2.1⟩)) hg hat)
                                    have n1_ := Aside0.mk (Kd.V_afterv (ok := (fun k_ => ((P0_2_ k_ ∨ P0_5_ k_) ∨ w.heap.size ≤ k_) ∧ some k_ ≠ (.slice Ao87 y219.length co87 : Value).ownBlock ∧ k_ ≠ gb205 ∧ k_ ≠ gb206 ∧ k_ ≠ gb207)) (by (with_reducible repeat (first | apply Kd.V_alloc | apply Kd.V_drewN | apply Kd.V_drew)); exact Kd.V_mono HO_206005.out (fun _ hk => ⟨⟨hk.1.1, ⟨hk.2, ⟨hk.1.2.2.1, ⟨hk.1.2.2.2.1, hk.1.2.2.2.2⟩⟩⟩⟩, hk.1.2.1⟩)) hg hat)
                                    have n2_ := Aside0.mk (blk_grown (g := gb205) (o := .cells #[.int .i64 a0_0, .int .i64 a0_1, .slice A0_2 l0_2.length c0_2, .int .i64 ji42, .int .i64 ji43, .slice Ao77 x206005_4.length co77, .int .i64 a0_6, .int .i64 a0_7, .bool a0_8, .bool x206009_43] 27 (0, 0)) (by (with_reducible repeat (first | refine blk_drewN ?_ _ | refine blk_drew ?_ | refine blk_alloc ?_ _)); exact BK205.out) hg (Kd.N_ne HO214.out BK205.out (by decide)))
                                    have n3_ := Aside0.mk (blk_grown (g := gb206) (o := .cells #[.int .i64 a1_0, .slice (some ad218) l1_1.length c1_1, .int .i64 a1_2] 68 (0, 0)) (by (with_reducible repeat (first | refine blk_drewN ?_ _ | refine blk_drew ?_ | refine blk_alloc ?_ _)); exact BK206.out) hg (Kd.N_ne HO214.out BK206.out (by decide)))
                                    have n4_ := Aside0.mk (blk_grown (g := gb207) (o := .cells #[.int .i64 x208000_2, .int .i64 x208001_2, .slice none 0 0, .int .i64 x208003_2, .int .i64 x208004_2, .slice none 0 0, .int .i64 x208006_2, .int .i64 x208007_2, .bool x208008_2, .bool x208009_2] 27 (0, 0)) (by (with_reducible repeat (first | refine blk_drewN ?_ _ | refine blk_drew ?_ | refine blk_alloc ?_ _)); exact BK207.out) hg (Kd.N_ne HO214.out BK207.out (by decide)))
                                    have n5_ := Aside0.mk (hb)
                                    have n6_ := Aside0.mk (ho)
                                    clear HO_206002
                                    clear HO_206005
                                    clear BK205
                                    clear BK206
                                    clear BK207
                                    clear HB
                                    clear HO214
                                    clear HO221
                                    have HO_206002 := n0_
                                    have HO_206005 := n1_
                                    have BK205 := n2_
                                    have BK206 := n3_
                                    have BK207 := n4_
                                    have HB := n5_
                                    have HO224 := n6_
                                    clear n0_ n1_ n2_ n3_ n4_ n5_ n6_
                                    clear ho hb hg hat
                                    obtain ⟨Ao88, co88, eo88⟩ := Kd.N_slice HO224.out
                                    (first | subst eo88 | (injection eo88 with f1_ f2_ f3_; have f4_ := f1_.symm; have f5_ := f3_.symm; clear f1_ f2_ f3_; subst f4_; subst f5_))
                                    refine hK.out _ _ ⟨(blk_cell BK205.out 0).trans rfl, (blk_cell BK205.out 1).trans rfl, (blk_cell BK205.out 2).trans rfl, (blk_cell BK205.out 3).trans rfl, (blk_cell BK205.out 4).trans rfl, (blk_cell BK205.out 5).trans rfl, (blk_cell BK205.out 6).trans rfl, (blk_cell BK205.out 7).trans rfl, (blk_cell BK205.out 8).trans rfl, (blk_cell BK205.out 9).trans rfl, (blk_cell BK206.out 0).trans rfl, (blk_cell BK206.out 1).trans rfl, (blk_cell BK206.out 2).trans rfl, ((HB.out.cell (World.block_lt_of_cell? w _ hw218_0)).trans hw218_0)⟩ (fun hHeld => ?_)
                                    clear hK K
                                    refine norm_ (a' := ?_) ?_ ?_
                                    rotate_left
                                    · show Act.put _ (some 97) _ = _
                                      simp only [Act.put, List.setIfInBounds_toArray, List.set_cons_zero, List.set_cons_succ, i64_w, i32_w]
                                      rfl
                                    refine pure_ (i := 13) (N := some 98) (v := ?_) (a' := ?_) #[true, true, true, true, true, true, true, true, true, true, true, true, true, true, false] rfl rfl (any_of HT_.out (by kernel_rfl)) (fun _ _ _ h => h) (Or.inl ⟨by rfl, ?_⟩) ?_ ?_
                                    rotate_left
                                    · intro w'
                                      go_simp
                                      with_reducible rfl
                                    rotate_left
                                    · simp only [Act.put, List.setIfInBounds_toArray, List.set_cons_zero, List.set_cons_succ, i64_w, i32_w]
                                      rfl
                                    refine last_ (i := 14) (N := none) #[true, true, true, true, true, true, true, true, true, true, true, true, true, true, true] rfl rfl (one_of HT_.out (by kernel_rfl)) (by decide) (fun K hK => ?_)
                                    have hs89 : w86.cell? ⟨gb205, 5, none⟩ = some (.slice Ao77 x206005_4.length co77) := (blk_cell BK205.out 5).trans rfl
                                    have hfs89 := blk_frozen BK205.out 5
                                    have hns89_1 := NB206_205.out
                                    have hns89_2 := NB207_205.out
                                    have hms89_1 := NB205_206.out
                                    have hms89_2 := NB205_207.out
                                    refine skip_ (w1 := ?_) (by rfl) rfl ?_ ?_
                                    rotate_left
                                    · go_simp
                                      rfl
                                    refine hK.out _ _ ?_
                                    clear hK K
                                    refine done_ (done_of HT_.out (by kernel_rfl)) ?_
                                    try go_wp2
                                    go_roundg k4
                                    case measure => have := HJ2.out; have := HK2.out; have := HJ43.out; have := HK4.out; omega
                                    case rel => exact ⟨(wrap64 (x7_4 + 1)), (y222), (.slice Ao88 y222.length co88), (by first | rfl | (simp; done) | (simp [*]; done)), H', ⟨by have := HJ2.out; have := HK2.out; have := HJ43.out; have := HK4.out; omega⟩, ⟨by (with_reducible repeat (first | apply Kd.V_alloc | apply Kd.V_drewN | apply Kd.V_drew)); exact Kd.V_mono (Kd.V_far (p := ⟨gb205, 5, none⟩) (Kd.V_mono HO_206002.out (fun k_ hk => (⟨hk, hk.1.2.2.1⟩ : _ ∧ k_ ≠ gb205))) (fun _ hk => hk.2) (.slice Ao88 y222.length co88)) (fun _ hk => ⟨hk.1.1.1, ⟨hk.1.1.2.2.1, ⟨hk.1.1.2.2.2.1, hk.1.1.2.2.2.2⟩⟩⟩)⟩, ⟨Kd.N_V (by (with_reducible repeat (first | apply Kd.N_alloc | apply Kd.N_drewN | apply Kd.N_drew)); exact Kd.N_mono (Kd.N_far (p := ⟨gb205, 5, none⟩) (Kd.N_mono HO224.out (fun k_ hk => (⟨hk, hk.2.1⟩ : _ ∧ k_ ≠ gb205))) (fun _ hk => hk.2) (.slice Ao88 y222.length co88)) (fun _ hk => ⟨hk.1.1, ⟨hk.1.2.1, ⟨hk.1.2.2.1, hk.1.2.2.2⟩⟩⟩))⟩, ⟨by (with_reducible repeat (first | refine blk_drewN ?_ _ | refine blk_drew ?_ | refine blk_alloc ?_ _)); refine blk_put (cs := #[.int .i64 a0_0, .int .i64 a0_1, .slice A0_2 l0_2.length c0_2, .int .i64 ji42, .int .i64 ji43, .slice Ao77 x206005_4.length co77, .int .i64 a0_6, .int .i64 a0_7, .bool a0_8, .bool x206009_43]) ?_ 5 _ rfl; (with_reducible repeat (first | refine blk_drewN ?_ _ | refine blk_drew ?_ | refine blk_alloc ?_ _)); exact BK205.out⟩, ⟨by (with_reducible repeat (first | refine blk_drewN ?_ _ | refine blk_drew ?_ | refine blk_alloc ?_ _)); refine blk_far ?_ NB206_205.out _; (with_reducible repeat (first | refine blk_drewN ?_ _ | refine blk_drew ?_ | refine blk_alloc ?_ _)); exact BK206.out⟩, ⟨by (with_reducible repeat (first | refine blk_drewN ?_ _ | refine blk_drew ?_ | refine blk_alloc ?_ _)); refine blk_far ?_ NB207_205.out _; (with_reducible repeat (first | refine blk_drewN ?_ _ | refine blk_drew ?_ | refine blk_alloc ?_ _)); exact BK207.out⟩, ⟨by repeat (first | (with_reducible first | exact HB.out | apply below_alloc | apply pw_below_drewN | apply below_drew1 | refine below_set ?_ GE205.out | refine below_set ?_ GE206.out | refine below_set ?_ GE207.out) | exact HB.out)⟩⟩
                                  · rw [if_neg c71] at H
                                    exact absurd H (by simp)
                                · rw [if_neg c70] at H
                                  exact absurd H (by simp)
                              · rw [if_neg c69] at H
                                exact absurd H (by simp)
                            · rw [if_neg c68] at H
                              exact absurd H (by simp)
                          · rw [if_neg c67] at H
                            have c67b0 : ((wrap64 (a1_0 + x7_4)) == (x206005_4.length : Int)) = false := beq_eq_false_iff_ne.mpr c67
                            have c67b1 : ((wrap64 (a1_0 + x7_4)) != (x206005_4.length : Int)) = true := bne_iff_ne.mpr c67
                            have H' := Aside0.mk H
                            clear H
                            have hnb90 := NB206_205.out
                            have hnc90 := NB205_206.out
                            have hnb91 := NB206_207.out
                            have hnc91 := NB207_206.out
                            have hcz92_0 : wr.cell? ⟨gb206, 0, none⟩ = some (.int .i64 a1_0) := (blk_cell BK206.out 0).trans rfl
                            have hcz92_1 : wr.cell? ⟨gb206, 1, none⟩ = some (.slice A1_1 l1_1.length c1_1) := (blk_cell BK206.out 1).trans rfl
                            have hcz92_2 : wr.cell? ⟨gb206, 2, none⟩ = some (.int .i64 a1_2) := (blk_cell BK206.out 2).trans rfl
                            have hfz92_0 := blk_frozen BK206.out 0
                            have hfz92_1 := blk_frozen BK206.out 1
                            have hfz92_2 := blk_frozen BK206.out 2
                            have hnb93 := NB205_207.out
                            have hnc93 := NB207_205.out
                            have hcz94_0 : wr.cell? ⟨gb205, 0, none⟩ = some (.int .i64 a0_0) := (blk_cell BK205.out 0).trans rfl
                            have hcz94_1 : wr.cell? ⟨gb205, 1, none⟩ = some (.int .i64 a0_1) := (blk_cell BK205.out 1).trans rfl
                            have hcz94_2 : wr.cell? ⟨gb205, 2, none⟩ = some (.slice A0_2 l0_2.length c0_2) := (blk_cell BK205.out 2).trans rfl
                            have hcz94_3 : wr.cell? ⟨gb205, 3, none⟩ = some (.int .i64 ji42) := (blk_cell BK205.out 3).trans rfl
                            have hcz94_4 : wr.cell? ⟨gb205, 4, none⟩ = some (.int .i64 ji43) := (blk_cell BK205.out 4).trans rfl
                            have hcz94_5 : wr.cell? ⟨gb205, 5, none⟩ = some (u206005) := (blk_cell BK205.out 5).trans rfl
                            have hcz94_6 : wr.cell? ⟨gb205, 6, none⟩ = some (.int .i64 a0_6) := (blk_cell BK205.out 6).trans rfl
                            have hcz94_7 : wr.cell? ⟨gb205, 7, none⟩ = some (.int .i64 a0_7) := (blk_cell BK205.out 7).trans rfl
                            have hcz94_8 : wr.cell? ⟨gb205, 8, none⟩ = some (.bool a0_8) := (blk_cell BK205.out 8).trans rfl
                            have hcz94_9 : wr.cell? ⟨gb205, 9, none⟩ = some (.bool x206009_43) := (blk_cell BK205.out 9).trans rfl
                            have hfz94_0 := blk_frozen BK205.out 0
                            have hfz94_1 := blk_frozen BK205.out 1
                            have hfz94_2 := blk_frozen BK205.out 2
                            have hfz94_3 := blk_frozen BK205.out 3
                            have hfz94_4 := blk_frozen BK205.out 4
                            have hfz94_5 := blk_frozen BK205.out 5
                            have hfz94_6 := blk_frozen BK205.out 6
                            have hfz94_7 := blk_frozen BK205.out 7
                            have hfz94_8 := blk_frozen BK205.out 8
                            have hfz94_9 := blk_frozen BK205.out 9
                            obtain ⟨Ao95, co95, eo95⟩ := Kd.V_slice HO_206005.out
                            subst eo95
                            go_wp2
                            go_roundg k4
                            case measure => have := HJ2.out; have := HK2.out; have := HJ43.out; have := HK4.out; omega
                            case rel => exact ⟨(wrap64 (x7_4 + 1)), (x206005_4), (.slice Ao95 x206005_4.length co95), (by first | rfl | (simp; done) | (simp [*]; done)), H', ⟨by have := HJ2.out; have := HK2.out; have := HJ43.out; have := HK4.out; omega⟩, ⟨by (with_reducible repeat (first | apply Kd.V_alloc | apply Kd.V_drewN | apply Kd.V_drew)); exact HO_206002.out⟩, ⟨by (with_reducible repeat (first | apply Kd.V_alloc | apply Kd.V_drewN | apply Kd.V_drew)); exact HO_206005.out⟩, ⟨by (with_reducible repeat (first | refine blk_drewN ?_ _ | refine blk_drew ?_ | refine blk_alloc ?_ _)); exact BK205.out⟩, ⟨by (with_reducible repeat (first | refine blk_drewN ?_ _ | refine blk_drew ?_ | refine blk_alloc ?_ _)); exact BK206.out⟩, ⟨by (with_reducible repeat (first | refine blk_drewN ?_ _ | refine blk_drew ?_ | refine blk_alloc ?_ _)); exact BK207.out⟩, ⟨by repeat (first | (with_reducible first | exact HB.out | apply below_alloc | apply pw_below_drewN | apply below_drew1 | refine below_set ?_ GE205.out | refine below_set ?_ GE206.out | refine below_set ?_ GE207.out) | exact HB.out)⟩⟩
                        · rw [if_neg c66] at H
                          have c66b0 : decide (x7_4 < (l1_1.length : Int)) = false := decide_eq_false c66
                          clear c66
                          simp only [Option.some.injEq, Prod.mk.injEq] at H
                          obtain ⟨rfl, rfl, rfl, rfl, rfl, rfl, rfl, rfl, rfl, rfl, rfl⟩ := H
                          have hnb96 := NB206_205.out
                          have hnc96 := NB205_206.out
                          have hnb97 := NB206_207.out
                          have hnc97 := NB207_206.out
                          have hcz98_0 : wr.cell? ⟨gb206, 0, none⟩ = some (.int .i64 a1_0) := (blk_cell BK206.out 0).trans rfl
                          have hcz98_1 : wr.cell? ⟨gb206, 1, none⟩ = some (.slice A1_1 l1_1.length c1_1) := (blk_cell BK206.out 1).trans rfl
                          have hcz98_2 : wr.cell? ⟨gb206, 2, none⟩ = some (.int .i64 a1_2) := (blk_cell BK206.out 2).trans rfl
                          have hfz98_0 := blk_frozen BK206.out 0
                          have hfz98_1 := blk_frozen BK206.out 1
                          have hfz98_2 := blk_frozen BK206.out 2
                          have hnb99 := NB205_207.out
                          have hnc99 := NB207_205.out
                          have hcz100_0 : wr.cell? ⟨gb205, 0, none⟩ = some (.int .i64 a0_0) := (blk_cell BK205.out 0).trans rfl
                          have hcz100_1 : wr.cell? ⟨gb205, 1, none⟩ = some (.int .i64 a0_1) := (blk_cell BK205.out 1).trans rfl
                          have hcz100_2 : wr.cell? ⟨gb205, 2, none⟩ = some (.slice A0_2 l0_2.length c0_2) := (blk_cell BK205.out 2).trans rfl
                          have hcz100_3 : wr.cell? ⟨gb205, 3, none⟩ = some (.int .i64 ji42) := (blk_cell BK205.out 3).trans rfl
                          have hcz100_4 : wr.cell? ⟨gb205, 4, none⟩ = some (.int .i64 ji43) := (blk_cell BK205.out 4).trans rfl
                          have hcz100_5 : wr.cell? ⟨gb205, 5, none⟩ = some (u206005) := (blk_cell BK205.out 5).trans rfl
                          have hcz100_6 : wr.cell? ⟨gb205, 6, none⟩ = some (.int .i64 a0_6) := (blk_cell BK205.out 6).trans rfl
                          have hcz100_7 : wr.cell? ⟨gb205, 7, none⟩ = some (.int .i64 a0_7) := (blk_cell BK205.out 7).trans rfl
                          have hcz100_8 : wr.cell? ⟨gb205, 8, none⟩ = some (.bool a0_8) := (blk_cell BK205.out 8).trans rfl
                          have hcz100_9 : wr.cell? ⟨gb205, 9, none⟩ = some (.bool x206009_43) := (blk_cell BK205.out 9).trans rfl
                          have hfz100_0 := blk_frozen BK205.out 0
                          have hfz100_1 := blk_frozen BK205.out 1
                          have hfz100_2 := blk_frozen BK205.out 2
                          have hfz100_3 := blk_frozen BK205.out 3
                          have hfz100_4 := blk_frozen BK205.out 4
                          have hfz100_5 := blk_frozen BK205.out 5
                          have hfz100_6 := blk_frozen BK205.out 6
                          have hfz100_7 := blk_frozen BK205.out 7
                          have hfz100_8 := blk_frozen BK205.out 8
                          have hfz100_9 := blk_frozen BK205.out 9
                          have hcz101_0 : wr.cell? ⟨gb207, 0, none⟩ = some (.int .i64 x208000_2) := (blk_cell BK207.out 0).trans rfl
                          have hcz101_1 : wr.cell? ⟨gb207, 1, none⟩ = some (.int .i64 x208001_2) := (blk_cell BK207.out 1).trans rfl
                          have hcz101_2 : wr.cell? ⟨gb207, 2, none⟩ = some (.slice none 0 0) := (blk_cell BK207.out 2).trans rfl
                          have hcz101_3 : wr.cell? ⟨gb207, 3, none⟩ = some (.int .i64 x208003_2) := (blk_cell BK207.out 3).trans rfl
                          have hcz101_4 : wr.cell? ⟨gb207, 4, none⟩ = some (.int .i64 x208004_2) := (blk_cell BK207.out 4).trans rfl
                          have hcz101_5 : wr.cell? ⟨gb207, 5, none⟩ = some (.slice none 0 0) := (blk_cell BK207.out 5).trans rfl
                          have hcz101_6 : wr.cell? ⟨gb207, 6, none⟩ = some (.int .i64 x208006_2) := (blk_cell BK207.out 6).trans rfl
                          have hcz101_7 : wr.cell? ⟨gb207, 7, none⟩ = some (.int .i64 x208007_2) := (blk_cell BK207.out 7).trans rfl
                          have hcz101_8 : wr.cell? ⟨gb207, 8, none⟩ = some (.bool x208008_2) := (blk_cell BK207.out 8).trans rfl
                          have hcz101_9 : wr.cell? ⟨gb207, 9, none⟩ = some (.bool x208009_2) := (blk_cell BK207.out 9).trans rfl
                          have hfz101_0 := blk_frozen BK207.out 0
                          have hfz101_1 := blk_frozen BK207.out 1
                          have hfz101_2 := blk_frozen BK207.out 2
                          have hfz101_3 := blk_frozen BK207.out 3
                          have hfz101_4 := blk_frozen BK207.out 4
                          have hfz101_5 := blk_frozen BK207.out 5
                          have hfz101_6 := blk_frozen BK207.out 6
                          have hfz101_7 := blk_frozen BK207.out 7
                          have hfz101_8 := blk_frozen BK207.out 8
                          have hfz101_9 := blk_frozen BK207.out 9
                          obtain ⟨Ao102, co102, eo102⟩ := Kd.V_slice HO_206005.out
                          subst eo102
                          go_wp2
                          refine bodyPost_ret (results_ct rfl _ _ gb207 27 #[.int .i64 a0_0, .int .i64 a0_1, .slice A0_2 l0_2.length c0_2, .int .i64 ji42, .int .i64 ji43, .slice Ao102 x206005_4.length co102, .int .i64 a0_6, .int .i64 a0_7, .bool a0_8, .bool x206009_43] (0, 0) _ rfl (by (with_reducible repeat (first | refine blk_drewN ?_ _ | refine blk_drew ?_ | refine blk_alloc ?_ _)); refine blk_put (cs := #[.int .i64 a0_0, .int .i64 a0_1, .slice A0_2 l0_2.length c0_2, .int .i64 ji42, .int .i64 ji43, .slice Ao102 x206005_4.length co102, .int .i64 a0_6, .int .i64 a0_7, .bool a0_8, .bool x208009_2]) ?_ 9 _ rfl; (with_reducible repeat (first | refine blk_drewN ?_ _ | refine blk_drew ?_ | refine blk_alloc ?_ _)); refine blk_put (cs := #[.int .i64 a0_0, .int .i64 a0_1, .slice A0_2 l0_2.length c0_2, .int .i64 ji42, .int .i64 ji43, .slice Ao102 x206005_4.length co102, .int .i64 a0_6, .int .i64 a0_7, .bool x208008_2, .bool x208009_2]) ?_ 8 _ rfl; (with_reducible repeat (first | refine blk_drewN ?_ _ | refine blk_drew ?_ | refine blk_alloc ?_ _)); refine blk_put (cs := #[.int .i64 a0_0, .int .i64 a0_1, .slice A0_2 l0_2.length c0_2, .int .i64 ji42, .int .i64 ji43, .slice Ao102 x206005_4.length co102, .int .i64 a0_6, .int .i64 x208007_2, .bool x208008_2, .bool x208009_2]) ?_ 7 _ rfl; (with_reducible repeat (first | refine blk_drewN ?_ _ | refine blk_drew ?_ | refine blk_alloc ?_ _)); refine blk_put (cs := #[.int .i64 a0_0, .int .i64 a0_1, .slice A0_2 l0_2.length c0_2, .int .i64 ji42, .int .i64 ji43, .slice Ao102 x206005_4.length co102, .int .i64 x208006_2, .int .i64 x208007_2, .bool x208008_2, .bool x208009_2]) ?_ 6 _ rfl; (with_reducible repeat (first | refine blk_drewN ?_ _ | refine blk_drew ?_ | refine blk_alloc ?_ _)); refine blk_put (cs := #[.int .i64 a0_0, .int .i64 a0_1, .slice A0_2 l0_2.length c0_2, .int .i64 ji42, .int .i64 ji43, .slice none 0 0, .int .i64 x208006_2, .int .i64 x208007_2, .bool x208008_2, .bool x208009_2]) ?_ 5 _ rfl; (with_reducible repeat (first | refine blk_drewN ?_ _ | refine blk_drew ?_ | refine blk_alloc ?_ _)); refine blk_put (cs := #[.int .i64 a0_0, .int .i64 a0_1, .slice A0_2 l0_2.length c0_2, .int .i64 ji42, .int .i64 x208004_2, .slice none 0 0, .int .i64 x208006_2, .int .i64 x208007_2, .bool x208008_2, .bool x208009_2]) ?_ 4 _ rfl; (with_reducible repeat (first | refine blk_drewN ?_ _ | refine blk_drew ?_ | refine blk_alloc ?_ _)); refine blk_put (cs := #[.int .i64 a0_0, .int .i64 a0_1, .slice A0_2 l0_2.length c0_2, .int .i64 x208003_2, .int .i64 x208004_2, .slice none 0 0, .int .i64 x208006_2, .int .i64 x208007_2, .bool x208008_2, .bool x208009_2]) ?_ 3 _ rfl; (with_reducible repeat (first | refine blk_drewN ?_ _ | refine blk_drew ?_ | refine blk_alloc ?_ _)); refine blk_put (cs := #[.int .i64 a0_0, .int .i64 a0_1, .slice none 0 0, .int .i64 x208003_2, .int .i64 x208004_2, .slice none 0 0, .int .i64 x208006_2, .int .i64 x208007_2, .bool x208008_2, .bool x208009_2]) ?_ 2 _ rfl; (with_reducible repeat (first | refine blk_drewN ?_ _ | refine blk_drew ?_ | refine blk_alloc ?_ _)); refine blk_put (cs := #[.int .i64 a0_0, .int .i64 x208001_2, .slice none 0 0, .int .i64 x208003_2, .int .i64 x208004_2, .slice none 0 0, .int .i64 x208006_2, .int .i64 x208007_2, .bool x208008_2, .bool x208009_2]) ?_ 1 _ rfl; (with_reducible repeat (first | refine blk_drewN ?_ _ | refine blk_drew ?_ | refine blk_alloc ?_ _)); refine blk_put (cs := #[.int .i64 x208000_2, .int .i64 x208001_2, .slice none 0 0, .int .i64 x208003_2, .int .i64 x208004_2, .slice none 0 0, .int .i64 x208006_2, .int .i64 x208007_2, .bool x208008_2, .bool x208009_2]) ?_ 0 _ rfl; (with_reducible repeat (first | refine blk_drewN ?_ _ | refine blk_drew ?_ | refine blk_alloc ?_ _)); exact BK207.out) Try.underlying27 rfl (by kernel_rfl)) rfl ?_
                          exact ⟨_, _, by first | rfl | (simp [errW_none, errW_some] <;> rfl) | (simp only [← hji42, ← hji43]; first | rfl | (simp [errW_none, errW_some] <;> rfl)) | (simp [*, errW_none, errW_some] <;> rfl), by (with_reducible repeat (first | apply Kd.V_alloc | apply Kd.V_drewN | apply Kd.V_drew)); exact Kd.V_mono (Kd.V_far (p := ⟨gb207, 9, none⟩) (Kd.V_far (p := ⟨gb207, 8, none⟩) (Kd.V_far (p := ⟨gb207, 7, none⟩) (Kd.V_far (p := ⟨gb207, 6, none⟩) (Kd.V_far (p := ⟨gb207, 5, none⟩) (Kd.V_far (p := ⟨gb207, 4, none⟩) (Kd.V_far (p := ⟨gb207, 3, none⟩) (Kd.V_far (p := ⟨gb207, 2, none⟩) (Kd.V_far (p := ⟨gb207, 1, none⟩) (Kd.V_far (p := ⟨gb207, 0, none⟩) (Kd.V_mono HO_206002.out (fun k_ hk => (⟨hk, hk.2.2.2⟩ : _ ∧ k_ ≠ gb207))) (fun _ hk => hk.2) (.int .i64 a0_0)) (fun _ hk => hk.2) (.int .i64 a0_1)) (fun _ hk => hk.2) (.slice A0_2 l0_2.length c0_2)) (fun _ hk => hk.2) (.int .i64 ji42)) (fun _ hk => hk.2) (.int .i64 ji43)) (fun _ hk => hk.2) (.slice Ao102 x206005_4.length co102)) (fun _ hk => hk.2) (.int .i64 a0_6)) (fun _ hk => hk.2) (.int .i64 a0_7)) (fun _ hk => hk.2) (.bool a0_8)) (fun _ hk => hk.2) (.bool x206009_43)) (fun _ hk => hk.1.1), by (with_reducible repeat (first | apply Kd.V_alloc | apply Kd.V_drewN | apply Kd.V_drew)); exact Kd.V_mono (Kd.V_far (p := ⟨gb207, 9, none⟩) (Kd.V_far (p := ⟨gb207, 8, none⟩) (Kd.V_far (p := ⟨gb207, 7, none⟩) (Kd.V_far (p := ⟨gb207, 6, none⟩) (Kd.V_far (p := ⟨gb207, 5, none⟩) (Kd.V_far (p := ⟨gb207, 4, none⟩) (Kd.V_far (p := ⟨gb207, 3, none⟩) (Kd.V_far (p := ⟨gb207, 2, none⟩) (Kd.V_far (p := ⟨gb207, 1, none⟩) (Kd.V_far (p := ⟨gb207, 0, none⟩) (Kd.V_mono HO_206005.out (fun k_ hk => (⟨hk, hk.2.2.2⟩ : _ ∧ k_ ≠ gb207))) (fun _ hk => hk.2) (.int .i64 a0_0)) (fun _ hk => hk.2) (.int .i64 a0_1)) (fun _ hk => hk.2) (.slice A0_2 l0_2.length c0_2)) (fun _ hk => hk.2) (.int .i64 ji42)) (fun _ hk => hk.2) (.int .i64 ji43)) (fun _ hk => hk.2) (.slice Ao102 x206005_4.length co102)) (fun _ hk => hk.2) (.int .i64 a0_6)) (fun _ hk => hk.2) (.int .i64 a0_7)) (fun _ hk => hk.2) (.bool a0_8)) (fun _ hk => hk.2) (.bool x206009_43)) (fun _ hk => hk.1.1), by repeat (first | (with_reducible first | exact HB.out | apply below_alloc | apply pw_below_drewN | apply below_drew1 | refine below_set ?_ GE205.out | refine below_set ?_ GE206.out | refine below_set ?_ GE207.out) | exact HB.out)⟩

end Go.Proofs.Yteeljnlhgaljaaa.P
