-- Made by a program of this claim's author (extprint.py over the kit's print).
import Derived.Test.YtgnplpmmadbbdaaDoorPx0
import Derived.Test.YtgnplpmmadbbdaaDoorB
namespace Go.Proofs.YtgnplpmmadbbdaaDoor.P
open Go.RowKit Go.Proofs.YtgnplpmmadbbdaaDoorW.PrintWords Go.Proofs.YtgnplpmmadbbdaaDoorW.PrintLast Go.Proofs.YtgnplpmmadbbdaaDoorW.PrintMore
attribute [local go_sem] max2_int min2_int max_two min_two max_three min_three max_four min_four   -- for this text's walks alone
set_option linter.unusedVariables false
set_option linter.unusedSimpArgs false

/-! ### baizeref14_Ints: function 10 -/
def baizeref14_Ints.l0 : Nat → List Int → List Int → Int → Option (Bool)
  | 0, _, _, _ => none
  | k + 1, x0, x1, x5 => if x5 < (x0.length : Int) then (if 0 ≤ x5 then (if x5 < (x1.length : Int) then (if (rd x0 x5) = (rd x1 x5) then (baizeref14_Ints.l0 k x0 x1 (wrap64 (x5 + 1))) else (some false)) else (none)) else (none)) else (some true)
def baizeref14_Ints.f (k : Nat) (l0 : List Int) (l1 : List Int) : Option (Bool) := if (l0.length : Int) = (l1.length : Int) then (baizeref14_Ints.l0 k l0 l1 0) else (some false)
theorem baizeref14_Ints.mono_l : ∀ k, (∀ y0 y1 y2, LeO (baizeref14_Ints.l0 k y0 y1 y2) (baizeref14_Ints.l0 (k + 1) y0 y1 y2))
  | 0 => fun _ _ _ r h => by simp [baizeref14_Ints.l0] at h
  | k + 1 => by
    have ih0 := baizeref14_Ints.mono_l k
    · intro y0 y1 y2
      unfold baizeref14_Ints.l0
      repeat' first
      | (with_reducible exact ih0 _ _ _)
      | (with_reducible exact LeO.refl _)
      | (with_reducible exact LeO.none _)
      | (with_reducible refine LeO.ite ?_ ?_)
      | (with_reducible refine LeO.bind ?_ (fun _ => ?_))
      | exact ih0 _ _ _
      | exact LeO.none _
      | refine LeO.ite ?_ ?_
      | refine LeO.bind ?_ (fun _ => ?_)
theorem baizeref14_Ints.mono : ∀ a0 a1 k, LeO (baizeref14_Ints.f k a0 a1) (baizeref14_Ints.f (k + 1) a0 a1) := by
  intro a0 a1 k
  have ih0 := baizeref14_Ints.mono_l k
  unfold baizeref14_Ints.f
  repeat' first
      | (with_reducible exact ih0 _ _ _)
      | (with_reducible exact LeO.refl _)
      | (with_reducible exact LeO.none _)
      | (with_reducible refine LeO.ite ?_ ?_)
      | (with_reducible refine LeO.bind ?_ (fun _ => ?_))
      | exact ih0 _ _ _
      | exact LeO.none _
      | refine LeO.ite ?_ ?_
      | refine LeO.bind ?_ (fun _ => ?_)
set_option maxHeartbeats 8000000 in
set_option maxRecDepth 100000 in
theorem baizeref14_Ints.calls (k : Nat) (A0 : Option Addr) (c0 : Nat) (l0 : List Int) (A1 : Option Addr) (c1 : Nat) (l1 : List Int) (r : Bool) (w : World) (hr0 : Kd.C (Kd.int .i64) w A0 l0.length l0) (hc0 : l0.length ≤ c0) (hr1 : Kd.C (Kd.int .i64) w A1 l1.length l1) (hc1 : l1.length ≤ c1) (h : baizeref14_Ints.f k l0 l1 = some r) :
    Calls Tryd.prog 10 #[.slice A0 l0.length c0, .slice A1 l1.length c1] w fun e w' => e = .returned (.bool r) ∧ Drawn0 w w' := by
  have HR0 := Aside0.mk hr0
  have HC0 := Aside0.mk hc0
  clear hr0 hc0
  have HR1 := Aside0.mk hr1
  have HC1 := Aside0.mk hc1
  clear hr1 hc1
  have H : (if (l0.length : Int) = (l1.length : Int) then (baizeref14_Ints.l0 k l0 l1 0) else (some false)) = some r := h
  clear h
  by_cases c3 : (l0.length : Int) = (l1.length : Int)
  · rw [if_pos c3] at H
    have c3b0 : ((l0.length : Int) == (l1.length : Int)) = true := beq_iff_eq.mpr c3
    have c3b1 : ((l0.length : Int) != (l1.length : Int)) = false := bne_eq_false_iff_eq.mpr c3
    have c3b2 : (l0.length == l1.length) = true := by first | simpa using c3 | (simp at c3 ⊢; omega)
    clear c3
    have H' := Aside0.mk H
    clear H
    go_enter Tryd.func10, Tryd.ntmps10
    go_wp2
    repeat (go_quiet (fail); try go_wp2)
    go_loopg [5] k (fun kq v5 w' => ∃ (x5_1 : Int), v5 = .int .i64 x5_1 ∧ Aside0 (baizeref14_Ints.l0 kq l0 l1 x5_1 = some r) ∧ Aside0 (kq ≤ k) ∧ Drawn0 w w')
    case atStart => exact ⟨(0), (by first | rfl | (simp; done) | (simp [*]; done)), H', ⟨Nat.le_refl _⟩, by repeat (first | exact Drawn0.refl _ | apply Drawn0.step)⟩
    case round =>
      clear H'
      try clear c1
      try clear p2
      try clear c3
      try clear c3b0
      try clear c3b1
      try clear c3b2
      obtain ⟨x5_1, rfl, HA, HK1, ⟨m1, rfl⟩⟩ := hrel
      cases gk with
      | zero => exact absurd HA.out (by simp [baizeref14_Ints.l0])
      | succ k1 =>
        have H := HA.out
        clear HA
        simp only [baizeref14_Ints.l0] at H
        by_cases c4 : x5_1 < (l0.length : Int)
        · rw [if_pos c4] at H
          have c4b0 : decide (x5_1 < (l0.length : Int)) = true := decide_eq_true c4
          clear c4
          by_cases c5 : 0 ≤ x5_1
          · rw [if_pos c5] at H
            have c5b0 : decide (0 ≤ x5_1) = true := decide_eq_true c5
            clear c5
            by_cases c6 : x5_1 < (l1.length : Int)
            · rw [if_pos c6] at H
              have c6b0 : decide (x5_1 < (l1.length : Int)) = true := decide_eq_true c6
              clear c6
              by_cases c7 : (rd l0 x5_1) = (rd l1 x5_1)
              · rw [if_pos c7] at H
                have c7b0 : ((rd l0 x5_1) == (rd l1 x5_1)) = true := beq_iff_eq.mpr c7
                have c7b1 : ((rd l0 x5_1) != (rd l1 x5_1)) = false := bne_eq_false_iff_eq.mpr c7
                clear c7
                have H' := Aside0.mk H
                clear H
                have p101 : 0 ≤ (x5_1 : Int) := of_decide_eq_true (by first | (with_reducible assumption) | assumption)
                have q101 : x5_1 < (l0.length : Int) := of_decide_eq_true (by first | (with_reducible assumption) | assumption)
                obtain ⟨ad101, e101, hx101_0⟩ := Kd.at_int HR0.out x5_1 p101 q101
                cases e101
                replace p101 := eq_true p101
                replace q101 := eq_true q101
                have p102 : 0 ≤ (x5_1 : Int) := of_decide_eq_true (by first | (with_reducible assumption) | assumption)
                have q102 : x5_1 < (l1.length : Int) := of_decide_eq_true (by first | (with_reducible assumption) | assumption)
                obtain ⟨ad102, e102, hx102_0⟩ := Kd.at_int HR1.out x5_1 p102 q102
                cases e102
                replace p102 := eq_true p102
                replace q102 := eq_true q102
                go_wp2
                repeat (go_quiet (fail); try go_wp2)
                go_roundg k1
                case measure => have := HK1.out; omega
                case rel => exact ⟨(wrap64 (x5_1 + 1)), (by first | rfl | (simp; done) | (simp [*]; done)), H', ⟨by have := HK1.out; omega⟩, by repeat (first | exact Drawn0.refl _ | apply Drawn0.step)⟩
              · rw [if_neg c7] at H
                have c7b0 : ((rd l0 x5_1) == (rd l1 x5_1)) = false := beq_eq_false_iff_ne.mpr c7
                have c7b1 : ((rd l0 x5_1) != (rd l1 x5_1)) = true := bne_iff_ne.mpr c7
                obtain rfl := Option.some.inj H
                have p101 : 0 ≤ (x5_1 : Int) := of_decide_eq_true (by first | (with_reducible assumption) | assumption)
                have q101 : x5_1 < (l0.length : Int) := of_decide_eq_true (by first | (with_reducible assumption) | assumption)
                obtain ⟨ad101, e101, hx101_0⟩ := Kd.at_int HR0.out x5_1 p101 q101
                cases e101
                replace p101 := eq_true p101
                replace q101 := eq_true q101
                have p102 : 0 ≤ (x5_1 : Int) := of_decide_eq_true (by first | (with_reducible assumption) | assumption)
                have q102 : x5_1 < (l1.length : Int) := of_decide_eq_true (by first | (with_reducible assumption) | assumption)
                obtain ⟨ad102, e102, hx102_0⟩ := Kd.at_int HR1.out x5_1 p102 q102
                cases e102
                replace p102 := eq_true p102
                replace q102 := eq_true q102
                go_wp2
                repeat (go_quiet (fail); try go_wp2)
                go_ret
                exact ⟨by first | rfl | (simp; done) | (simp [*]; done), by repeat (first | exact Drawn0.refl _ | apply Drawn0.step)⟩
            · rw [if_neg c6] at H
              exact absurd H (by simp)
          · rw [if_neg c5] at H
            exact absurd H (by simp)
        · rw [if_neg c4] at H
          have c4b0 : decide (x5_1 < (l0.length : Int)) = false := decide_eq_false c4
          clear c4
          obtain rfl := Option.some.inj H
          go_wp2
          repeat (go_quiet (fail); try go_wp2)
          go_ret
          exact ⟨by first | rfl | (simp; done) | (simp [*]; done), by repeat (first | exact Drawn0.refl _ | apply Drawn0.step)⟩
  · rw [if_neg c3] at H
    have c3b0 : ((l0.length : Int) == (l1.length : Int)) = false := beq_eq_false_iff_ne.mpr c3
    have c3b1 : ((l0.length : Int) != (l1.length : Int)) = true := bne_iff_ne.mpr c3
    have c3b2 : (l0.length == l1.length) = false := by first | simpa using c3 | (simp at c3 ⊢; omega)
    obtain rfl := Option.some.inj H
    go_enter Tryd.func10, Tryd.ntmps10
    go_wp2
    repeat (go_quiet (fail); try go_wp2)
    go_ret
    exact ⟨by first | rfl | (simp; done) | (simp [*]; done), by repeat (first | exact Drawn0.refl _ | apply Drawn0.step)⟩

/-! ### slices_Index_int_int: function 61 -/
def slices_Index_int_int.l0 : Nat → List Int → Int → Int → Int → Option (Int)
  | 0, _, _, _, _ => none
  | k + 1, x0, x1, x7, x8 => if x8 < x7 then (if 0 ≤ x8 then (if x8 < (x0.length : Int) then (if x1 = (rd x0 x8) then (some x8) else (slices_Index_int_int.l0 k x0 x1 x7 (wrap64 (x8 + 1)))) else (none)) else (none)) else (some (-1))
def slices_Index_int_int.f (k : Nat) (l0 : List Int) (a1 : Int) : Option (Int) := slices_Index_int_int.l0 k l0 a1 (l0.length : Int) 0
theorem slices_Index_int_int.mono_l : ∀ k, (∀ y0 y1 y2 y3, LeO (slices_Index_int_int.l0 k y0 y1 y2 y3) (slices_Index_int_int.l0 (k + 1) y0 y1 y2 y3))
  | 0 => fun _ _ _ _ r h => by simp [slices_Index_int_int.l0] at h
  | k + 1 => by
    have ih0 := slices_Index_int_int.mono_l k
    · intro y0 y1 y2 y3
      unfold slices_Index_int_int.l0
      repeat' first
      | (with_reducible exact ih0 _ _ _ _)
      | (with_reducible exact LeO.refl _)
      | (with_reducible exact LeO.none _)
      | (with_reducible refine LeO.ite ?_ ?_)
      | (with_reducible refine LeO.bind ?_ (fun _ => ?_))
      | exact ih0 _ _ _ _
      | exact LeO.none _
      | refine LeO.ite ?_ ?_
      | refine LeO.bind ?_ (fun _ => ?_)
theorem slices_Index_int_int.mono : ∀ a0 a1 k, LeO (slices_Index_int_int.f k a0 a1) (slices_Index_int_int.f (k + 1) a0 a1) := by
  intro a0 a1 k
  have ih0 := slices_Index_int_int.mono_l k
  unfold slices_Index_int_int.f
  repeat' first
      | (with_reducible exact ih0 _ _ _ _)
      | (with_reducible exact LeO.refl _)
      | (with_reducible exact LeO.none _)
      | (with_reducible refine LeO.ite ?_ ?_)
      | (with_reducible refine LeO.bind ?_ (fun _ => ?_))
      | exact ih0 _ _ _ _
      | exact LeO.none _
      | refine LeO.ite ?_ ?_
      | refine LeO.bind ?_ (fun _ => ?_)
set_option maxHeartbeats 8000000 in
set_option maxRecDepth 100000 in
theorem slices_Index_int_int.calls (k : Nat) (A0 : Option Addr) (c0 : Nat) (l0 : List Int) (a1 : Int) (r : Int) (w : World) (hr0 : Kd.C (Kd.int .i64) w A0 l0.length l0) (hc0 : l0.length ≤ c0) (h : slices_Index_int_int.f k l0 a1 = some r) :
    Calls Tryd.prog 61 #[.slice A0 l0.length c0, .int .i64 a1] w fun e w' => e = .returned (.int .i64 r) ∧ Drawn0 w w' := by
  have HR0 := Aside0.mk hr0
  have HC0 := Aside0.mk hc0
  clear hr0 hc0
  have H : (slices_Index_int_int.l0 k l0 a1 (l0.length : Int) 0) = some r := h
  clear h
  have H' := Aside0.mk H
  clear H
  go_enter Tryd.func61, Tryd.ntmps61
  go_wp2
  go_loopg [8] k (fun kq v8 w' => ∃ (x8_1 : Int), v8 = .int .i64 x8_1 ∧ Aside0 (slices_Index_int_int.l0 kq l0 a1 (l0.length : Int) x8_1 = some r) ∧ Aside0 (kq ≤ k) ∧ Drawn0 w w')
  case atStart => exact ⟨(0), (by first | rfl | (simp; done) | (simp [*]; done)), H', ⟨Nat.le_refl _⟩, by repeat (first | exact Drawn0.refl _ | apply Drawn0.step)⟩
  case round =>
    clear H'
    try clear p2
    obtain ⟨x8_1, rfl, HA, HK1, ⟨m1, rfl⟩⟩ := hrel
    cases gk with
    | zero => exact absurd HA.out (by simp [slices_Index_int_int.l0])
    | succ k1 =>
      have H := HA.out
      clear HA
      simp only [slices_Index_int_int.l0] at H
      by_cases c3 : x8_1 < (l0.length : Int)
      · rw [if_pos c3] at H
        have c3b0 : decide (x8_1 < (l0.length : Int)) = true := decide_eq_true c3
        clear c3
        by_cases c4 : 0 ≤ x8_1
        · rw [if_pos c4] at H
          have c4b0 : decide (0 ≤ x8_1) = true := decide_eq_true c4
          clear c4
          by_cases c5 : x8_1 < (l0.length : Int)
          · rw [if_pos c5] at H
            have c5b0 : decide (x8_1 < (l0.length : Int)) = true := decide_eq_true c5
            clear c5
            by_cases c6 : a1 = (rd l0 x8_1)
            · rw [if_pos c6] at H
              have c6b0 : (a1 == (rd l0 x8_1)) = true := beq_iff_eq.mpr c6
              have c6b1 : (a1 != (rd l0 x8_1)) = false := bne_eq_false_iff_eq.mpr c6
              clear c6
              obtain rfl := Option.some.inj H
              have p103 : 0 ≤ (x8_1 : Int) := of_decide_eq_true (by first | (with_reducible assumption) | assumption)
              have q103 : x8_1 < (l0.length : Int) := of_decide_eq_true (by first | (with_reducible assumption) | assumption)
              obtain ⟨ad103, e103, hx103_0⟩ := Kd.at_int HR0.out x8_1 p103 q103
              cases e103
              replace p103 := eq_true p103
              replace q103 := eq_true q103
              go_wp2
              go_ret
              exact ⟨by first | rfl | (simp; done) | (simp [*]; done), by repeat (first | exact Drawn0.refl _ | apply Drawn0.step)⟩
            · rw [if_neg c6] at H
              have c6b0 : (a1 == (rd l0 x8_1)) = false := beq_eq_false_iff_ne.mpr c6
              have c6b1 : (a1 != (rd l0 x8_1)) = true := bne_iff_ne.mpr c6
              have H' := Aside0.mk H
              clear H
              have p103 : 0 ≤ (x8_1 : Int) := of_decide_eq_true (by first | (with_reducible assumption) | assumption)
              have q103 : x8_1 < (l0.length : Int) := of_decide_eq_true (by first | (with_reducible assumption) | assumption)
              obtain ⟨ad103, e103, hx103_0⟩ := Kd.at_int HR0.out x8_1 p103 q103
              cases e103
              replace p103 := eq_true p103
              replace q103 := eq_true q103
              go_wp2
              go_roundg k1
              case measure => have := HK1.out; omega
              case rel => exact ⟨(wrap64 (x8_1 + 1)), (by first | rfl | (simp; done) | (simp [*]; done)), H', ⟨by have := HK1.out; omega⟩, by repeat (first | exact Drawn0.refl _ | apply Drawn0.step)⟩
          · rw [if_neg c5] at H
            exact absurd H (by simp)
        · rw [if_neg c4] at H
          exact absurd H (by simp)
      · rw [if_neg c3] at H
        have c3b0 : decide (x8_1 < (l0.length : Int)) = false := decide_eq_false c3
        clear c3
        obtain rfl := Option.some.inj H
        go_wp2
        go_ret
        exact ⟨by first | rfl | (simp; done) | (simp [*]; done), by repeat (first | exact Drawn0.refl _ | apply Drawn0.step)⟩

/-! ### slices_Contains_int_int: function 34 -/
def slices_Contains_int_int.f (k : Nat) (l0 : List Int) (a1 : Int) : Option (Bool) := (slices_Index_int_int.f k l0 a1).bind fun t104 => (some (decide (t104 ≥ 0)))
theorem slices_Contains_int_int.mono : ∀ a0 a1 k, LeO (slices_Contains_int_int.f k a0 a1) (slices_Contains_int_int.f (k + 1) a0 a1) := by
  intro a0 a1 k
  unfold slices_Contains_int_int.f
  repeat' first
      | (with_reducible exact slices_Index_int_int.mono _ _ _)
      | (with_reducible exact LeO.refl _)
      | (with_reducible exact LeO.none _)
      | (with_reducible refine LeO.ite ?_ ?_)
      | (with_reducible refine LeO.bind ?_ (fun _ => ?_))
      | exact slices_Index_int_int.mono _ _ _
      | exact LeO.none _
      | refine LeO.ite ?_ ?_
      | refine LeO.bind ?_ (fun _ => ?_)
set_option maxHeartbeats 8000000 in
set_option maxRecDepth 100000 in
theorem slices_Contains_int_int.calls (k : Nat) (A0 : Option Addr) (c0 : Nat) (l0 : List Int) (a1 : Int) (r : Bool) (w : World) (hr0 : Kd.C (Kd.int .i64) w A0 l0.length l0) (hc0 : l0.length ≤ c0) (h : slices_Contains_int_int.f k l0 a1 = some r) :
    Calls Tryd.prog 34 #[.slice A0 l0.length c0, .int .i64 a1] w fun e w' => e = .returned (.bool r) ∧ Drawn0 w w' := by
  have HR0 := Aside0.mk hr0
  have HC0 := Aside0.mk hc0
  clear hr0 hc0
  have H : ((slices_Index_int_int.f k l0 a1).bind fun t104 => (some (decide (t104 ≥ 0)))) = some r := h
  clear h
  replace H := Option.bind_eq_some_iff.mp H
  obtain ⟨t104, A30, H⟩ := H
  replace H : (some (decide (t104 ≥ 0))) = some r := H
  have A3 := Aside0.mk A30
  clear A30
  obtain rfl := Option.some.inj H
  go_enter Tryd.func34, Tryd.ntmps34
  go_wp2_with (first | ((with_reducible refine gate_callee (f := 61) rfl ?_); refine goesL_ (some 7) rfl rfl Tryd.func61 (by kernel_rfl) rfl #[.slice A0 l0.length c0, .int .i64 a1] rfl (by (try simp only [List.map_toArray, List.map_cons, List.map_nil]); first | done | rfl | (simp only [List.length_drop, List.length_take]; rfl)) ?_; (with_reducible refine (slices_Index_int_int.calls k _ _ l0 a1 t104 _ ?side1 ?side2 A3.out).mono ?_); (case side1 => repeat (first | exact HR0.out | (with_reducible refine Kd.C_alloc ?_ _) | (with_reducible refine Kd.C_drewN ?_ _) | (with_reducible refine Kd.C_drew ?_))); (case side2 => exact HC0.out); rintro e w' ⟨rfl, ⟨nd, rfl⟩⟩; refine ⟨_, rfl, ?_⟩))
  go_ret
  exact ⟨by first | rfl | (simp; done) | (simp [*]; done), by repeat (first | exact Drawn0.refl _ | apply Drawn0.step)⟩

/-! ### baizeref14_Writes: function 14 -/
def baizeref14_Writes.f (a0_0 : Int) (a0_1 : Int) (a0_2 : Int) (a0_3 : Int) : Option (Int) := if a0_0 < 1 then (some (-1)) else (if a0_0 = 16 then (some (-1)) else (if a0_0 > 18 then (some (-1)) else (some a0_1)))
set_option maxHeartbeats 8000000 in
set_option maxRecDepth 100000 in
theorem baizeref14_Writes.calls (a0_0 : Int) (a0_1 : Int) (a0_2 : Int) (a0_3 : Int) (r : Int) (w : World) (h : baizeref14_Writes.f a0_0 a0_1 a0_2 a0_3 = some r) :
    Calls Tryd.prog 14 #[.agg #[.int .i64 a0_0, .int .i64 a0_1, .int .i64 a0_2, .int .i64 a0_3]] w fun e w' => e = .returned (.int .i64 r) ∧ Below w.heap.size w w' := by
  have hu23 := Tryd.underlying23
  have HB := Aside0.mk (Below.refl w.heap.size w)
  have H : (if a0_0 < 1 then (some (-1)) else (if a0_0 = 16 then (some (-1)) else (if a0_0 > 18 then (some (-1)) else (some a0_1)))) = some r := h
  clear h
  by_cases c2 : a0_0 < 1
  · rw [if_pos c2] at H
    have c2b0 : decide (a0_0 < 1) = true := decide_eq_true c2
    clear c2
    obtain rfl := Option.some.inj H
    go_enter Tryd.func14, Tryd.ntmps14
    go_wp2_with (first | ((with_reducible refine gate_dst (N := 1) rfl ?_); refine box_event ?hg (N := 1) ?hd (cs := #[.int .i64 a0_0, .int .i64 a0_1, .int .i64 a0_2, .int .i64 a0_3]) (t := 23) ?hr ?_; (case hd => rfl); (case hg => rfl); (case hr => first | (go_simp; done) | (go_simp; rfl)); intro gb137 hg w3 hbox hb; have n0_ := Aside0.mk (below_step (by repeat (first | (with_reducible first | exact HB.out | apply below_alloc | apply pw_below_drewN | apply below_drew1) | exact HB.out)) hb); have n1_ := Aside0.mk (hbox); have n2_ := Aside0.mk ((by rw [hg]; exact (below_size (by repeat (first | (with_reducible first | exact HB.out | apply below_alloc | apply pw_below_drewN | apply below_drew1) | exact HB.out))) : w.heap.size ≤ gb137)); have n3_ := Aside0.mk ((by rw [hg]; exact (below_size (by repeat (first | (with_reducible first | exact HB.out | apply below_alloc | apply pw_below_drewN | apply below_drew1) | exact HB.out))) : w.heap.size ≤ gb137)); clear HB; have HB := n0_; have BK137 := n1_; have GW137 := n2_; have GE137 := n3_; clear n0_ n1_ n2_ n3_; clear hb hbox hg; have hcz4_0 : w3.cell? ⟨gb137, 0, none⟩ = some (.int .i64 a0_0) := (blk_cell BK137.out 0).trans rfl; have hcz4_1 : w3.cell? ⟨gb137, 1, none⟩ = some (.int .i64 a0_1) := (blk_cell BK137.out 1).trans rfl; have hcz4_2 : w3.cell? ⟨gb137, 2, none⟩ = some (.int .i64 a0_2) := (blk_cell BK137.out 2).trans rfl; have hcz4_3 : w3.cell? ⟨gb137, 3, none⟩ = some (.int .i64 a0_3) := (blk_cell BK137.out 3).trans rfl; have hfz4_0 := blk_frozen BK137.out 0; have hfz4_1 := blk_frozen BK137.out 1; have hfz4_2 := blk_frozen BK137.out 2; have hfz4_3 := blk_frozen BK137.out 3))
    go_ret
    exact ⟨by first | rfl | (simp [errW_none, errW_some] <;> rfl) | (simp [*, errW_none, errW_some] <;> rfl), by repeat (first | (with_reducible first | exact HB.out | apply below_alloc | apply pw_below_drewN | apply below_drew1 | refine below_set ?_ GE137.out) | exact HB.out)⟩
  · rw [if_neg c2] at H
    have c2b0 : decide (a0_0 < 1) = false := decide_eq_false c2
    clear c2
    by_cases c5 : a0_0 = 16
    · rw [if_pos c5] at H
      have c5b0 : (a0_0 == 16) = true := beq_iff_eq.mpr c5
      have c5b1 : (a0_0 != 16) = false := bne_eq_false_iff_eq.mpr c5
      clear c5
      obtain rfl := Option.some.inj H
      go_enter Tryd.func14, Tryd.ntmps14
      go_wp2_with (first | ((with_reducible refine gate_dst (N := 1) rfl ?_); refine box_event ?hg (N := 1) ?hd (cs := #[.int .i64 a0_0, .int .i64 a0_1, .int .i64 a0_2, .int .i64 a0_3]) (t := 23) ?hr ?_; (case hd => rfl); (case hg => rfl); (case hr => first | (go_simp; done) | (go_simp; rfl)); intro gb137 hg w6 hbox hb; have n0_ := Aside0.mk (below_step (by repeat (first | (with_reducible first | exact HB.out | apply below_alloc | apply pw_below_drewN | apply below_drew1) | exact HB.out)) hb); have n1_ := Aside0.mk (hbox); have n2_ := Aside0.mk ((by rw [hg]; exact (below_size (by repeat (first | (with_reducible first | exact HB.out | apply below_alloc | apply pw_below_drewN | apply below_drew1) | exact HB.out))) : w.heap.size ≤ gb137)); have n3_ := Aside0.mk ((by rw [hg]; exact (below_size (by repeat (first | (with_reducible first | exact HB.out | apply below_alloc | apply pw_below_drewN | apply below_drew1) | exact HB.out))) : w.heap.size ≤ gb137)); clear HB; have HB := n0_; have BK137 := n1_; have GW137 := n2_; have GE137 := n3_; clear n0_ n1_ n2_ n3_; clear hb hbox hg; have hcz7_0 : w6.cell? ⟨gb137, 0, none⟩ = some (.int .i64 a0_0) := (blk_cell BK137.out 0).trans rfl; have hcz7_1 : w6.cell? ⟨gb137, 1, none⟩ = some (.int .i64 a0_1) := (blk_cell BK137.out 1).trans rfl; have hcz7_2 : w6.cell? ⟨gb137, 2, none⟩ = some (.int .i64 a0_2) := (blk_cell BK137.out 2).trans rfl; have hcz7_3 : w6.cell? ⟨gb137, 3, none⟩ = some (.int .i64 a0_3) := (blk_cell BK137.out 3).trans rfl; have hfz7_0 := blk_frozen BK137.out 0; have hfz7_1 := blk_frozen BK137.out 1; have hfz7_2 := blk_frozen BK137.out 2; have hfz7_3 := blk_frozen BK137.out 3))
      go_ret
      exact ⟨by first | rfl | (simp [errW_none, errW_some] <;> rfl) | (simp [*, errW_none, errW_some] <;> rfl), by repeat (first | (with_reducible first | exact HB.out | apply below_alloc | apply pw_below_drewN | apply below_drew1 | refine below_set ?_ GE137.out) | exact HB.out)⟩
    · rw [if_neg c5] at H
      have c5b0 : (a0_0 == 16) = false := beq_eq_false_iff_ne.mpr c5
      have c5b1 : (a0_0 != 16) = true := bne_iff_ne.mpr c5
      by_cases c8 : a0_0 > 18
      · rw [if_pos c8] at H
        have c8b0 : decide (18 < a0_0) = true := decide_eq_true c8
        clear c8
        obtain rfl := Option.some.inj H
        go_enter Tryd.func14, Tryd.ntmps14
        go_wp2_with (first | ((with_reducible refine gate_dst (N := 1) rfl ?_); refine box_event ?hg (N := 1) ?hd (cs := #[.int .i64 a0_0, .int .i64 a0_1, .int .i64 a0_2, .int .i64 a0_3]) (t := 23) ?hr ?_; (case hd => rfl); (case hg => rfl); (case hr => first | (go_simp; done) | (go_simp; rfl)); intro gb137 hg w9 hbox hb; have n0_ := Aside0.mk (below_step (by repeat (first | (with_reducible first | exact HB.out | apply below_alloc | apply pw_below_drewN | apply below_drew1) | exact HB.out)) hb); have n1_ := Aside0.mk (hbox); have n2_ := Aside0.mk ((by rw [hg]; exact (below_size (by repeat (first | (with_reducible first | exact HB.out | apply below_alloc | apply pw_below_drewN | apply below_drew1) | exact HB.out))) : w.heap.size ≤ gb137)); have n3_ := Aside0.mk ((by rw [hg]; exact (below_size (by repeat (first | (with_reducible first | exact HB.out | apply below_alloc | apply pw_below_drewN | apply below_drew1) | exact HB.out))) : w.heap.size ≤ gb137)); clear HB; have HB := n0_; have BK137 := n1_; have GW137 := n2_; have GE137 := n3_; clear n0_ n1_ n2_ n3_; clear hb hbox hg; have hcz10_0 : w9.cell? ⟨gb137, 0, none⟩ = some (.int .i64 a0_0) := (blk_cell BK137.out 0).trans rfl; have hcz10_1 : w9.cell? ⟨gb137, 1, none⟩ = some (.int .i64 a0_1) := (blk_cell BK137.out 1).trans rfl; have hcz10_2 : w9.cell? ⟨gb137, 2, none⟩ = some (.int .i64 a0_2) := (blk_cell BK137.out 2).trans rfl; have hcz10_3 : w9.cell? ⟨gb137, 3, none⟩ = some (.int .i64 a0_3) := (blk_cell BK137.out 3).trans rfl; have hfz10_0 := blk_frozen BK137.out 0; have hfz10_1 := blk_frozen BK137.out 1; have hfz10_2 := blk_frozen BK137.out 2; have hfz10_3 := blk_frozen BK137.out 3))
        go_ret
        exact ⟨by first | rfl | (simp [errW_none, errW_some] <;> rfl) | (simp [*, errW_none, errW_some] <;> rfl), by repeat (first | (with_reducible first | exact HB.out | apply below_alloc | apply pw_below_drewN | apply below_drew1 | refine below_set ?_ GE137.out) | exact HB.out)⟩
      · rw [if_neg c8] at H
        have c8b0 : decide (18 < a0_0) = false := decide_eq_false c8
        clear c8
        obtain rfl := Option.some.inj H
        go_enter Tryd.func14, Tryd.ntmps14
        go_wp2_with (first | ((with_reducible refine gate_dst (N := 1) rfl ?_); refine box_event ?hg (N := 1) ?hd (cs := #[.int .i64 a0_0, .int .i64 a0_1, .int .i64 a0_2, .int .i64 a0_3]) (t := 23) ?hr ?_; (case hd => rfl); (case hg => rfl); (case hr => first | (go_simp; done) | (go_simp; rfl)); intro gb137 hg w11 hbox hb; have n0_ := Aside0.mk (below_step (by repeat (first | (with_reducible first | exact HB.out | apply below_alloc | apply pw_below_drewN | apply below_drew1) | exact HB.out)) hb); have n1_ := Aside0.mk (hbox); have n2_ := Aside0.mk ((by rw [hg]; exact (below_size (by repeat (first | (with_reducible first | exact HB.out | apply below_alloc | apply pw_below_drewN | apply below_drew1) | exact HB.out))) : w.heap.size ≤ gb137)); have n3_ := Aside0.mk ((by rw [hg]; exact (below_size (by repeat (first | (with_reducible first | exact HB.out | apply below_alloc | apply pw_below_drewN | apply below_drew1) | exact HB.out))) : w.heap.size ≤ gb137)); clear HB; have HB := n0_; have BK137 := n1_; have GW137 := n2_; have GE137 := n3_; clear n0_ n1_ n2_ n3_; clear hb hbox hg; have hcz12_0 : w11.cell? ⟨gb137, 0, none⟩ = some (.int .i64 a0_0) := (blk_cell BK137.out 0).trans rfl; have hcz12_1 : w11.cell? ⟨gb137, 1, none⟩ = some (.int .i64 a0_1) := (blk_cell BK137.out 1).trans rfl; have hcz12_2 : w11.cell? ⟨gb137, 2, none⟩ = some (.int .i64 a0_2) := (blk_cell BK137.out 2).trans rfl; have hcz12_3 : w11.cell? ⟨gb137, 3, none⟩ = some (.int .i64 a0_3) := (blk_cell BK137.out 3).trans rfl; have hfz12_0 := blk_frozen BK137.out 0; have hfz12_1 := blk_frozen BK137.out 1; have hfz12_2 := blk_frozen BK137.out 2; have hfz12_3 := blk_frozen BK137.out 3))
        go_ret
        exact ⟨by first | rfl | (simp [errW_none, errW_some] <;> rfl) | (simp [*, errW_none, errW_some] <;> rfl), by repeat (first | (with_reducible first | exact HB.out | apply below_alloc | apply pw_below_drewN | apply below_drew1 | refine below_set ?_ GE137.out) | exact HB.out)⟩

/-! ### baizeref14_Next: function 16 -/
def baizeref14_Next.j0 : Nat → Int → Bool → Int → Int → Int → Int → Option (List Int)
  | 0, _, _, _, _, _, _ => none
  | k + 1, x1, x12, x164000, x164001, x164002, x164003 => if x12 = true then (some ([] : List Int)) else (if x164000 = 19 then (some (([x164001] : List Int))) else (if x164000 > 19 then (if x164001 = (wrap64 (x1 + 1)) then (some (([wrap64 (x1 + 1)] : List Int))) else (some (([wrap64 (x1 + 1), x164001] : List Int)))) else (some (([wrap64 (x1 + 1)] : List Int)))))
def baizeref14_Next.f (k : Nat) (a0_0 : Int) (a0_1 : Int) (a0_2 : Int) (a0_3 : Int) (a1 : Int) : Option (List Int) := if a0_0 < 1 then (baizeref14_Next.j0 k a1 true a0_0 a0_1 a0_2 a0_3) else (baizeref14_Next.j0 k a1 (decide (a0_0 > 21)) a0_0 a0_1 a0_2 a0_3)
theorem baizeref14_Next.mono_l : ∀ k, (∀ y0 y1 y2 y3 y4 y5, LeO (baizeref14_Next.j0 k y0 y1 y2 y3 y4 y5) (baizeref14_Next.j0 (k + 1) y0 y1 y2 y3 y4 y5))
  | 0 => fun _ _ _ _ _ _ r h => by simp [baizeref14_Next.j0] at h
  | k + 1 => by
    have ih0 := baizeref14_Next.mono_l k
    · intro y0 y1 y2 y3 y4 y5
      unfold baizeref14_Next.j0
      repeat' first
      | (with_reducible exact ih0 _ _ _ _ _ _)
      | (with_reducible exact LeO.refl _)
      | (with_reducible exact LeO.none _)
      | (with_reducible refine LeO.ite ?_ ?_)
      | (with_reducible refine LeO.bind ?_ (fun _ => ?_))
      | exact ih0 _ _ _ _ _ _
      | exact LeO.none _
      | refine LeO.ite ?_ ?_
      | refine LeO.bind ?_ (fun _ => ?_)
theorem baizeref14_Next.mono : ∀ a0 a1 a2 a3 a4 k, LeO (baizeref14_Next.f k a0 a1 a2 a3 a4) (baizeref14_Next.f (k + 1) a0 a1 a2 a3 a4) := by
  intro a0 a1 a2 a3 a4 k
  have ih0 := baizeref14_Next.mono_l k
  unfold baizeref14_Next.f
  repeat' first
      | (with_reducible exact ih0 _ _ _ _ _ _)
      | (with_reducible exact LeO.refl _)
      | (with_reducible exact LeO.none _)
      | (with_reducible refine LeO.ite ?_ ?_)
      | (with_reducible refine LeO.bind ?_ (fun _ => ?_))
      | exact ih0 _ _ _ _ _ _
      | exact LeO.none _
      | refine LeO.ite ?_ ?_
      | refine LeO.bind ?_ (fun _ => ?_)
set_option maxHeartbeats 8000000 in
set_option maxRecDepth 100000 in
theorem baizeref14_Next.calls (k : Nat) (a0_0 : Int) (a0_1 : Int) (a0_2 : Int) (a0_3 : Int) (a1 : Int) (r : List Int) (w : World) (h : baizeref14_Next.f k a0_0 a0_1 a0_2 a0_3 a1 = some r) :
    Calls Tryd.prog 16 #[.agg #[.int .i64 a0_0, .int .i64 a0_1, .int .i64 a0_2, .int .i64 a0_3], .int .i64 a1] w fun e w' => ∃ v0_ : Value, e = .returned (v0_) ∧ Kd.R (Kd.int .i64) 3 w' w.heap.size (fun _ => True) v0_ r ∧ Below w.heap.size w w' := by
  have hu23 := Tryd.underlying23
  have HB := Aside0.mk (Below.refl w.heap.size w)
  have H : (if a0_0 < 1 then (baizeref14_Next.j0 k a1 true a0_0 a0_1 a0_2 a0_3) else (baizeref14_Next.j0 k a1 (decide (a0_0 > 21)) a0_0 a0_1 a0_2 a0_3)) = some r := h
  clear h
  have HC3 := Aside0.mk H
  clear H
  go_enter Tryd.func16, Tryd.ntmps16
  go_upto_region 1 with (first | ((with_reducible refine gate_dst (N := 2) rfl ?_); refine box_event ?hg (N := 2) ?hd (cs := #[.int .i64 a0_0, .int .i64 a0_1, .int .i64 a0_2, .int .i64 a0_3]) (t := 23) ?hr ?_; (case hd => rfl); (case hg => rfl); (case hr => first | (go_simp; done) | (go_simp; rfl)); intro gb163 hg w4 hbox hb; have n0_ := Aside0.mk (below_step (by repeat (first | (with_reducible first | exact HB.out | apply below_alloc | apply pw_below_drewN | apply below_drew1) | exact HB.out)) hb); have n1_ := Aside0.mk (hbox); have n2_ := Aside0.mk ((by rw [hg]; exact (below_size (by repeat (first | (with_reducible first | exact HB.out | apply below_alloc | apply pw_below_drewN | apply below_drew1) | exact HB.out))) : w.heap.size ≤ gb163)); have n3_ := Aside0.mk ((by rw [hg]; exact (below_size (by repeat (first | (with_reducible first | exact HB.out | apply below_alloc | apply pw_below_drewN | apply below_drew1) | exact HB.out))) : w.heap.size ≤ gb163)); clear HB; have HB := n0_; have BK163 := n1_; have GW163 := n2_; have GE163 := n3_; clear n0_ n1_ n2_ n3_; clear hb hbox hg))
  (try simp only [Act.put, List.setIfInBounds_toArray, List.set_cons_zero, List.set_cons_succ])
  go_cut [12] (fun v12 wc => ∃ (kq : Nat) (x12_2 : Bool), v12 = .bool x12_2 ∧ Aside0 (baizeref14_Next.j0 kq a1 x12_2 a0_0 a0_1 a0_2 a0_3 = some r) ∧ Aside0 (kq ≤ k) ∧ Aside0 (wc.heap[gb163]? = some (.cells #[.int .i64 a0_0, .int .i64 a0_1, .int .i64 a0_2, .int .i64 a0_3] 23 (0, 0))) ∧ Aside0 (Below w.heap.size w wc))
  case first =>
    have H := HC3.out
    clear HC3
    by_cases c5 : a0_0 < 1
    · rw [if_pos c5] at H
      have c5b0 : decide (a0_0 < 1) = true := decide_eq_true c5
      clear c5
      (first | rw [c5b0] | (simp only [i64_w, i32_w]; rw [c5b0]) | skip)
      have H' := Aside0.mk H
      clear H
      have hcz6_0 : w4.cell? ⟨gb163, 0, none⟩ = some (.int .i64 a0_0) := (blk_cell BK163.out 0).trans rfl
      have hcz6_1 : w4.cell? ⟨gb163, 1, none⟩ = some (.int .i64 a0_1) := (blk_cell BK163.out 1).trans rfl
      have hcz6_2 : w4.cell? ⟨gb163, 2, none⟩ = some (.int .i64 a0_2) := (blk_cell BK163.out 2).trans rfl
      have hcz6_3 : w4.cell? ⟨gb163, 3, none⟩ = some (.int .i64 a0_3) := (blk_cell BK163.out 3).trans rfl
      have hfz6_0 := blk_frozen BK163.out 0
      have hfz6_1 := blk_frozen BK163.out 1
      have hfz6_2 := blk_frozen BK163.out 2
      have hfz6_3 := blk_frozen BK163.out 3
      go_wp2
      go_meet
      case rel => exact ⟨_, (true), (by first | rfl | (simp; done) | (simp [*]; done)), H', ⟨by first | omega | exact Nat.le_refl _⟩, ⟨by (with_reducible repeat (first | refine blk_drewN ?_ _ | refine blk_drew ?_ | refine blk_alloc ?_ _)); exact BK163.out⟩, ⟨by repeat (first | (with_reducible first | exact HB.out | apply below_alloc | apply pw_below_drewN | apply below_drew1 | refine below_set ?_ GE163.out) | exact HB.out)⟩⟩
    · rw [if_neg c5] at H
      have c5b0 : decide (a0_0 < 1) = false := decide_eq_false c5
      clear c5
      (first | rw [c5b0] | (simp only [i64_w, i32_w]; rw [c5b0]) | skip)
      have H' := Aside0.mk H
      clear H
      have hcz7_0 : w4.cell? ⟨gb163, 0, none⟩ = some (.int .i64 a0_0) := (blk_cell BK163.out 0).trans rfl
      have hcz7_1 : w4.cell? ⟨gb163, 1, none⟩ = some (.int .i64 a0_1) := (blk_cell BK163.out 1).trans rfl
      have hcz7_2 : w4.cell? ⟨gb163, 2, none⟩ = some (.int .i64 a0_2) := (blk_cell BK163.out 2).trans rfl
      have hcz7_3 : w4.cell? ⟨gb163, 3, none⟩ = some (.int .i64 a0_3) := (blk_cell BK163.out 3).trans rfl
      have hfz7_0 := blk_frozen BK163.out 0
      have hfz7_1 := blk_frozen BK163.out 1
      have hfz7_2 := blk_frozen BK163.out 2
      have hfz7_3 := blk_frozen BK163.out 3
      go_wp2
      go_meet
      case rel => exact ⟨_, (decide (a0_0 > 21)), (by first | rfl | (simp; done) | (simp [*]; done)), H', ⟨by first | omega | exact Nat.le_refl _⟩, ⟨by (with_reducible repeat (first | refine blk_drewN ?_ _ | refine blk_drew ?_ | refine blk_alloc ?_ _)); exact BK163.out⟩, ⟨by repeat (first | (with_reducible first | exact HB.out | apply below_alloc | apply pw_below_drewN | apply below_drew1 | refine below_set ?_ GE163.out) | exact HB.out)⟩⟩
  case rest =>
    clear HC3
    try clear c1
    try clear p2
    try clear c5
    try clear c5b0
    try clear hcz6_0
    try clear hcz6_1
    try clear hcz6_2
    try clear hcz6_3
    try clear hcz7_0
    try clear hcz7_1
    try clear hcz7_2
    try clear hcz7_3
    try clear hfz6_0
    try clear hfz6_1
    try clear hfz6_2
    try clear hfz6_3
    try clear hfz7_0
    try clear hfz7_1
    try clear hfz7_2
    try clear hfz7_3
    obtain ⟨kq, x12_2, rfl, HA, HJ2, BK163, HB⟩ := hcut
    cases kq with
    | zero => exact absurd HA.out (by simp [baizeref14_Next.j0])
    | succ kj2 =>
      have H := HA.out
      clear HA
      simp only [baizeref14_Next.j0] at H
      by_cases c8 : x12_2 = true
      · subst c8
        have H1 : (some ([] : List Int)) = some r := by rw [if_pos rfl] at H; exact H
        clear H
        have H := H1
        clear H1
        obtain rfl := Option.some.inj H
        go_wp2
        go_ret
        exact ⟨_, by first | rfl | (simp [errW_none, errW_some] <;> rfl) | (simp [*, errW_none, errW_some] <;> rfl), by first | exact Kd.R_nil _ _ _ _ _ | exact Kd.N_nil _ _ _ _ _ | exact Kd.V_nil _ _ _ _ _ | exact Kd.Q_nil _ _ _ _ _ | exact Kd.S_nil _ _ _ _ _, by repeat (first | (with_reducible first | exact HB.out | apply below_alloc | apply pw_below_drewN | apply below_drew1 | refine below_set ?_ GE163.out) | exact HB.out)⟩
      · replace c8 := Bool.eq_false_iff.mpr c8
        subst c8
        have H1 : (if a0_0 = 19 then (some (([a0_1] : List Int))) else (if a0_0 > 19 then (if a0_1 = (wrap64 (a1 + 1)) then (some (([wrap64 (a1 + 1)] : List Int))) else (some (([wrap64 (a1 + 1), a0_1] : List Int)))) else (some (([wrap64 (a1 + 1)] : List Int))))) = some r := by rw [if_neg (show ¬ (false = true) by decide)] at H; exact H
        clear H
        have H := H1
        clear H1
        by_cases c9 : a0_0 = 19
        · rw [if_pos c9] at H
          have c9b0 : (a0_0 == 19) = true := beq_iff_eq.mpr c9
          have c9b1 : (a0_0 != 19) = false := bne_eq_false_iff_eq.mpr c9
          clear c9
          obtain ⟨y164, hy164⟩ : ∃ y_ : List Int, y_ = (([a0_1] : List Int)) := ⟨_, rfl⟩
          replace H : (some y164) = some r := by first | (rw [hy164]; with_reducible exact H) | (have H2_ := (Option.bind_some _ _).symm.trans H; rw [hy164]; with_reducible exact H2_) | (have H2_ := (Option.bind_some _ _).symm.trans H; with_reducible exact H2_) | with_reducible exact H | (rw [hy164]; exact H) | exact H
          have Ny164 := Aside0.mk hy164
          clear hy164
          obtain rfl := Option.some.inj H
          have hcz10_0 : wc.cell? ⟨gb163, 0, none⟩ = some (.int .i64 a0_0) := (blk_cell BK163.out 0).trans rfl
          have hcz10_1 : wc.cell? ⟨gb163, 1, none⟩ = some (.int .i64 a0_1) := (blk_cell BK163.out 1).trans rfl
          have hcz10_2 : wc.cell? ⟨gb163, 2, none⟩ = some (.int .i64 a0_2) := (blk_cell BK163.out 2).trans rfl
          have hcz10_3 : wc.cell? ⟨gb163, 3, none⟩ = some (.int .i64 a0_3) := (blk_cell BK163.out 3).trans rfl
          have hfz10_0 := blk_frozen BK163.out 0
          have hfz10_1 := blk_frozen BK163.out 1
          have hfz10_2 := blk_frozen BK163.out 2
          have hfz10_3 := blk_frozen BK163.out 3
          go_wp2_with (first | ((with_reducible refine gate_dst (N := 18) rfl ?_); refine Kd.R_lit (Kd.int .i64) _ 3 ?hg (N := 18) ?hd (xs := ([a0_1] : List Int)) (inner := [.int .i64 a0_1]) (ok := fun _ => True) (okp := fun _ => True) ?hr ?hp (fun _ hk => hk) trivial (Below.refl _ _) (Nat.le_refl _) (by simp) ?_; (case hd => rfl); (case hg => rfl); (case hr => first | (go_simp; done) | (go_simp; rfl)); (case hp => exact (Reps.one (show Kd.M (Kd.int .i64) _ _ _ a0_1 [.int .i64 a0_1] from rfl) (Reps.none _ _))); intro v165 w11 ho12 hb hg_ hnew_; clear hg_ hnew_; (first | rw [← Ny164.out] at ho12 | (simp only [Int.reduceToNat] at ho12; rw [← Ny164.out] at ho12)); have n0_ := Aside0.mk (Kd.R_lower ho12 (below_size (by repeat (first | (with_reducible first | exact HB.out | apply below_alloc | apply pw_below_drewN | apply below_drew1 | refine below_set ?_ GE163.out) | exact HB.out)))); have n1_ := Aside0.mk (blk_below (g := gb163) (o := .cells #[.int .i64 a0_0, .int .i64 a0_1, .int .i64 a0_2, .int .i64 a0_3] 23 (0, 0)) (by (with_reducible repeat (first | refine blk_drewN ?_ _ | refine blk_drew ?_ | refine blk_alloc ?_ _)); exact BK163.out) hb); have n2_ := Aside0.mk (below_step (by repeat (first | (with_reducible first | exact HB.out | apply below_alloc | apply pw_below_drewN | apply below_drew1 | refine below_set ?_ GE163.out) | exact HB.out)) hb); clear BK163; clear HB; have HO166 := n0_; have BK163 := n1_; have HB := n2_; clear n0_ n1_ n2_; clear hb ho12))
          go_ret
          exact ⟨_, by first | rfl | (simp [errW_none, errW_some] <;> rfl) | (simp [*, errW_none, errW_some] <;> rfl), by (with_reducible repeat (first | apply Kd.R_alloc | apply Kd.R_drewN | apply Kd.R_drew)); exact HO166.out, by repeat (first | (with_reducible first | exact HB.out | apply below_alloc | apply pw_below_drewN | apply below_drew1 | refine below_set ?_ GE163.out) | exact HB.out)⟩
        · rw [if_neg c9] at H
          have c9b0 : (a0_0 == 19) = false := beq_eq_false_iff_ne.mpr c9
          have c9b1 : (a0_0 != 19) = true := bne_iff_ne.mpr c9
          by_cases c13 : a0_0 > 19
          · rw [if_pos c13] at H
            have c13b0 : decide (19 < a0_0) = true := decide_eq_true c13
            clear c13
            by_cases c14 : a0_1 = (wrap64 (a1 + 1))
            · rw [if_pos c14] at H
              have c14b0 : (a0_1 == (wrap64 (a1 + 1))) = true := beq_iff_eq.mpr c14
              have c14b1 : (a0_1 != (wrap64 (a1 + 1))) = false := bne_eq_false_iff_eq.mpr c14
              clear c14
              obtain ⟨y167, hy167⟩ : ∃ y_ : List Int, y_ = (([wrap64 (a1 + 1)] : List Int)) := ⟨_, rfl⟩
              replace H : (some y167) = some r := by first | (rw [hy167]; with_reducible exact H) | (have H2_ := (Option.bind_some _ _).symm.trans H; rw [hy167]; with_reducible exact H2_) | (have H2_ := (Option.bind_some _ _).symm.trans H; with_reducible exact H2_) | with_reducible exact H | (rw [hy167]; exact H) | exact H
              have Ny167 := Aside0.mk hy167
              clear hy167
              obtain rfl := Option.some.inj H
              have hcz15_0 : wc.cell? ⟨gb163, 0, none⟩ = some (.int .i64 a0_0) := (blk_cell BK163.out 0).trans rfl
              have hcz15_1 : wc.cell? ⟨gb163, 1, none⟩ = some (.int .i64 a0_1) := (blk_cell BK163.out 1).trans rfl
              have hcz15_2 : wc.cell? ⟨gb163, 2, none⟩ = some (.int .i64 a0_2) := (blk_cell BK163.out 2).trans rfl
              have hcz15_3 : wc.cell? ⟨gb163, 3, none⟩ = some (.int .i64 a0_3) := (blk_cell BK163.out 3).trans rfl
              have hfz15_0 := blk_frozen BK163.out 0
              have hfz15_1 := blk_frozen BK163.out 1
              have hfz15_2 := blk_frozen BK163.out 2
              have hfz15_3 := blk_frozen BK163.out 3
              go_wp2_with (first | ((with_reducible refine gate_dst (N := 36) rfl ?_); refine Kd.R_lit (Kd.int .i64) _ 3 ?hg (N := 36) ?hd (xs := ([wrap64 (a1 + 1)] : List Int)) (inner := [.int .i64 (wrap64 (a1 + 1))]) (ok := fun _ => True) (okp := fun _ => True) ?hr ?hp (fun _ hk => hk) trivial (Below.refl _ _) (Nat.le_refl _) (by simp) ?_; (case hd => rfl); (case hg => rfl); (case hr => first | (go_simp; done) | (go_simp; rfl)); (case hp => exact (Reps.one (show Kd.M (Kd.int .i64) _ _ _ (wrap64 (a1 + 1)) [.int .i64 (wrap64 (a1 + 1))] from rfl) (Reps.none _ _))); intro v168 w16 ho17 hb hg_ hnew_; clear hg_ hnew_; (first | rw [← Ny167.out] at ho17 | (simp only [Int.reduceToNat] at ho17; rw [← Ny167.out] at ho17)); have n0_ := Aside0.mk (Kd.R_lower ho17 (below_size (by repeat (first | (with_reducible first | exact HB.out | apply below_alloc | apply pw_below_drewN | apply below_drew1 | refine below_set ?_ GE163.out) | exact HB.out)))); have n1_ := Aside0.mk (blk_below (g := gb163) (o := .cells #[.int .i64 a0_0, .int .i64 a0_1, .int .i64 a0_2, .int .i64 a0_3] 23 (0, 0)) (by (with_reducible repeat (first | refine blk_drewN ?_ _ | refine blk_drew ?_ | refine blk_alloc ?_ _)); exact BK163.out) hb); have n2_ := Aside0.mk (below_step (by repeat (first | (with_reducible first | exact HB.out | apply below_alloc | apply pw_below_drewN | apply below_drew1 | refine below_set ?_ GE163.out) | exact HB.out)) hb); clear BK163; clear HB; have HO169 := n0_; have BK163 := n1_; have HB := n2_; clear n0_ n1_ n2_; clear hb ho17))
              go_ret
              exact ⟨_, by first | rfl | (simp [errW_none, errW_some] <;> rfl) | (simp [*, errW_none, errW_some] <;> rfl), by (with_reducible repeat (first | apply Kd.R_alloc | apply Kd.R_drewN | apply Kd.R_drew)); exact HO169.out, by repeat (first | (with_reducible first | exact HB.out | apply below_alloc | apply pw_below_drewN | apply below_drew1 | refine below_set ?_ GE163.out) | exact HB.out)⟩
            · rw [if_neg c14] at H
              have c14b0 : (a0_1 == (wrap64 (a1 + 1))) = false := beq_eq_false_iff_ne.mpr c14
              have c14b1 : (a0_1 != (wrap64 (a1 + 1))) = true := bne_iff_ne.mpr c14
              obtain ⟨y170, hy170⟩ : ∃ y_ : List Int, y_ = (([wrap64 (a1 + 1), a0_1] : List Int)) := ⟨_, rfl⟩
              replace H : (some y170) = some r := by first | (rw [hy170]; with_reducible exact H) | (have H2_ := (Option.bind_some _ _).symm.trans H; rw [hy170]; with_reducible exact H2_) | (have H2_ := (Option.bind_some _ _).symm.trans H; with_reducible exact H2_) | with_reducible exact H | (rw [hy170]; exact H) | exact H
              have Ny170 := Aside0.mk hy170
              clear hy170
              obtain rfl := Option.some.inj H
              have hcz18_0 : wc.cell? ⟨gb163, 0, none⟩ = some (.int .i64 a0_0) := (blk_cell BK163.out 0).trans rfl
              have hcz18_1 : wc.cell? ⟨gb163, 1, none⟩ = some (.int .i64 a0_1) := (blk_cell BK163.out 1).trans rfl
              have hcz18_2 : wc.cell? ⟨gb163, 2, none⟩ = some (.int .i64 a0_2) := (blk_cell BK163.out 2).trans rfl
              have hcz18_3 : wc.cell? ⟨gb163, 3, none⟩ = some (.int .i64 a0_3) := (blk_cell BK163.out 3).trans rfl
              have hfz18_0 := blk_frozen BK163.out 0
              have hfz18_1 := blk_frozen BK163.out 1
              have hfz18_2 := blk_frozen BK163.out 2
              have hfz18_3 := blk_frozen BK163.out 3
              go_wp2_with (first | ((with_reducible refine gate_dst (N := 33) rfl ?_); refine Kd.R_lit (Kd.int .i64) _ 3 ?hg (N := 33) ?hd (xs := ([wrap64 (a1 + 1), a0_1] : List Int)) (inner := [.int .i64 (wrap64 (a1 + 1)), .int .i64 a0_1]) (ok := fun _ => True) (okp := fun _ => True) ?hr ?hp (fun _ hk => hk) trivial (Below.refl _ _) (Nat.le_refl _) (by simp) ?_; (case hd => rfl); (case hg => rfl); (case hr => first | (go_simp; done) | (go_simp; rfl)); (case hp => exact (Reps.one (show Kd.M (Kd.int .i64) _ _ _ (wrap64 (a1 + 1)) [.int .i64 (wrap64 (a1 + 1))] from rfl) (Reps.one (show Kd.M (Kd.int .i64) _ _ _ a0_1 [.int .i64 a0_1] from rfl) (Reps.none _ _)))); intro v171 w19 ho20 hb hg_ hnew_; clear hg_ hnew_; (first | rw [← Ny170.out] at ho20 | (simp only [Int.reduceToNat] at ho20; rw [← Ny170.out] at ho20)); have n0_ := Aside0.mk (Kd.R_lower ho20 (below_size (by repeat (first | (with_reducible first | exact HB.out | apply below_alloc | apply pw_below_drewN | apply below_drew1 | refine below_set ?_ GE163.out) | exact HB.out)))); have n1_ := Aside0.mk (blk_below (g := gb163) (o := .cells #[.int .i64 a0_0, .int .i64 a0_1, .int .i64 a0_2, .int .i64 a0_3] 23 (0, 0)) (by (with_reducible repeat (first | refine blk_drewN ?_ _ | refine blk_drew ?_ | refine blk_alloc ?_ _)); exact BK163.out) hb); have n2_ := Aside0.mk (below_step (by repeat (first | (with_reducible first | exact HB.out | apply below_alloc | apply pw_below_drewN | apply below_drew1 | refine below_set ?_ GE163.out) | exact HB.out)) hb); clear BK163; clear HB; have HO172 := n0_; have BK163 := n1_; have HB := n2_; clear n0_ n1_ n2_; clear hb ho20))
              go_ret
              exact ⟨_, by first | rfl | (simp [errW_none, errW_some] <;> rfl) | (simp [*, errW_none, errW_some] <;> rfl), by (with_reducible repeat (first | apply Kd.R_alloc | apply Kd.R_drewN | apply Kd.R_drew)); exact HO172.out, by repeat (first | (with_reducible first | exact HB.out | apply below_alloc | apply pw_below_drewN | apply below_drew1 | refine below_set ?_ GE163.out) | exact HB.out)⟩
          · rw [if_neg c13] at H
            have c13b0 : decide (19 < a0_0) = false := decide_eq_false c13
            clear c13
            obtain ⟨y173, hy173⟩ : ∃ y_ : List Int, y_ = (([wrap64 (a1 + 1)] : List Int)) := ⟨_, rfl⟩
            replace H : (some y173) = some r := by first | (rw [hy173]; with_reducible exact H) | (have H2_ := (Option.bind_some _ _).symm.trans H; rw [hy173]; with_reducible exact H2_) | (have H2_ := (Option.bind_some _ _).symm.trans H; with_reducible exact H2_) | with_reducible exact H | (rw [hy173]; exact H) | exact H
            have Ny173 := Aside0.mk hy173
            clear hy173
            obtain rfl := Option.some.inj H
            have hcz21_0 : wc.cell? ⟨gb163, 0, none⟩ = some (.int .i64 a0_0) := (blk_cell BK163.out 0).trans rfl
            have hcz21_1 : wc.cell? ⟨gb163, 1, none⟩ = some (.int .i64 a0_1) := (blk_cell BK163.out 1).trans rfl
            have hcz21_2 : wc.cell? ⟨gb163, 2, none⟩ = some (.int .i64 a0_2) := (blk_cell BK163.out 2).trans rfl
            have hcz21_3 : wc.cell? ⟨gb163, 3, none⟩ = some (.int .i64 a0_3) := (blk_cell BK163.out 3).trans rfl
            have hfz21_0 := blk_frozen BK163.out 0
            have hfz21_1 := blk_frozen BK163.out 1
            have hfz21_2 := blk_frozen BK163.out 2
            have hfz21_3 := blk_frozen BK163.out 3
            go_wp2_with (first | ((with_reducible refine gate_dst (N := 36) rfl ?_); refine Kd.R_lit (Kd.int .i64) _ 3 ?hg (N := 36) ?hd (xs := ([wrap64 (a1 + 1)] : List Int)) (inner := [.int .i64 (wrap64 (a1 + 1))]) (ok := fun _ => True) (okp := fun _ => True) ?hr ?hp (fun _ hk => hk) trivial (Below.refl _ _) (Nat.le_refl _) (by simp) ?_; (case hd => rfl); (case hg => rfl); (case hr => first | (go_simp; done) | (go_simp; rfl)); (case hp => exact (Reps.one (show Kd.M (Kd.int .i64) _ _ _ (wrap64 (a1 + 1)) [.int .i64 (wrap64 (a1 + 1))] from rfl) (Reps.none _ _))); intro v174 w22 ho23 hb hg_ hnew_; clear hg_ hnew_; (first | rw [← Ny173.out] at ho23 | (simp only [Int.reduceToNat] at ho23; rw [← Ny173.out] at ho23)); have n0_ := Aside0.mk (Kd.R_lower ho23 (below_size (by repeat (first | (with_reducible first | exact HB.out | apply below_alloc | apply pw_below_drewN | apply below_drew1 | refine below_set ?_ GE163.out) | exact HB.out)))); have n1_ := Aside0.mk (blk_below (g := gb163) (o := .cells #[.int .i64 a0_0, .int .i64 a0_1, .int .i64 a0_2, .int .i64 a0_3] 23 (0, 0)) (by (with_reducible repeat (first | refine blk_drewN ?_ _ | refine blk_drew ?_ | refine blk_alloc ?_ _)); exact BK163.out) hb); have n2_ := Aside0.mk (below_step (by repeat (first | (with_reducible first | exact HB.out | apply below_alloc | apply pw_below_drewN | apply below_drew1 | refine below_set ?_ GE163.out) | exact HB.out)) hb); clear BK163; clear HB; have HO175 := n0_; have BK163 := n1_; have HB := n2_; clear n0_ n1_ n2_; clear hb ho23))
            go_ret
            exact ⟨_, by first | rfl | (simp [errW_none, errW_some] <;> rfl) | (simp [*, errW_none, errW_some] <;> rfl), by (with_reducible repeat (first | apply Kd.R_alloc | apply Kd.R_drewN | apply Kd.R_drew)); exact HO175.out, by repeat (first | (with_reducible first | exact HB.out | apply below_alloc | apply pw_below_drewN | apply below_drew1 | refine below_set ?_ GE163.out) | exact HB.out)⟩

/-! ### baizeref14_Names: function 36 -/
def baizeref14_Names.f  : Option (List ByteArray) := some (([(⟨#[104, 97, 108, 116]⟩ : ByteArray), (⟨#[115, 101, 116]⟩ : ByteArray), (⟨#[109, 111, 118, 101]⟩ : ByteArray), (⟨#[97, 100, 100]⟩ : ByteArray), (⟨#[115, 117, 98]⟩ : ByteArray), (⟨#[109, 117, 108]⟩ : ByteArray), (⟨#[100, 105, 118]⟩ : ByteArray), (⟨#[114, 101, 109]⟩ : ByteArray), (⟨#[101, 113]⟩ : ByteArray), (⟨#[110, 101]⟩ : ByteArray), (⟨#[108, 116]⟩ : ByteArray), (⟨#[108, 101]⟩ : ByteArray), (⟨#[97, 110, 100]⟩ : ByteArray), (⟨#[111, 114]⟩ : ByteArray), (⟨#[110, 111, 116]⟩ : ByteArray), (⟨#[108, 111, 97, 100]⟩ : ByteArray), (⟨#[115, 116, 111, 114, 101]⟩ : ByteArray), (⟨#[99, 117, 116]⟩ : ByteArray), (⟨#[119, 105, 116, 104, 105, 110]⟩ : ByteArray), (⟨#[106, 117, 109, 112]⟩ : ByteArray), (⟨#[106, 122]⟩ : ByteArray), (⟨#[106, 110, 122]⟩ : ByteArray)] : List ByteArray))
set_option maxHeartbeats 8000000 in
set_option maxRecDepth 100000 in
theorem baizeref14_Names.calls  (r : List ByteArray) (w : World) (h : baizeref14_Names.f  = some r) :
    Calls Tryd.prog 36 #[] w fun e w' => ∃ v0_ : Value, e = .returned (v0_) ∧ Kd.R Kd.string 9 w' w.heap.size (fun _ => True) v0_ r ∧ Below w.heap.size w w' := by
  have HB := Aside0.mk (Below.refl w.heap.size w)
  have H : (some (([(⟨#[104, 97, 108, 116]⟩ : ByteArray), (⟨#[115, 101, 116]⟩ : ByteArray), (⟨#[109, 111, 118, 101]⟩ : ByteArray), (⟨#[97, 100, 100]⟩ : ByteArray), (⟨#[115, 117, 98]⟩ : ByteArray), (⟨#[109, 117, 108]⟩ : ByteArray), (⟨#[100, 105, 118]⟩ : ByteArray), (⟨#[114, 101, 109]⟩ : ByteArray), (⟨#[101, 113]⟩ : ByteArray), (⟨#[110, 101]⟩ : ByteArray), (⟨#[108, 116]⟩ : ByteArray), (⟨#[108, 101]⟩ : ByteArray), (⟨#[97, 110, 100]⟩ : ByteArray), (⟨#[111, 114]⟩ : ByteArray), (⟨#[110, 111, 116]⟩ : ByteArray), (⟨#[108, 111, 97, 100]⟩ : ByteArray), (⟨#[115, 116, 111, 114, 101]⟩ : ByteArray), (⟨#[99, 117, 116]⟩ : ByteArray), (⟨#[119, 105, 116, 104, 105, 110]⟩ : ByteArray), (⟨#[106, 117, 109, 112]⟩ : ByteArray), (⟨#[106, 122]⟩ : ByteArray), (⟨#[106, 110, 122]⟩ : ByteArray)] : List ByteArray))) = some r := h
  clear h
  obtain ⟨y176, hy176⟩ : ∃ y_ : List ByteArray, y_ = (([(⟨#[104, 97, 108, 116]⟩ : ByteArray), (⟨#[115, 101, 116]⟩ : ByteArray), (⟨#[109, 111, 118, 101]⟩ : ByteArray), (⟨#[97, 100, 100]⟩ : ByteArray), (⟨#[115, 117, 98]⟩ : ByteArray), (⟨#[109, 117, 108]⟩ : ByteArray), (⟨#[100, 105, 118]⟩ : ByteArray), (⟨#[114, 101, 109]⟩ : ByteArray), (⟨#[101, 113]⟩ : ByteArray), (⟨#[110, 101]⟩ : ByteArray), (⟨#[108, 116]⟩ : ByteArray), (⟨#[108, 101]⟩ : ByteArray), (⟨#[97, 110, 100]⟩ : ByteArray), (⟨#[111, 114]⟩ : ByteArray), (⟨#[110, 111, 116]⟩ : ByteArray), (⟨#[108, 111, 97, 100]⟩ : ByteArray), (⟨#[115, 116, 111, 114, 101]⟩ : ByteArray), (⟨#[99, 117, 116]⟩ : ByteArray), (⟨#[119, 105, 116, 104, 105, 110]⟩ : ByteArray), (⟨#[106, 117, 109, 112]⟩ : ByteArray), (⟨#[106, 122]⟩ : ByteArray), (⟨#[106, 110, 122]⟩ : ByteArray)] : List ByteArray)) := ⟨_, rfl⟩
  replace H : (some y176) = some r := by first | (rw [hy176]; with_reducible exact H) | (have H2_ := (Option.bind_some _ _).symm.trans H; rw [hy176]; with_reducible exact H2_) | (have H2_ := (Option.bind_some _ _).symm.trans H; with_reducible exact H2_) | with_reducible exact H | (rw [hy176]; exact H) | exact H
  have Ny176 := Aside0.mk hy176
  clear hy176
  obtain rfl := Option.some.inj H
  go_enter Tryd.func36, Tryd.ntmps36
  go_wp2_with (first | ((with_reducible refine gate_dst (N := 1) rfl ?_); refine Kd.R_lit Kd.string _ 9 ?hg (N := 1) ?hd (xs := ([(⟨#[104, 97, 108, 116]⟩ : ByteArray), (⟨#[115, 101, 116]⟩ : ByteArray), (⟨#[109, 111, 118, 101]⟩ : ByteArray), (⟨#[97, 100, 100]⟩ : ByteArray), (⟨#[115, 117, 98]⟩ : ByteArray), (⟨#[109, 117, 108]⟩ : ByteArray), (⟨#[100, 105, 118]⟩ : ByteArray), (⟨#[114, 101, 109]⟩ : ByteArray), (⟨#[101, 113]⟩ : ByteArray), (⟨#[110, 101]⟩ : ByteArray), (⟨#[108, 116]⟩ : ByteArray), (⟨#[108, 101]⟩ : ByteArray), (⟨#[97, 110, 100]⟩ : ByteArray), (⟨#[111, 114]⟩ : ByteArray), (⟨#[110, 111, 116]⟩ : ByteArray), (⟨#[108, 111, 97, 100]⟩ : ByteArray), (⟨#[115, 116, 111, 114, 101]⟩ : ByteArray), (⟨#[99, 117, 116]⟩ : ByteArray), (⟨#[119, 105, 116, 104, 105, 110]⟩ : ByteArray), (⟨#[106, 117, 109, 112]⟩ : ByteArray), (⟨#[106, 122]⟩ : ByteArray), (⟨#[106, 110, 122]⟩ : ByteArray)] : List ByteArray)) (inner := [.string (⟨#[104, 97, 108, 116]⟩ : ByteArray), .string (⟨#[115, 101, 116]⟩ : ByteArray), .string (⟨#[109, 111, 118, 101]⟩ : ByteArray), .string (⟨#[97, 100, 100]⟩ : ByteArray), .string (⟨#[115, 117, 98]⟩ : ByteArray), .string (⟨#[109, 117, 108]⟩ : ByteArray), .string (⟨#[100, 105, 118]⟩ : ByteArray), .string (⟨#[114, 101, 109]⟩ : ByteArray), .string (⟨#[101, 113]⟩ : ByteArray), .string (⟨#[110, 101]⟩ : ByteArray), .string (⟨#[108, 116]⟩ : ByteArray), .string (⟨#[108, 101]⟩ : ByteArray), .string (⟨#[97, 110, 100]⟩ : ByteArray), .string (⟨#[111, 114]⟩ : ByteArray), .string (⟨#[110, 111, 116]⟩ : ByteArray), .string (⟨#[108, 111, 97, 100]⟩ : ByteArray), .string (⟨#[115, 116, 111, 114, 101]⟩ : ByteArray), .string (⟨#[99, 117, 116]⟩ : ByteArray), .string (⟨#[119, 105, 116, 104, 105, 110]⟩ : ByteArray), .string (⟨#[106, 117, 109, 112]⟩ : ByteArray), .string (⟨#[106, 122]⟩ : ByteArray), .string (⟨#[106, 110, 122]⟩ : ByteArray)]) (ok := fun _ => True) (okp := fun _ => True) ?hr ?hp (fun _ hk => hk) trivial (Below.refl _ _) (Nat.le_refl _) (by simp) ?_; (case hd => rfl); (case hg => rfl); (case hr => first | (go_simp; done) | (go_simp; rfl)); (case hp => exact (Reps.one (show Kd.M Kd.string _ _ _ (⟨#[104, 97, 108, 116]⟩ : ByteArray) [.string (⟨#[104, 97, 108, 116]⟩ : ByteArray)] from rfl) (Reps.one (show Kd.M Kd.string _ _ _ (⟨#[115, 101, 116]⟩ : ByteArray) [.string (⟨#[115, 101, 116]⟩ : ByteArray)] from rfl) (Reps.one (show Kd.M Kd.string _ _ _ (⟨#[109, 111, 118, 101]⟩ : ByteArray) [.string (⟨#[109, 111, 118, 101]⟩ : ByteArray)] from rfl) (Reps.one (show Kd.M Kd.string _ _ _ (⟨#[97, 100, 100]⟩ : ByteArray) [.string (⟨#[97, 100, 100]⟩ : ByteArray)] from rfl) (Reps.one (show Kd.M Kd.string _ _ _ (⟨#[115, 117, 98]⟩ : ByteArray) [.string (⟨#[115, 117, 98]⟩ : ByteArray)] from rfl) (Reps.one (show Kd.M Kd.string _ _ _ (⟨#[109, 117, 108]⟩ : ByteArray) [.string (⟨#[109, 117, 108]⟩ : ByteArray)] from rfl) (Reps.one (show Kd.M Kd.string _ _ _ (⟨#[100, 105, 118]⟩ : ByteArray) [.string (⟨#[100, 105, 118]⟩ : ByteArray)] from rfl) (Reps.one (show Kd.M Kd.string _ _ _ (⟨#[114, 101, 109]⟩ : ByteArray) [.string (⟨#[114, 101, 109]⟩ : ByteArray)] from rfl) (Reps.one (show Kd.M Kd.string _ _ _ (⟨#[101, 113]⟩ : ByteArray) [.string (⟨#[101, 113]⟩ : ByteArray)] from rfl) (Reps.one (show Kd.M Kd.string _ _ _ (⟨#[110, 101]⟩ : ByteArray) [.string (⟨#[110, 101]⟩ : ByteArray)] from rfl) (Reps.one (show Kd.M Kd.string _ _ _ (⟨#[108, 116]⟩ : ByteArray) [.string (⟨#[108, 116]⟩ : ByteArray)] from rfl) (Reps.one (show Kd.M Kd.string _ _ _ (⟨#[108, 101]⟩ : ByteArray) [.string (⟨#[108, 101]⟩ : ByteArray)] from rfl) (Reps.one (show Kd.M Kd.string _ _ _ (⟨#[97, 110, 100]⟩ : ByteArray) [.string (⟨#[97, 110, 100]⟩ : ByteArray)] from rfl) (Reps.one (show Kd.M Kd.string _ _ _ (⟨#[111, 114]⟩ : ByteArray) [.string (⟨#[111, 114]⟩ : ByteArray)] from rfl) (Reps.one (show Kd.M Kd.string _ _ _ (⟨#[110, 111, 116]⟩ : ByteArray) [.string (⟨#[110, 111, 116]⟩ : ByteArray)] from rfl) (Reps.one (show Kd.M Kd.string _ _ _ (⟨#[108, 111, 97, 100]⟩ : ByteArray) [.string (⟨#[108, 111, 97, 100]⟩ : ByteArray)] from rfl) (Reps.one (show Kd.M Kd.string _ _ _ (⟨#[115, 116, 111, 114, 101]⟩ : ByteArray) [.string (⟨#[115, 116, 111, 114, 101]⟩ : ByteArray)] from rfl) (Reps.one (show Kd.M Kd.string _ _ _ (⟨#[99, 117, 116]⟩ : ByteArray) [.string (⟨#[99, 117, 116]⟩ : ByteArray)] from rfl) (Reps.one (show Kd.M Kd.string _ _ _ (⟨#[119, 105, 116, 104, 105, 110]⟩ : ByteArray) [.string (⟨#[119, 105, 116, 104, 105, 110]⟩ : ByteArray)] from rfl) (Reps.one (show Kd.M Kd.string _ _ _ (⟨#[106, 117, 109, 112]⟩ : ByteArray) [.string (⟨#[106, 117, 109, 112]⟩ : ByteArray)] from rfl) (Reps.one (show Kd.M Kd.string _ _ _ (⟨#[106, 122]⟩ : ByteArray) [.string (⟨#[106, 122]⟩ : ByteArray)] from rfl) (Reps.one (show Kd.M Kd.string _ _ _ (⟨#[106, 110, 122]⟩ : ByteArray) [.string (⟨#[106, 110, 122]⟩ : ByteArray)] from rfl) (Reps.none _ _)))))))))))))))))))))))); intro v177 w1 ho2 hb hg_ hnew_; clear hg_ hnew_; (first | rw [← Ny176.out] at ho2 | (simp only [Int.reduceToNat] at ho2; rw [← Ny176.out] at ho2)); have n0_ := Aside0.mk (Kd.R_lower ho2 (below_size (by repeat (first | (with_reducible first | exact HB.out | apply below_alloc | apply pw_below_drewN | apply below_drew1) | exact HB.out)))); have n1_ := Aside0.mk (below_step (by repeat (first | (with_reducible first | exact HB.out | apply below_alloc | apply pw_below_drewN | apply below_drew1) | exact HB.out)) hb); clear HB; have HO178 := n0_; have HB := n1_; clear n0_ n1_; clear hb ho2))
  go_ret
  exact ⟨_, by first | rfl | (simp [errW_none, errW_some] <;> rfl) | (simp [*, errW_none, errW_some] <;> rfl), by (with_reducible repeat (first | apply Kd.R_alloc | apply Kd.R_drewN | apply Kd.R_drew)); exact HO178.out, by repeat (first | (with_reducible first | exact HB.out | apply below_alloc | apply pw_below_drewN | apply below_drew1) | exact HB.out)⟩

/-! ### baizeref14_Word: function 18 -/
def baizeref14_Word.f (a0 : Int) : Option (ByteArray) := if a0 < 0 then (some (⟨#[]⟩ : ByteArray)) else (if a0 > 21 then (some (⟨#[]⟩ : ByteArray)) else ((baizeref14_Names.f).bind fun t179 => (if 0 ≤ a0 then (if a0 < (t179.length : Int) then (some (rdOf ByteArray.empty t179 a0)) else (none)) else (none))))
set_option maxHeartbeats 8000000 in
set_option maxRecDepth 100000 in
theorem baizeref14_Word.calls (a0 : Int) (r : ByteArray) (w : World) (h : baizeref14_Word.f a0 = some r) :
    Calls Tryd.prog 18 #[.int .i64 a0] w fun e w' => e = .returned (.string r) ∧ Below w.heap.size w w' := by
  have HB := Aside0.mk (Below.refl w.heap.size w)
  have H : (if a0 < 0 then (some (⟨#[]⟩ : ByteArray)) else (if a0 > 21 then (some (⟨#[]⟩ : ByteArray)) else ((baizeref14_Names.f).bind fun t179 => (if 0 ≤ a0 then (if a0 < (t179.length : Int) then (some (rdOf ByteArray.empty t179 a0)) else (none)) else (none))))) = some r := h
  clear h
  by_cases c2 : a0 < 0
  · rw [if_pos c2] at H
    have c2b0 : decide (a0 < 0) = true := decide_eq_true c2
    clear c2
    obtain rfl := Option.some.inj H
    go_enter Tryd.func18, Tryd.ntmps18
    go_wp2
    go_ret
    exact ⟨by first | rfl | (simp [errW_none, errW_some] <;> rfl) | (simp [*, errW_none, errW_some] <;> rfl), by repeat (first | (with_reducible first | exact HB.out | apply below_alloc | apply pw_below_drewN | apply below_drew1) | exact HB.out)⟩
  · rw [if_neg c2] at H
    have c2b0 : decide (a0 < 0) = false := decide_eq_false c2
    clear c2
    by_cases c3 : a0 > 21
    · rw [if_pos c3] at H
      have c3b0 : decide (21 < a0) = true := decide_eq_true c3
      clear c3
      obtain rfl := Option.some.inj H
      go_enter Tryd.func18, Tryd.ntmps18
      go_wp2
      go_ret
      exact ⟨by first | rfl | (simp [errW_none, errW_some] <;> rfl) | (simp [*, errW_none, errW_some] <;> rfl), by repeat (first | (with_reducible first | exact HB.out | apply below_alloc | apply pw_below_drewN | apply below_drew1) | exact HB.out)⟩
    · rw [if_neg c3] at H
      have c3b0 : decide (21 < a0) = false := decide_eq_false c3
      clear c3
      replace H := Option.bind_eq_some_iff.mp H
      obtain ⟨t179, A40, H⟩ := H
      replace H : (if 0 ≤ a0 then (if a0 < (t179.length : Int) then (some (rdOf ByteArray.empty t179 a0)) else (none)) else (none)) = some r := H
      have A4 := Aside0.mk A40
      clear A40
      by_cases c5 : 0 ≤ a0
      · rw [if_pos c5] at H
        have c5b0 : decide (0 ≤ a0) = true := decide_eq_true c5
        clear c5
        by_cases c6 : a0 < (t179.length : Int)
        · rw [if_pos c6] at H
          have c6b0 : decide (a0 < (t179.length : Int)) = true := decide_eq_true c6
          clear c6
          obtain rfl := Option.some.inj H
          go_enter Tryd.func18, Tryd.ntmps18
          go_wp2_with (first | ((with_reducible refine gate_callee (f := 36) rfl ?_); refine goesL_ (some 9) rfl rfl Tryd.func36 (by kernel_rfl) rfl #[] rfl (by (try simp only [List.map_toArray, List.map_cons, List.map_nil]); first | done | rfl | (simp only [List.length_drop, List.length_take]; rfl)) ?_; (with_reducible refine (baizeref14_Names.calls  t179 _ A4.out).mono ?_); rintro e w7 ⟨v180, rfl, ho0, hb⟩; refine ⟨_, rfl, ?_⟩; have n0_ := Aside0.mk (Kd.R_lower ho0 (below_size (by repeat (first | (with_reducible first | exact HB.out | apply below_alloc | apply pw_below_drewN | apply below_drew1) | exact HB.out)))); have n1_ := Aside0.mk (below_step (by repeat (first | (with_reducible first | exact HB.out | apply below_alloc | apply pw_below_drewN | apply below_drew1) | exact HB.out)) hb); clear HB; have HO181 := n0_; have HB := n1_; clear n0_ n1_; (try clear hb); (try clear hb2); (try clear hk); (try clear hi); (try clear ho0); obtain ⟨Ao8, co8, eo8⟩ := Kd.R_slice HO181.out; subst eo8; have p182 : 0 ≤ (a0 : Int) := of_decide_eq_true (by first | (with_reducible assumption) | assumption); have q182 : a0 < (t179.length : Int) := of_decide_eq_true (by first | (with_reducible assumption) | assumption); obtain ⟨ad182, e182, hx182_0⟩ := Kd.at_string (Kd.R_reads' HO181.out).2.2 a0 p182 q182; cases e182; replace p182 := eq_true p182; replace q182 := eq_true q182))
          go_ret
          exact ⟨by first | rfl | (simp [errW_none, errW_some] <;> rfl) | (simp [*, errW_none, errW_some] <;> rfl), by repeat (first | (with_reducible first | exact HB.out | apply below_alloc | apply pw_below_drewN | apply below_drew1) | exact HB.out)⟩
        · rw [if_neg c6] at H
          exact absurd H (by simp)
      · rw [if_neg c5] at H
        exact absurd H (by simp)

/-! ### code_small: function 37 -/
def code_small.f (a0 : Int) : Option (Bool) := if a0 ≥ (-2147483648) then (some (decide (a0 ≤ 2147483647))) else (some false)
set_option maxHeartbeats 8000000 in
set_option maxRecDepth 100000 in
theorem code_small.calls (a0 : Int) (r : Bool) (w : World) (h : code_small.f a0 = some r) :
    Calls Tryd.prog 37 #[.int .i64 a0] w fun e w' => e = .returned (.bool r) ∧ Drawn0 w w' := by
  have H : (if a0 ≥ (-2147483648) then (some (decide (a0 ≤ 2147483647))) else (some false)) = some r := h
  clear h
  by_cases c2 : a0 ≥ (-2147483648)
  · rw [if_pos c2] at H
    have c2b0 : decide ((-2147483648) ≤ a0) = true := decide_eq_true c2
    clear c2
    obtain rfl := Option.some.inj H
    go_enter Tryd.func37, Tryd.ntmps37
    go_wp2
    go_ret
    exact ⟨by first | rfl | (simp; done) | (simp [*]; done), by repeat (first | exact Drawn0.refl _ | apply Drawn0.step)⟩
  · rw [if_neg c2] at H
    have c2b0 : decide ((-2147483648) ≤ a0) = false := decide_eq_false c2
    clear c2
    obtain rfl := Option.some.inj H
    go_enter Tryd.func37, Tryd.ntmps37
    go_wp2
    go_ret
    exact ⟨by first | rfl | (simp; done) | (simp [*]; done), by repeat (first | exact Drawn0.refl _ | apply Drawn0.step)⟩

/-! ### baizelaw14_Of: function 21 -/
def baizelaw14_Of.l0 : Nat → List (S24) → List (S23) → Int → Int → Option ((List (S24)))
  | 0, _, _, _, _ => none
  | k + 1, x3, x6, x7, x8 => if x8 < x7 then (if 0 ≤ x8 then (if x8 < (x6.length : Int) then (if x3.length < 4398046511104 then (baizelaw14_Of.l0 k (x3 ++ [(⟨(rd_T23 x6 x8).f0, (rd_T23 x6 x8).f1, (rd_T23 x6 x8).f2, (rd_T23 x6 x8).f3⟩ : S24)]) x6 x7 (wrap64 (x8 + 1))) else (none)) else (none)) else (none)) else (some x3)
def baizelaw14_Of.f (k : Nat) (l0 : List (S23)) : Option ((List (S24))) := baizelaw14_Of.l0 k ([] : List (S24)) l0 (l0.length : Int) 0
theorem baizelaw14_Of.mono_l : ∀ k, (∀ y0 y1 y2 y3, LeO (baizelaw14_Of.l0 k y0 y1 y2 y3) (baizelaw14_Of.l0 (k + 1) y0 y1 y2 y3))
  | 0 => fun _ _ _ _ r h => by simp [baizelaw14_Of.l0] at h
  | k + 1 => by
    have ih0 := baizelaw14_Of.mono_l k
    · intro y0 y1 y2 y3
      unfold baizelaw14_Of.l0
      repeat' first
      | (with_reducible exact ih0 _ _ _ _)
      | (with_reducible exact LeO.refl _)
      | (with_reducible exact LeO.none _)
      | (with_reducible refine LeO.ite ?_ ?_)
      | (with_reducible refine LeO.bind ?_ (fun _ => ?_))
      | exact ih0 _ _ _ _
      | exact LeO.none _
      | refine LeO.ite ?_ ?_
      | refine LeO.bind ?_ (fun _ => ?_)
theorem baizelaw14_Of.mono : ∀ a0 k, LeO (baizelaw14_Of.f k a0) (baizelaw14_Of.f (k + 1) a0) := by
  intro a0 k
  have ih0 := baizelaw14_Of.mono_l k
  unfold baizelaw14_Of.f
  repeat' first
      | (with_reducible exact ih0 _ _ _ _)
      | (with_reducible exact LeO.refl _)
      | (with_reducible exact LeO.none _)
      | (with_reducible refine LeO.ite ?_ ?_)
      | (with_reducible refine LeO.bind ?_ (fun _ => ?_))
      | exact ih0 _ _ _ _
      | exact LeO.none _
      | refine LeO.ite ?_ ?_
      | refine LeO.bind ?_ (fun _ => ?_)
set_option maxHeartbeats 8000000 in
set_option maxRecDepth 100000 in
theorem baizelaw14_Of.calls (k : Nat) (A0 : Option Addr) (c0 : Nat) (l0 : List (S23)) (r : List (S24)) (w : World) (hr0 : Kd.C k23 w A0 l0.length l0) (hc0 : l0.length ≤ c0) (h : baizelaw14_Of.f k l0 = some r) :
    Calls Tryd.prog 21 #[.slice A0 l0.length c0] w fun e w' => ∃ v0_ : Value, e = .returned (v0_) ∧ Kd.R k24 24 w' w.heap.size (fun _ => True) v0_ r ∧ Below w.heap.size w w' := by
  have hu23 := Tryd.underlying23
  have HR0 := Aside0.mk hr0
  have HC0 := Aside0.mk hc0
  clear hr0 hc0
  have HB := Aside0.mk (Below.refl w.heap.size w)
  have H : (baizelaw14_Of.l0 k ([] : List (S24)) l0 (l0.length : Int) 0) = some r := h
  clear h
  have H' := Aside0.mk H
  clear H
  go_enter Tryd.func21, Tryd.ntmps21
  go_wp2
  go_loopg [3, 8] k (fun kq v3 v8 w' => ∃ (x3_1 : List (S24)) (x8_1 : Int), v8 = .int .i64 x8_1 ∧ Aside0 (baizelaw14_Of.l0 kq x3_1 l0 (l0.length : Int) x8_1 = some r) ∧ Aside0 (kq ≤ k) ∧ Aside0 (Kd.R k24 24 w' w.heap.size (fun _ => True) v3 x3_1) ∧ Aside0 (Below w.heap.size w w'))
  case atStart => exact ⟨(([] : List (S24))), (0), (by first | rfl | (simp; done) | (simp [*]; done)), H', ⟨Nat.le_refl _⟩, ⟨by first | exact Kd.R_nil _ _ _ _ _ | exact Kd.N_nil _ _ _ _ _ | exact Kd.V_nil _ _ _ _ _ | exact Kd.Q_nil _ _ _ _ _ | exact Kd.S_nil _ _ _ _ _⟩, ⟨by repeat (first | (with_reducible first | exact HB.out | apply below_alloc | apply pw_below_drewN | apply below_drew1) | exact HB.out)⟩⟩
  case round =>
    clear H'
    obtain ⟨x3_1, x8_1, rfl, HA, HK1, HO_3, HB⟩ := hrel
    cases gk with
    | zero => exact absurd HA.out (by simp [baizelaw14_Of.l0])
    | succ k1 =>
      have H := HA.out
      clear HA
      simp only [baizelaw14_Of.l0] at H
      by_cases c2 : x8_1 < (l0.length : Int)
      · rw [if_pos c2] at H
        have c2b0 : decide (x8_1 < (l0.length : Int)) = true := decide_eq_true c2
        clear c2
        by_cases c3 : 0 ≤ x8_1
        · rw [if_pos c3] at H
          have c3b0 : decide (0 ≤ x8_1) = true := decide_eq_true c3
          clear c3
          by_cases c4 : x8_1 < (l0.length : Int)
          · rw [if_pos c4] at H
            have c4b0 : decide (x8_1 < (l0.length : Int)) = true := decide_eq_true c4
            clear c4
            by_cases c5 : x3_1.length < 4398046511104
            · rw [if_pos c5] at H
              have LMc5 := Aside0.mk c5
              clear c5
              obtain ⟨y225, hy225⟩ : ∃ y_ : List (S24), y_ = (x3_1 ++ [(⟨(rd_T23 l0 x8_1).f0, (rd_T23 l0 x8_1).f1, (rd_T23 l0 x8_1).f2, (rd_T23 l0 x8_1).f3⟩ : S24)]) := ⟨_, rfl⟩
              replace H : (baizelaw14_Of.l0 k1 y225 l0 (l0.length : Int) (wrap64 (x8_1 + 1))) = some r := by first | (rw [hy225]; with_reducible exact H) | (have H2_ := (Option.bind_some _ _).symm.trans H; rw [hy225]; with_reducible exact H2_) | (have H2_ := (Option.bind_some _ _).symm.trans H; with_reducible exact H2_) | with_reducible exact H | (rw [hy225]; exact H) | exact H
              have Ny225 := Aside0.mk hy225
              clear hy225
              have H' := Aside0.mk H
              clear H
              have p223 : 0 ≤ (x8_1 : Int) := of_decide_eq_true (by first | (with_reducible assumption) | assumption)
              have q223 : x8_1 < (l0.length : Int) := of_decide_eq_true (by first | (with_reducible assumption) | assumption)
              obtain ⟨ad223, e223, hx223_0, hx223_1, hx223_2, hx223_3⟩ := at_T23 HR0.out x8_1 p223 q223
              cases e223
              replace hx223_0 := (HB.out.cell (World.block_lt_of_cell? w _ hx223_0)).trans hx223_0
              replace hx223_1 := (HB.out.cell (World.block_lt_of_cell? w _ hx223_1)).trans hx223_1
              replace hx223_2 := (HB.out.cell (World.block_lt_of_cell? w _ hx223_2)).trans hx223_2
              replace hx223_3 := (HB.out.cell (World.block_lt_of_cell? w _ hx223_3)).trans hx223_3
              replace p223 := eq_true p223
              replace q223 := eq_true q223
              go_wp2_with (first | ((with_reducible refine gate_dst (N := 5) rfl ?_); refine box_event ?hg (N := 5) ?hd (cs := #[.int .i64 0, .int .i64 0, .int .i64 0, .int .i64 0]) (t := 23) ?hr ?_; (case hd => rfl); (case hg => rfl); (case hr => first | (go_simp; done) | (go_simp; rfl)); intro gb224 hg w6 hbox hb; have n0_ := Aside0.mk (Kd.R_below (by (with_reducible repeat (first | apply Kd.R_alloc | apply Kd.R_drewN | apply Kd.R_drew)); exact HO_3.out) hb); have n1_ := Aside0.mk (below_step (by repeat (first | (with_reducible first | exact HB.out | apply below_alloc | apply pw_below_drewN | apply below_drew1) | exact HB.out)) hb); have n2_ := Aside0.mk (hbox); have n3_ := Aside0.mk ((by rw [hg]; exact (below_size (by repeat (first | (with_reducible first | exact HB.out | apply below_alloc | apply pw_below_drewN | apply below_drew1) | exact HB.out))) : w.heap.size ≤ gb224)); have n4_ := Aside0.mk ((by rw [hg]; exact (below_size (by repeat (first | (with_reducible first | exact HB.out | apply below_alloc | apply pw_below_drewN | apply below_drew1) | exact HB.out))) : w.heap.size ≤ gb224)); clear HO_3; clear HB; have HO_3 := n0_; have HB := n1_; have BK224 := n2_; have GW224 := n3_; have GE224 := n4_; clear n0_ n1_ n2_ n3_ n4_; clear hb hbox hg; have hcz7_0 : w6.cell? ⟨gb224, 0, none⟩ = some (.int .i64 0) := (blk_cell BK224.out 0).trans rfl; have hcz7_1 : w6.cell? ⟨gb224, 1, none⟩ = some (.int .i64 0) := (blk_cell BK224.out 1).trans rfl; have hcz7_2 : w6.cell? ⟨gb224, 2, none⟩ = some (.int .i64 0) := (blk_cell BK224.out 2).trans rfl; have hcz7_3 : w6.cell? ⟨gb224, 3, none⟩ = some (.int .i64 0) := (blk_cell BK224.out 3).trans rfl; have hfz7_0 := blk_frozen BK224.out 0; have hfz7_1 := blk_frozen BK224.out 1; have hfz7_2 := blk_frozen BK224.out 2; have hfz7_3 := blk_frozen BK224.out 3) | ((with_reducible refine gate_builtin (b := .append) (xs := #[.tmp 12, .tmp 14]) rfl ?_); at_builtin; refine Kd.R_append k24 (w0 := w) w.heap.size rfl (.tmp 12) (.tmp 14) 43 24 (.agg #[(.int .i64 0), (.int .i64 0), (.int .i64 0), (.int .i64 0)]) 32 rfl Tryd.underlying43 info24 rfl (by decide) (by omega) u3 x3_1 (⟨(rd_T23 l0 x8_1).f0, (rd_T23 l0 x8_1).f1, (rd_T23 l0 x8_1).f2, (rd_T23 l0 x8_1).f3⟩ : S24) [.int .i64 ((rd_T23 l0 x8_1).f0), .int .i64 ((rd_T23 l0 x8_1).f1), .int .i64 ((rd_T23 l0 x8_1).f2), .int .i64 ((rd_T23 l0 x8_1).f3)] (fun _ => True) (fun _ => False) rfl (by first | (go_simp; done) | (go_simp; rfl)) ?aP (fun _ hk => hk.elim) ?aF ?aO ?aB ?aS ?aL ?_; (case aP => exact k24_mkM _ _ _ (⟨(rd_T23 l0 x8_1).f0, (rd_T23 l0 x8_1).f1, (rd_T23 l0 x8_1).f2, (rd_T23 l0 x8_1).f3⟩ : S24)); (case aB => exact (by repeat (first | (with_reducible first | exact HB.out | apply below_alloc | apply pw_below_drewN | apply below_drew1 | refine below_set ?_ GE224.out) | exact HB.out))); (case aF => exact (fun _ _ => trivial)); (case aO => exact (by (with_reducible repeat (first | apply Kd.R_alloc | apply Kd.R_drewN | apply Kd.R_drew)); exact Kd.R_mono (Kd.R_far (p := ⟨gb224, 3, none⟩) (Kd.R_far (p := ⟨gb224, 2, none⟩) (Kd.R_far (p := ⟨gb224, 1, none⟩) (Kd.R_far (p := ⟨gb224, 0, none⟩) (Kd.R_types HO_3.out BK224.out (by decide)) (fun _ hk => hk.2) (.int .i64 ((rd_T23 l0 x8_1).f0))) (fun _ hk => hk.2) (.int .i64 ((rd_T23 l0 x8_1).f1))) (fun _ hk => hk.2) (.int .i64 ((rd_T23 l0 x8_1).f2))) (fun _ hk => hk.2) (.int .i64 ((rd_T23 l0 x8_1).f3))) (fun _ hk => trivial))); (case aS => exact (below_size (by repeat (first | (with_reducible first | exact HB.out | apply below_alloc | apply pw_below_drewN | apply below_drew1 | refine below_set ?_ GE224.out) | exact HB.out)))); (case aL => have := LMc5.out; omega); intro v226 w8 ho hb hg hat; rw [← Ny225.out] at ho; have n0_ := Aside0.mk (blk_grown (g := gb224) (o := .cells #[.int .i64 ((rd_T23 l0 x8_1).f0), .int .i64 ((rd_T23 l0 x8_1).f1), .int .i64 ((rd_T23 l0 x8_1).f2), .int .i64 ((rd_T23 l0 x8_1).f3)] 23 (0, 0)) (by (with_reducible repeat (first | refine blk_drewN ?_ _ | refine blk_drew ?_ | refine blk_alloc ?_ _)); refine blk_put (cs := #[.int .i64 ((rd_T23 l0 x8_1).f0), .int .i64 ((rd_T23 l0 x8_1).f1), .int .i64 ((rd_T23 l0 x8_1).f2), .int .i64 0]) ?_ 3 _ rfl; (with_reducible repeat (first | refine blk_drewN ?_ _ | refine blk_drew ?_ | refine blk_alloc ?_ _)); refine blk_put (cs := #[.int .i64 ((rd_T23 l0 x8_1).f0), .int .i64 ((rd_T23 l0 x8_1).f1), .int .i64 0, .int .i64 0]) ?_ 2 _ rfl; (with_reducible repeat (first | refine blk_drewN ?_ _ | refine blk_drew ?_ | refine blk_alloc ?_ _)); refine blk_put (cs := #[.int .i64 ((rd_T23 l0 x8_1).f0), .int .i64 0, .int .i64 0, .int .i64 0]) ?_ 1 _ rfl; (with_reducible repeat (first | refine blk_drewN ?_ _ | refine blk_drew ?_ | refine blk_alloc ?_ _)); refine blk_put (cs := #[.int .i64 0, .int .i64 0, .int .i64 0, .int .i64 0]) ?_ 0 _ rfl; (with_reducible repeat (first | refine blk_drewN ?_ _ | refine blk_drew ?_ | refine blk_alloc ?_ _)); exact BK224.out) hg (Kd.R_ne HO_3.out BK224.out (by decide))); have n1_ := Aside0.mk (hb); have n2_ := Aside0.mk (ho); clear BK224; clear HB; clear HO_3; have BK224 := n0_; have HB := n1_; have HO227 := n2_; clear n0_ n1_ n2_; clear ho hb hg hat))
              go_roundg k1
              case measure => have := HK1.out; omega
              case rel => exact ⟨(y225), (wrap64 (x8_1 + 1)), (by first | rfl | (simp; done) | (simp [*]; done)), H', ⟨by have := HK1.out; omega⟩, ⟨by (with_reducible repeat (first | apply Kd.R_alloc | apply Kd.R_drewN | apply Kd.R_drew)); exact HO227.out⟩, ⟨by repeat (first | (with_reducible first | exact HB.out | apply below_alloc | apply pw_below_drewN | apply below_drew1 | refine below_set ?_ GE224.out) | exact HB.out)⟩⟩
            · rw [if_neg c5] at H
              exact absurd H (by simp)
          · rw [if_neg c4] at H
            exact absurd H (by simp)
        · rw [if_neg c3] at H
          exact absurd H (by simp)
      · rw [if_neg c2] at H
        have c2b0 : decide (x8_1 < (l0.length : Int)) = false := decide_eq_false c2
        clear c2
        obtain rfl := Option.some.inj H
        go_wp2
        go_ret
        exact ⟨_, by first | rfl | (simp [errW_none, errW_some] <;> rfl) | (simp [*, errW_none, errW_some] <;> rfl), by (with_reducible repeat (first | apply Kd.R_alloc | apply Kd.R_drewN | apply Kd.R_drew)); exact HO_3.out, by repeat (first | (with_reducible first | exact HB.out | apply below_alloc | apply pw_below_drewN | apply below_drew1) | exact HB.out)⟩

/-! ### baizeref14_Has: function 40 -/
def baizeref14_Has.f (a0 : Int) : Option (ByteArray) := if a0 < 0 then (some (⟨#[]⟩ : ByteArray)) else (if a0 > 21 then (some (⟨#[]⟩ : ByteArray)) else ((some (([(⟨#[110]⟩ : ByteArray), (⟨#[119, 110]⟩ : ByteArray), (⟨#[119, 119]⟩ : ByteArray), (⟨#[119, 119, 119]⟩ : ByteArray), (⟨#[119, 119, 119]⟩ : ByteArray), (⟨#[119, 119, 119]⟩ : ByteArray), (⟨#[119, 119, 119]⟩ : ByteArray), (⟨#[119, 119, 119]⟩ : ByteArray), (⟨#[119, 119, 119]⟩ : ByteArray), (⟨#[119, 119, 119]⟩ : ByteArray), (⟨#[119, 119, 119]⟩ : ByteArray), (⟨#[119, 119, 119]⟩ : ByteArray), (⟨#[119, 119, 119]⟩ : ByteArray), (⟨#[119, 119, 119]⟩ : ByteArray), (⟨#[119, 119]⟩ : ByteArray), (⟨#[119, 119, 119]⟩ : ByteArray), (⟨#[119, 119, 119]⟩ : ByteArray), (⟨#[119, 110, 110]⟩ : ByteArray), (⟨#[119, 119, 110]⟩ : ByteArray), (⟨#[112]⟩ : ByteArray), (⟨#[112, 119]⟩ : ByteArray), (⟨#[112, 119]⟩ : ByteArray)] : List ByteArray) : List ByteArray)).bind fun y228 => (if 0 ≤ a0 then (if a0 < (y228.length : Int) then (some (rdOf ByteArray.empty y228 a0)) else (none)) else (none))))
set_option maxHeartbeats 8000000 in
set_option maxRecDepth 100000 in
theorem baizeref14_Has.calls (a0 : Int) (r : ByteArray) (w : World) (h : baizeref14_Has.f a0 = some r) :
    Calls Tryd.prog 40 #[.int .i64 a0] w fun e w' => e = .returned (.string r) ∧ Below w.heap.size w w' := by
  have HB := Aside0.mk (Below.refl w.heap.size w)
  have H : (if a0 < 0 then (some (⟨#[]⟩ : ByteArray)) else (if a0 > 21 then (some (⟨#[]⟩ : ByteArray)) else ((some (([(⟨#[110]⟩ : ByteArray), (⟨#[119, 110]⟩ : ByteArray), (⟨#[119, 119]⟩ : ByteArray), (⟨#[119, 119, 119]⟩ : ByteArray), (⟨#[119, 119, 119]⟩ : ByteArray), (⟨#[119, 119, 119]⟩ : ByteArray), (⟨#[119, 119, 119]⟩ : ByteArray), (⟨#[119, 119, 119]⟩ : ByteArray), (⟨#[119, 119, 119]⟩ : ByteArray), (⟨#[119, 119, 119]⟩ : ByteArray), (⟨#[119, 119, 119]⟩ : ByteArray), (⟨#[119, 119, 119]⟩ : ByteArray), (⟨#[119, 119, 119]⟩ : ByteArray), (⟨#[119, 119, 119]⟩ : ByteArray), (⟨#[119, 119]⟩ : ByteArray), (⟨#[119, 119, 119]⟩ : ByteArray), (⟨#[119, 119, 119]⟩ : ByteArray), (⟨#[119, 110, 110]⟩ : ByteArray), (⟨#[119, 119, 110]⟩ : ByteArray), (⟨#[112]⟩ : ByteArray), (⟨#[112, 119]⟩ : ByteArray), (⟨#[112, 119]⟩ : ByteArray)] : List ByteArray) : List ByteArray)).bind fun y228 => (if 0 ≤ a0 then (if a0 < (y228.length : Int) then (some (rdOf ByteArray.empty y228 a0)) else (none)) else (none))))) = some r := h
  clear h
  by_cases c2 : a0 < 0
  · rw [if_pos c2] at H
    have c2b0 : decide (a0 < 0) = true := decide_eq_true c2
    clear c2
    obtain rfl := Option.some.inj H
    go_enter Tryd.func40, Tryd.ntmps40
    go_wp2
    go_ret
    exact ⟨by first | rfl | (simp [errW_none, errW_some] <;> rfl) | (simp [*, errW_none, errW_some] <;> rfl), by repeat (first | (with_reducible first | exact HB.out | apply below_alloc | apply pw_below_drewN | apply below_drew1) | exact HB.out)⟩
  · rw [if_neg c2] at H
    have c2b0 : decide (a0 < 0) = false := decide_eq_false c2
    clear c2
    by_cases c3 : a0 > 21
    · rw [if_pos c3] at H
      have c3b0 : decide (21 < a0) = true := decide_eq_true c3
      clear c3
      obtain rfl := Option.some.inj H
      go_enter Tryd.func40, Tryd.ntmps40
      go_wp2
      go_ret
      exact ⟨by first | rfl | (simp [errW_none, errW_some] <;> rfl) | (simp [*, errW_none, errW_some] <;> rfl), by repeat (first | (with_reducible first | exact HB.out | apply below_alloc | apply pw_below_drewN | apply below_drew1) | exact HB.out)⟩
    · rw [if_neg c3] at H
      have c3b0 : decide (21 < a0) = false := decide_eq_false c3
      clear c3
      obtain ⟨y228, hy228⟩ : ∃ y_ : List ByteArray, y_ = (([(⟨#[110]⟩ : ByteArray), (⟨#[119, 110]⟩ : ByteArray), (⟨#[119, 119]⟩ : ByteArray), (⟨#[119, 119, 119]⟩ : ByteArray), (⟨#[119, 119, 119]⟩ : ByteArray), (⟨#[119, 119, 119]⟩ : ByteArray), (⟨#[119, 119, 119]⟩ : ByteArray), (⟨#[119, 119, 119]⟩ : ByteArray), (⟨#[119, 119, 119]⟩ : ByteArray), (⟨#[119, 119, 119]⟩ : ByteArray), (⟨#[119, 119, 119]⟩ : ByteArray), (⟨#[119, 119, 119]⟩ : ByteArray), (⟨#[119, 119, 119]⟩ : ByteArray), (⟨#[119, 119, 119]⟩ : ByteArray), (⟨#[119, 119]⟩ : ByteArray), (⟨#[119, 119, 119]⟩ : ByteArray), (⟨#[119, 119, 119]⟩ : ByteArray), (⟨#[119, 110, 110]⟩ : ByteArray), (⟨#[119, 119, 110]⟩ : ByteArray), (⟨#[112]⟩ : ByteArray), (⟨#[112, 119]⟩ : ByteArray), (⟨#[112, 119]⟩ : ByteArray)] : List ByteArray)) := ⟨_, rfl⟩
      replace H : (if 0 ≤ a0 then (if a0 < (y228.length : Int) then (some (rdOf ByteArray.empty y228 a0)) else (none)) else (none)) = some r := by first | (rw [hy228]; with_reducible exact H) | (have H2_ := (Option.bind_some _ _).symm.trans H; rw [hy228]; with_reducible exact H2_) | (have H2_ := (Option.bind_some _ _).symm.trans H; with_reducible exact H2_) | with_reducible exact H | (rw [hy228]; exact H) | exact H
      have Ny228 := Aside0.mk hy228
      clear hy228
      by_cases c4 : 0 ≤ a0
      · rw [if_pos c4] at H
        have c4b0 : decide (0 ≤ a0) = true := decide_eq_true c4
        clear c4
        by_cases c5 : a0 < (y228.length : Int)
        · rw [if_pos c5] at H
          have c5b0 : decide (a0 < (y228.length : Int)) = true := decide_eq_true c5
          clear c5
          obtain rfl := Option.some.inj H
          go_enter Tryd.func40, Tryd.ntmps40
          go_wp2_with (first | ((with_reducible refine gate_dst (N := 9) rfl ?_); refine Kd.R_lit Kd.string _ 9 ?hg (N := 9) ?hd (xs := ([(⟨#[110]⟩ : ByteArray), (⟨#[119, 110]⟩ : ByteArray), (⟨#[119, 119]⟩ : ByteArray), (⟨#[119, 119, 119]⟩ : ByteArray), (⟨#[119, 119, 119]⟩ : ByteArray), (⟨#[119, 119, 119]⟩ : ByteArray), (⟨#[119, 119, 119]⟩ : ByteArray), (⟨#[119, 119, 119]⟩ : ByteArray), (⟨#[119, 119, 119]⟩ : ByteArray), (⟨#[119, 119, 119]⟩ : ByteArray), (⟨#[119, 119, 119]⟩ : ByteArray), (⟨#[119, 119, 119]⟩ : ByteArray), (⟨#[119, 119, 119]⟩ : ByteArray), (⟨#[119, 119, 119]⟩ : ByteArray), (⟨#[119, 119]⟩ : ByteArray), (⟨#[119, 119, 119]⟩ : ByteArray), (⟨#[119, 119, 119]⟩ : ByteArray), (⟨#[119, 110, 110]⟩ : ByteArray), (⟨#[119, 119, 110]⟩ : ByteArray), (⟨#[112]⟩ : ByteArray), (⟨#[112, 119]⟩ : ByteArray), (⟨#[112, 119]⟩ : ByteArray)] : List ByteArray)) (inner := [.string (⟨#[110]⟩ : ByteArray), .string (⟨#[119, 110]⟩ : ByteArray), .string (⟨#[119, 119]⟩ : ByteArray), .string (⟨#[119, 119, 119]⟩ : ByteArray), .string (⟨#[119, 119, 119]⟩ : ByteArray), .string (⟨#[119, 119, 119]⟩ : ByteArray), .string (⟨#[119, 119, 119]⟩ : ByteArray), .string (⟨#[119, 119, 119]⟩ : ByteArray), .string (⟨#[119, 119, 119]⟩ : ByteArray), .string (⟨#[119, 119, 119]⟩ : ByteArray), .string (⟨#[119, 119, 119]⟩ : ByteArray), .string (⟨#[119, 119, 119]⟩ : ByteArray), .string (⟨#[119, 119, 119]⟩ : ByteArray), .string (⟨#[119, 119, 119]⟩ : ByteArray), .string (⟨#[119, 119]⟩ : ByteArray), .string (⟨#[119, 119, 119]⟩ : ByteArray), .string (⟨#[119, 119, 119]⟩ : ByteArray), .string (⟨#[119, 110, 110]⟩ : ByteArray), .string (⟨#[119, 119, 110]⟩ : ByteArray), .string (⟨#[112]⟩ : ByteArray), .string (⟨#[112, 119]⟩ : ByteArray), .string (⟨#[112, 119]⟩ : ByteArray)]) (ok := fun _ => True) (okp := fun _ => True) ?hr ?hp (fun _ hk => hk) trivial (Below.refl _ _) (Nat.le_refl _) (by simp) ?_; (case hd => rfl); (case hg => rfl); (case hr => first | (go_simp; done) | (go_simp; rfl)); (case hp => exact (Reps.one (show Kd.M Kd.string _ _ _ (⟨#[110]⟩ : ByteArray) [.string (⟨#[110]⟩ : ByteArray)] from rfl) (Reps.one (show Kd.M Kd.string _ _ _ (⟨#[119, 110]⟩ : ByteArray) [.string (⟨#[119, 110]⟩ : ByteArray)] from rfl) (Reps.one (show Kd.M Kd.string _ _ _ (⟨#[119, 119]⟩ : ByteArray) [.string (⟨#[119, 119]⟩ : ByteArray)] from rfl) (Reps.one (show Kd.M Kd.string _ _ _ (⟨#[119, 119, 119]⟩ : ByteArray) [.string (⟨#[119, 119, 119]⟩ : ByteArray)] from rfl) (Reps.one (show Kd.M Kd.string _ _ _ (⟨#[119, 119, 119]⟩ : ByteArray) [.string (⟨#[119, 119, 119]⟩ : ByteArray)] from rfl) (Reps.one (show Kd.M Kd.string _ _ _ (⟨#[119, 119, 119]⟩ : ByteArray) [.string (⟨#[119, 119, 119]⟩ : ByteArray)] from rfl) (Reps.one (show Kd.M Kd.string _ _ _ (⟨#[119, 119, 119]⟩ : ByteArray) [.string (⟨#[119, 119, 119]⟩ : ByteArray)] from rfl) (Reps.one (show Kd.M Kd.string _ _ _ (⟨#[119, 119, 119]⟩ : ByteArray) [.string (⟨#[119, 119, 119]⟩ : ByteArray)] from rfl) (Reps.one (show Kd.M Kd.string _ _ _ (⟨#[119, 119, 119]⟩ : ByteArray) [.string (⟨#[119, 119, 119]⟩ : ByteArray)] from rfl) (Reps.one (show Kd.M Kd.string _ _ _ (⟨#[119, 119, 119]⟩ : ByteArray) [.string (⟨#[119, 119, 119]⟩ : ByteArray)] from rfl) (Reps.one (show Kd.M Kd.string _ _ _ (⟨#[119, 119, 119]⟩ : ByteArray) [.string (⟨#[119, 119, 119]⟩ : ByteArray)] from rfl) (Reps.one (show Kd.M Kd.string _ _ _ (⟨#[119, 119, 119]⟩ : ByteArray) [.string (⟨#[119, 119, 119]⟩ : ByteArray)] from rfl) (Reps.one (show Kd.M Kd.string _ _ _ (⟨#[119, 119, 119]⟩ : ByteArray) [.string (⟨#[119, 119, 119]⟩ : ByteArray)] from rfl) (Reps.one (show Kd.M Kd.string _ _ _ (⟨#[119, 119, 119]⟩ : ByteArray) [.string (⟨#[119, 119, 119]⟩ : ByteArray)] from rfl) (Reps.one (show Kd.M Kd.string _ _ _ (⟨#[119, 119]⟩ : ByteArray) [.string (⟨#[119, 119]⟩ : ByteArray)] from rfl) (Reps.one (show Kd.M Kd.string _ _ _ (⟨#[119, 119, 119]⟩ : ByteArray) [.string (⟨#[119, 119, 119]⟩ : ByteArray)] from rfl) (Reps.one (show Kd.M Kd.string _ _ _ (⟨#[119, 119, 119]⟩ : ByteArray) [.string (⟨#[119, 119, 119]⟩ : ByteArray)] from rfl) (Reps.one (show Kd.M Kd.string _ _ _ (⟨#[119, 110, 110]⟩ : ByteArray) [.string (⟨#[119, 110, 110]⟩ : ByteArray)] from rfl) (Reps.one (show Kd.M Kd.string _ _ _ (⟨#[119, 119, 110]⟩ : ByteArray) [.string (⟨#[119, 119, 110]⟩ : ByteArray)] from rfl) (Reps.one (show Kd.M Kd.string _ _ _ (⟨#[112]⟩ : ByteArray) [.string (⟨#[112]⟩ : ByteArray)] from rfl) (Reps.one (show Kd.M Kd.string _ _ _ (⟨#[112, 119]⟩ : ByteArray) [.string (⟨#[112, 119]⟩ : ByteArray)] from rfl) (Reps.one (show Kd.M Kd.string _ _ _ (⟨#[112, 119]⟩ : ByteArray) [.string (⟨#[112, 119]⟩ : ByteArray)] from rfl) (Reps.none _ _)))))))))))))))))))))))); intro v229 w6 ho7 hb hg_ hnew_; clear hg_ hnew_; (first | rw [← Ny228.out] at ho7 | (simp only [Int.reduceToNat] at ho7; rw [← Ny228.out] at ho7)); have n0_ := Aside0.mk (Kd.R_lower ho7 (below_size (by repeat (first | (with_reducible first | exact HB.out | apply below_alloc | apply pw_below_drewN | apply below_drew1) | exact HB.out)))); have n1_ := Aside0.mk (below_step (by repeat (first | (with_reducible first | exact HB.out | apply below_alloc | apply pw_below_drewN | apply below_drew1) | exact HB.out)) hb); clear HB; have HO230 := n0_; have HB := n1_; clear n0_ n1_; clear hb ho7; obtain ⟨Ao8, co8, eo8⟩ := Kd.R_slice HO230.out; subst eo8; have p231 : 0 ≤ (a0 : Int) := of_decide_eq_true (by first | (with_reducible assumption) | assumption); have q231 : a0 < (y228.length : Int) := of_decide_eq_true (by first | (with_reducible assumption) | assumption); obtain ⟨ad231, e231, hx231_0⟩ := Kd.at_string (Kd.R_reads' HO230.out).2.2 a0 p231 q231; cases e231; replace p231 := eq_true p231; replace q231 := eq_true q231))
          go_ret
          exact ⟨by first | rfl | (simp [errW_none, errW_some] <;> rfl) | (simp [*, errW_none, errW_some] <;> rfl), by repeat (first | (with_reducible first | exact HB.out | apply below_alloc | apply pw_below_drewN | apply below_drew1) | exact HB.out)⟩
        · rw [if_neg c5] at H
          exact absurd H (by simp)
      · rw [if_neg c4] at H
        exact absurd H (by simp)

/-! ### baizeref14_Number: function 41 -/
def baizeref14_Number.f (a0 : Int) : Option (Bool) := if a0 ≥ (-2147483648) then (some (decide (a0 ≤ 2147483647))) else (some false)
set_option maxHeartbeats 8000000 in
set_option maxRecDepth 100000 in
theorem baizeref14_Number.calls (a0 : Int) (r : Bool) (w : World) (h : baizeref14_Number.f a0 = some r) :
    Calls Tryd.prog 41 #[.int .i64 a0] w fun e w' => e = .returned (.bool r) ∧ Drawn0 w w' := by
  have H : (if a0 ≥ (-2147483648) then (some (decide (a0 ≤ 2147483647))) else (some false)) = some r := h
  clear h
  by_cases c2 : a0 ≥ (-2147483648)
  · rw [if_pos c2] at H
    have c2b0 : decide ((-2147483648) ≤ a0) = true := decide_eq_true c2
    clear c2
    obtain rfl := Option.some.inj H
    go_enter Tryd.func41, Tryd.ntmps41
    go_wp2
    go_ret
    exact ⟨by first | rfl | (simp; done) | (simp [*]; done), by repeat (first | exact Drawn0.refl _ | apply Drawn0.step)⟩
  · rw [if_neg c2] at H
    have c2b0 : decide ((-2147483648) ≤ a0) = false := decide_eq_false c2
    clear c2
    obtain rfl := Option.some.inj H
    go_enter Tryd.func41, Tryd.ntmps41
    go_wp2
    go_ret
    exact ⟨by first | rfl | (simp; done) | (simp [*]; done), by repeat (first | exact Drawn0.refl _ | apply Drawn0.step)⟩

end Go.Proofs.YtgnplpmmadbbdaaDoor.P
