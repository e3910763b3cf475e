/- By hand: two lists of messages, the same? (The drawing region's rows are printed by rwt.py.) -/
import Derived.Test.YteeljnlhgaljaaaS
import Derived.Deep.RegionHeld3
import Derived.Deep.RegionWith
import Derived.Outline
namespace Go.Proofs.Yteeljnlhgaljaaa
set_option linter.unusedVariables false
set_option linter.unusedSimpArgs false
open Go.RowKit Go.Proofs.YteeljnlhgaljaaaW.PrintWords Go.Proofs.YteeljnlhgaljaaaW.PrintLast Go.Proofs.Yteeljnlhgaljaaa.P

/-- A message as a text. -/
def tx (m : List Int) : List UInt8 := (strOfNums m).toList
def sameL (a b : List (List Int)) : Bool := decide (a.map tx = b.map tx)
theorem sameL_len {a b : List (List Int)} (h : a.length ≠ b.length) : sameL a b = false := by
  refine decide_eq_false (fun e => h ?_)
  have := congrArg List.length e
  simpa using this
theorem sameL_no {a b : List (List Int)} {k : Nat} (ha : k < a.length) (hb : k < b.length) (h : tx (rd_L1 a (k : Int)) ≠ tx (rd_L1 b (k : Int))) : sameL a b = false := by
  refine decide_eq_false (fun e => h ?_)
  have := congrArg (fun l => l[k]?) e
  simpa [rd_L1, List.getD, ha, hb] using this
theorem sameL_yes {a b : List (List Int)} (hl : a.length = b.length) (h : ∀ j : Nat, j < a.length → tx (rd_L1 a (j : Int)) = tx (rd_L1 b (j : Int))) : sameL a b = true := by
  refine decide_eq_true (List.ext_getElem (by simpa using hl) (fun j h1 h2 => ?_))
  have h1' : j < a.length := by simpa using h1
  have h2' : j < b.length := by simpa using h2
  have := h j h1'
  simpa [rd_L1, List.getD, h1', h2'] using this
theorem sameL_refl (a : List (List Int)) : sameL a a = true := decide_eq_true rfl

set_option maxRecDepth 100000 in
set_option maxHeartbeats 2000000 in
theorem same_any (A0 : Option Addr) (c0 : Nat) (l0 : List (List Int)) (A1 : Option Addr) (c1 : Nat) (l1 : List (List Int)) (w : World) (hr0 : Kd.C kM w A0 l0.length l0) (hr1 : Kd.C kM w A1 l1.length l1) (hlen : l0.length < 4611686018427387904) :
    Calls Try.prog 17 #[.slice A0 l0.length c0, .slice A1 l1.length c1] w fun e w' => e = .returned (.bool (sameL l0 l1)) ∧ Drawn0 w w' := by
  have HR0 := Aside0.mk hr0
  have HR1 := Aside0.mk hr1
  have HLen := Aside0.mk hlen
  clear hr0 hr1 hlen
  by_cases hl : l0.length = l1.length
  · have c3b1 : ((l0.length : Int) != (l1.length : Int)) = false := by simp; omega
    have HL := Aside0.mk hl
    clear hl
    go_enter Try.func17, Try.ntmps17
    go_wp2
    go_loopw [5] (fun v5 wr => ∃ k : Nat, v5 = .int .i64 (k : Int) ∧ Aside0 (k ≤ l0.length) ∧ Aside0 (∀ j : Nat, j < k → tx (rd_L1 l0 (j : Int)) = tx (rd_L1 l1 (j : Int))) ∧ Drawn0 w wr) (fun v5 wr => (l0.length - intOf v5).toNat)
    case atStart => exact ⟨0, by go_num, ⟨by omega⟩, ⟨fun j hj => absurd hj (Nat.not_lt_zero _)⟩, Drawn0.refl _⟩
    case round =>
      obtain ⟨k, rfl, hk, hall, ⟨m1, rfl⟩⟩ := hrel
      clear c3b1
      by_cases hlt : k < l0.length
      · have h1 : decide ((k : Int) < (l0.length : Int)) = true := decide_eq_true (by omega)
        have hk0 : (0 : Int) ≤ (k : Int) := by omega
        have p101 : (0 : Int) ≤ (k : Int) ↔ True := ⟨fun _ => trivial, fun _ => hk0⟩
        have q101 : (k : Int) < (l0.length : Int) := by omega
        have q102 : (k : Int) < (l1.length : Int) := by have := HL.out; omega
        obtain ⟨ad1, B0, d0, e1, hx1, hl1, hi1⟩ := at_L1 HR0.out (k : Int) hk0 q101
        cases e1
        obtain ⟨ad2, B1, d1, e2, hx2, hl2, hi2⟩ := at_L1 HR1.out (k : Int) hk0 q102
        cases e2
        have HI1 := Aside0.mk hi1
        have HI2 := Aside0.mk hi2
        have hkw : IntKind.i64.wrap ((k : Int) + 1) = (k : Int) + 1 := IntWalk.i64_in _ (by have := HLen.out; omega)
        clear hi1 hi2 hl1 hl2 p101
        have qq1 := eq_true q101
        have qq2 := eq_true q102
        have qq0 := eq_true hk0
        by_cases heq : tx (rd_L1 l0 (k : Int)) = tx (rd_L1 l1 (k : Int))
        · have hd : ((strOfNums (rd_L1 l0 (k : Int))).toList != (strOfNums (rd_L1 l1 (k : Int))).toList) = false := bne_eq_false_iff_eq.mpr heq
          have hd2 : ((strOfNums (rd_L1 l0 (k : Int))).toList == (strOfNums (rd_L1 l1 (k : Int))).toList) = true := beq_iff_eq.mpr heq
          have HEQ := Aside0.mk heq
          clear heq
          go_wp2
          refine start_ (n := 11) (S := fun w' => w'.cell? (ad1.add k) = some (.slice B0 (rd_L1 l0 (k : Int)).length d0) ∧ w'.cell? (ad2.add k) = some (.slice B1 (rd_L1 l1 (k : Int)).length d1) ∧ (convert 34 9 (.slice B0 (rd_L1 l0 (k : Int)).length d0)).run Try.prog w' = .ok (.string (strOfNums (rd_L1 l0 (k : Int)))) w' ∧ (convert 34 9 (.slice B1 (rd_L1 l1 (k : Int)).length d1)).run Try.prog w' = .ok (.string (strOfNums (rd_L1 l1 (k : Int)))) w') (ds := []) #[false, false, false, false, false, false, false, false, false, false, false] (by kernel_rfl) rfl rfl ⟨hx1, hx2, Kd.C_string (P := Try.prog) Try.underlying34 Try.underlying5 Try.underlying9 (Kd.C_below HI1.out (below_drew (pw_below_drewN (Below.refl _ _) _))), Kd.C_string (P := Try.prog) Try.underlying34 Try.underlying5 Try.underlying9 (Kd.C_below HI2.out (below_drew (pw_below_drewN (Below.refl _ _) _)))⟩ (fun hHeld => ?_)
          refine pure_ (i := 0) (N := some 17) (v := ?_) (a' := ?_) #[true, false, false, false, false, false, false, false, false, false, false] rfl rfl (by kernel_rfl) (fun _ _ _ h => h) (Or.inl ⟨by rfl, ?_⟩) ?_ ?_
          rotate_left
          · intro w'
            go_simp
            with_reducible rfl
          rotate_left
          · simp only [Act.put, List.setIfInBounds_toArray, List.set_cons_zero, List.set_cons_succ, i64_w, i32_w]
            rfl
          refine pure_ (i := 1) (N := some 18) (v := ?_) (a' := ?_) #[true, true, false, false, false, false, false, false, false, false, false] rfl rfl (by kernel_rfl) (fun _ _ _ h => h) (Or.inl ⟨by rfl, ?_⟩) ?_ ?_
          rotate_left
          · intro w'
            go_simp
            with_reducible rfl
          rotate_left
          · simp only [Act.put, List.setIfInBounds_toArray, List.set_cons_zero, List.set_cons_succ, i64_w, i32_w]
            rfl
          refine pure_ (i := 2) (N := some 19) (v := ?_) (a' := ?_) #[true, true, true, false, false, false, false, false, false, false, false] rfl rfl (by kernel_rfl) (fun _ _ _ h => h) (Or.inl ⟨by rfl, ?_⟩) ?_ ?_
          rotate_left
          · intro w'
            go_simp
            with_reducible rfl
          rotate_left
          · simp only [Act.put, List.setIfInBounds_toArray, List.set_cons_zero, List.set_cons_succ, i64_w, i32_w]
            rfl
          refine pure_ (i := 5) (N := some 22) (v := ?_) (a' := ?_) #[true, true, true, false, false, true, false, false, false, false, false] rfl rfl (by kernel_rfl) (fun _ _ _ h => h) (Or.inl ⟨by rfl, ?_⟩) ?_ ?_
          rotate_left
          · intro w'
            go_simp
            with_reducible rfl
          rotate_left
          · simp only [Act.put, List.setIfInBounds_toArray, List.set_cons_zero, List.set_cons_succ, i64_w, i32_w]
            rfl
          refine pure_ (i := 6) (N := some 23) (v := ?_) (a' := ?_) #[true, true, true, false, false, true, true, false, false, false, false] rfl rfl (by kernel_rfl) (fun _ _ _ h => h) (Or.inl ⟨by rfl, ?_⟩) ?_ ?_
          rotate_left
          · intro w'
            go_simp
            with_reducible rfl
          rotate_left
          · simp only [Act.put, List.setIfInBounds_toArray, List.set_cons_zero, List.set_cons_succ, i64_w, i32_w]
            rfl
          refine pure_ (i := 7) (N := some 24) (v := ?_) (a' := ?_) #[true, true, true, false, false, true, true, true, false, false, false] rfl rfl (by kernel_rfl) (fun _ _ _ h => h) (Or.inl ⟨by rfl, ?_⟩) ?_ ?_
          rotate_left
          · intro w'
            go_simp
            with_reducible rfl
          rotate_left
          · simp only [Act.put, List.setIfInBounds_toArray, List.set_cons_zero, List.set_cons_succ, i64_w, i32_w]
            rfl
          refine take_ (i := 3) (N := some 20) (v := ?_) (a' := ?_) #[true, true, true, true, false, true, true, true, false, false, false] rfl rfl (by kernel_rfl) (fun _ _ _ h => h) (Or.inl ⟨by rfl, ?_⟩) hHeld ?_ ?_
          rotate_left
          · rintro w' ⟨s0, s1, s2, s3⟩
            go_simp
            with_reducible rfl
          rotate_left
          · simp only [Act.put, List.setIfInBounds_toArray, List.set_cons_zero, List.set_cons_succ, i64_w, i32_w]
            rfl
          refine take_ (i := 4) (N := some 21) (v := ?_) (a' := ?_) #[true, true, true, true, true, true, true, true, false, false, false] rfl rfl (by kernel_rfl) (fun _ _ _ h => h) (Or.inl ⟨by rfl, ?_⟩) hHeld ?_ ?_
          rotate_left
          · rintro w' ⟨s0, s1, s2, s3⟩
            go_simp
            with_reducible rfl
          rotate_left
          · simp only [Act.put, List.setIfInBounds_toArray, List.set_cons_zero, List.set_cons_succ, i64_w, i32_w]
            rfl
          refine take_ (i := 8) (N := some 25) (v := ?_) (a' := ?_) #[true, true, true, true, true, true, true, true, true, false, false] rfl rfl (by kernel_rfl) (fun _ _ _ h => h) (Or.inl ⟨by rfl, ?_⟩) hHeld ?_ ?_
          rotate_left
          · rintro w' ⟨s0, s1, s2, s3⟩
            go_simp
            with_reducible rfl
          rotate_left
          · simp only [Act.put, List.setIfInBounds_toArray, List.set_cons_zero, List.set_cons_succ, i64_w, i32_w]
            rfl
          refine take_ (i := 9) (N := some 26) (v := ?_) (a' := ?_) #[true, true, true, true, true, true, true, true, true, true, false] rfl rfl (by kernel_rfl) (fun _ _ _ h => h) (Or.inl ⟨by rfl, ?_⟩) hHeld ?_ ?_
          rotate_left
          · rintro w' ⟨s0, s1, s2, s3⟩
            go_simp
            with_reducible rfl
          rotate_left
          · simp only [Act.put, List.setIfInBounds_toArray, List.set_cons_zero, List.set_cons_succ, i64_w, i32_w]
            rfl
          refine pure_ (i := 10) (N := some 27) (v := ?_) (a' := ?_) #[true, true, true, true, true, true, true, true, true, true, true] rfl rfl (by kernel_rfl) (fun _ _ _ h => h) (Or.inl ⟨by rfl, ?_⟩) ?_ ?_
          rotate_left
          · intro w'
            go_simp
            with_reducible rfl
          rotate_left
          · simp only [Act.put, List.setIfInBounds_toArray, List.set_cons_zero, List.set_cons_succ, i64_w, i32_w]
            rfl
          refine done_ (by kernel_rfl) ?_
          go_wp2
          go_roundw
          case rel => exact ⟨k + 1, by go_num, ⟨by omega⟩, ⟨fun j hj => (Nat.lt_succ_iff_lt_or_eq.1 hj).elim (hall.out j) (fun e => e ▸ HEQ.out)⟩, ⟨_, rfl⟩⟩
          case measure => simp [intOf]; omega
        · have hd : ((strOfNums (rd_L1 l0 (k : Int))).toList != (strOfNums (rd_L1 l1 (k : Int))).toList) = true := bne_iff_ne.mpr heq
          have hd2 : ((strOfNums (rd_L1 l0 (k : Int))).toList == (strOfNums (rd_L1 l1 (k : Int))).toList) = false := beq_eq_false_iff_ne.mpr heq
          have hS := Aside0.mk (sameL_no hlt (by have := HL.out; omega) heq)
          clear heq
          go_wp2
          refine start_ (n := 11) (S := fun w' => w'.cell? (ad1.add k) = some (.slice B0 (rd_L1 l0 (k : Int)).length d0) ∧ w'.cell? (ad2.add k) = some (.slice B1 (rd_L1 l1 (k : Int)).length d1) ∧ (convert 34 9 (.slice B0 (rd_L1 l0 (k : Int)).length d0)).run Try.prog w' = .ok (.string (strOfNums (rd_L1 l0 (k : Int)))) w' ∧ (convert 34 9 (.slice B1 (rd_L1 l1 (k : Int)).length d1)).run Try.prog w' = .ok (.string (strOfNums (rd_L1 l1 (k : Int)))) w') (ds := []) #[false, false, false, false, false, false, false, false, false, false, false] (by kernel_rfl) rfl rfl ⟨hx1, hx2, Kd.C_string (P := Try.prog) Try.underlying34 Try.underlying5 Try.underlying9 (Kd.C_below HI1.out (below_drew (pw_below_drewN (Below.refl _ _) _))), Kd.C_string (P := Try.prog) Try.underlying34 Try.underlying5 Try.underlying9 (Kd.C_below HI2.out (below_drew (pw_below_drewN (Below.refl _ _) _)))⟩ (fun hHeld => ?_)
          refine pure_ (i := 0) (N := some 17) (v := ?_) (a' := ?_) #[true, false, false, false, false, false, false, false, false, false, false] rfl rfl (by kernel_rfl) (fun _ _ _ h => h) (Or.inl ⟨by rfl, ?_⟩) ?_ ?_
          rotate_left
          · intro w'
            go_simp
            with_reducible rfl
          rotate_left
          · simp only [Act.put, List.setIfInBounds_toArray, List.set_cons_zero, List.set_cons_succ, i64_w, i32_w]
            rfl
          refine pure_ (i := 1) (N := some 18) (v := ?_) (a' := ?_) #[true, true, false, false, false, false, false, false, false, false, false] rfl rfl (by kernel_rfl) (fun _ _ _ h => h) (Or.inl ⟨by rfl, ?_⟩) ?_ ?_
          rotate_left
          · intro w'
            go_simp
            with_reducible rfl
          rotate_left
          · simp only [Act.put, List.setIfInBounds_toArray, List.set_cons_zero, List.set_cons_succ, i64_w, i32_w]
            rfl
          refine pure_ (i := 2) (N := some 19) (v := ?_) (a' := ?_) #[true, true, true, false, false, false, false, false, false, false, false] rfl rfl (by kernel_rfl) (fun _ _ _ h => h) (Or.inl ⟨by rfl, ?_⟩) ?_ ?_
          rotate_left
          · intro w'
            go_simp
            with_reducible rfl
          rotate_left
          · simp only [Act.put, List.setIfInBounds_toArray, List.set_cons_zero, List.set_cons_succ, i64_w, i32_w]
            rfl
          refine pure_ (i := 5) (N := some 22) (v := ?_) (a' := ?_) #[true, true, true, false, false, true, false, false, false, false, false] rfl rfl (by kernel_rfl) (fun _ _ _ h => h) (Or.inl ⟨by rfl, ?_⟩) ?_ ?_
          rotate_left
          · intro w'
            go_simp
            with_reducible rfl
          rotate_left
          · simp only [Act.put, List.setIfInBounds_toArray, List.set_cons_zero, List.set_cons_succ, i64_w, i32_w]
            rfl
          refine pure_ (i := 6) (N := some 23) (v := ?_) (a' := ?_) #[true, true, true, false, false, true, true, false, false, false, false] rfl rfl (by kernel_rfl) (fun _ _ _ h => h) (Or.inl ⟨by rfl, ?_⟩) ?_ ?_
          rotate_left
          · intro w'
            go_simp
            with_reducible rfl
          rotate_left
          · simp only [Act.put, List.setIfInBounds_toArray, List.set_cons_zero, List.set_cons_succ, i64_w, i32_w]
            rfl
          refine pure_ (i := 7) (N := some 24) (v := ?_) (a' := ?_) #[true, true, true, false, false, true, true, true, false, false, false] rfl rfl (by kernel_rfl) (fun _ _ _ h => h) (Or.inl ⟨by rfl, ?_⟩) ?_ ?_
          rotate_left
          · intro w'
            go_simp
            with_reducible rfl
          rotate_left
          · simp only [Act.put, List.setIfInBounds_toArray, List.set_cons_zero, List.set_cons_succ, i64_w, i32_w]
            rfl
          refine take_ (i := 3) (N := some 20) (v := ?_) (a' := ?_) #[true, true, true, true, false, true, true, true, false, false, false] rfl rfl (by kernel_rfl) (fun _ _ _ h => h) (Or.inl ⟨by rfl, ?_⟩) hHeld ?_ ?_
          rotate_left
          · rintro w' ⟨s0, s1, s2, s3⟩
            go_simp
            with_reducible rfl
          rotate_left
          · simp only [Act.put, List.setIfInBounds_toArray, List.set_cons_zero, List.set_cons_succ, i64_w, i32_w]
            rfl
          refine take_ (i := 4) (N := some 21) (v := ?_) (a' := ?_) #[true, true, true, true, true, true, true, true, false, false, false] rfl rfl (by kernel_rfl) (fun _ _ _ h => h) (Or.inl ⟨by rfl, ?_⟩) hHeld ?_ ?_
          rotate_left
          · rintro w' ⟨s0, s1, s2, s3⟩
            go_simp
            with_reducible rfl
          rotate_left
          · simp only [Act.put, List.setIfInBounds_toArray, List.set_cons_zero, List.set_cons_succ, i64_w, i32_w]
            rfl
          refine take_ (i := 8) (N := some 25) (v := ?_) (a' := ?_) #[true, true, true, true, true, true, true, true, true, false, false] rfl rfl (by kernel_rfl) (fun _ _ _ h => h) (Or.inl ⟨by rfl, ?_⟩) hHeld ?_ ?_
          rotate_left
          · rintro w' ⟨s0, s1, s2, s3⟩
            go_simp
            with_reducible rfl
          rotate_left
          · simp only [Act.put, List.setIfInBounds_toArray, List.set_cons_zero, List.set_cons_succ, i64_w, i32_w]
            rfl
          refine take_ (i := 9) (N := some 26) (v := ?_) (a' := ?_) #[true, true, true, true, true, true, true, true, true, true, false] rfl rfl (by kernel_rfl) (fun _ _ _ h => h) (Or.inl ⟨by rfl, ?_⟩) hHeld ?_ ?_
          rotate_left
          · rintro w' ⟨s0, s1, s2, s3⟩
            go_simp
            with_reducible rfl
          rotate_left
          · simp only [Act.put, List.setIfInBounds_toArray, List.set_cons_zero, List.set_cons_succ, i64_w, i32_w]
            rfl
          refine pure_ (i := 10) (N := some 27) (v := ?_) (a' := ?_) #[true, true, true, true, true, true, true, true, true, true, true] rfl rfl (by kernel_rfl) (fun _ _ _ h => h) (Or.inl ⟨by rfl, ?_⟩) ?_ ?_
          rotate_left
          · intro w'
            go_simp
            with_reducible rfl
          rotate_left
          · simp only [Act.put, List.setIfInBounds_toArray, List.set_cons_zero, List.set_cons_succ, i64_w, i32_w]
            rfl
          refine done_ (by kernel_rfl) ?_
          go_wp2
          go_ret
          exact ⟨by rw [hS.out]; rfl, Drawn0.step ⟨⟨m1, rfl⟩⟩ 1⟩
      · have h1 : decide ((k : Int) < (l0.length : Int)) = false := decide_eq_false (by omega)
        have hS := Aside0.mk (sameL_yes HL.out (fun j hj => hall.out j (by omega)))
        go_wp2
        go_ret
        exact ⟨by rw [hS.out]; first | rfl | simp [*], ⟨_, rfl⟩⟩
  · have c3b1 : ((l0.length : Int) != (l1.length : Int)) = true := by simp; omega
    rw [sameL_len hl]
    clear hl
    go_enter Try.func17, Try.ntmps17
    go_wp2
    go_ret
    exact ⟨rfl, Drawn0.refl _⟩
def baizeref44_Same.f (l0 l1 : List (List Int)) : Option Bool := if l0.length < 4611686018427387904 then some (sameL l0 l1) else none
theorem baizeref44_Same.calls (A0 : Option Addr) (c0 : Nat) (l0 : List (List Int)) (A1 : Option Addr) (c1 : Nat) (l1 : List (List Int)) (r : Bool) (w : World) (hr0 : Kd.C (Kd.slice 5 (Kd.int .u8)) w A0 l0.length l0) (hc0 : l0.length ≤ c0) (hr1 : Kd.C (Kd.slice 5 (Kd.int .u8)) w A1 l1.length l1) (hc1 : l1.length ≤ c1) (h : baizeref44_Same.f l0 l1 = some r) :
    Calls Try.prog 17 #[.slice A0 l0.length c0, .slice A1 l1.length c1] w fun e w' => e = .returned (.bool r) ∧ Drawn0 w w' := by
  unfold baizeref44_Same.f at h
  split at h
  · obtain rfl := Option.some.inj h
    exact same_any A0 c0 l0 A1 c1 l1 w hr0 hr1 (by assumption)
  · cases h
end Go.Proofs.Yteeljnlhgaljaaa
