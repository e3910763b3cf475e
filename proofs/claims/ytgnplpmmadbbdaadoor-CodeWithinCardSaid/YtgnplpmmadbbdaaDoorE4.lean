/- By hand: may an instruction be (a map literal, looked into). -/
import Derived.Test.YtgnplpmmadbbdaaDoorE2
import Derived.Test.YtgnplpmmadbbdaaDoorM
namespace Go.Proofs.YtgnplpmmadbbdaaDoor
set_option linter.unusedSimpArgs false
open Go.RowKit Go.Proofs.YtgnplpmmadbbdaaDoorW.PrintWords Go.Proofs.YtgnplpmmadbbdaaDoor.P

theorem key5 : Maps.Keyed Tryd.prog 5 := Maps.int_keyed Tryd.underlying5
def nth3 (a b c : Int) (k : Nat) : Int := if k = 0 then a else if k = 1 then b else c
def letter (o : Int) (k : Nat) : UInt8 := if k < (kH o).size then (kH o).data.toList.getD k 0 else 48
def fitL (ch : UInt8) (n size words : Int) : Bool := if ch = 48 then n == 0 else if ch = 119 then decide (0 ≤ n) && decide (n < words) else if ch = 110 then decide (-2147483648 ≤ n) && decide (n ≤ 2147483647) else decide (0 ≤ n) && decide (n < size)
theorem kH_letters (op : Int) : ∀ k, k < (kH op).size → (kH op).data.toList.getD k 0 = 119 ∨ (kH op).data.toList.getD k 0 = 110 ∨ (kH op).data.toList.getD k 0 = 112 := by
  unfold kH
  split
  · rename_i h
    have : ∀ i, i < 22 → ∀ k, k < (khas i).size → (khas i).data.toList.getD k 0 = 119 ∨ (khas i).data.toList.getD k 0 = 110 ∨ (khas i).data.toList.getD k 0 = 112 := by decide
    exact this _ (by omega)
  · intro k hk; simp [ByteArray.size] at hk

theorem small_some (n : Int) : code_small.f n = some (decide (-2147483648 ≤ n) && decide (n ≤ 2147483647)) := by
  unfold code_small.f
  by_cases h : n ≥ -2147483648
  · rw [if_pos h]; simp [h]
  · rw [if_neg h]; simp; omega

theorem fits_at (b1 b2 b3 b4 c : Bool) (ch : Int) (hch : ch = 48 ∨ ch = 119 ∨ ch = 110 ∨ ch = 112) (h : (((((DataW.map [] : DataW Unit).put (.int .u8 48) (.lit (.bool b1))).put (.int .u8 119) (.lit (.bool b2))).put (.int .u8 110) (.lit (.bool b3))).put (.int .u8 112) (.lit (.bool b4))).atKey (.int .u8 ch) (.lit (.bool false)) = .lit (.bool c)) :
    c = if ch = 48 then b1 else if ch = 119 then b2 else if ch = 110 then b3 else b4 := by
  rcases hch with rfl | rfl | rfl | rfl
  all_goals
    injection h with h
    injection h with h
    exact h.symm
/-- May an instruction be? -/
def rightB (o a b c size words : Int) : Bool :=
  isOp o && (fitL (letter o 0) a size words && fitL (letter o 1) b size words && fitL (letter o 2) c size words) &&
    (if o = 0 then a == 0 || a == 1 else if o = 17 then decide (b ≤ c) else if o = 18 then decide (0 ≤ c) else true)
theorem right_none {o a b c size words : Int} (h : isOp o = false) : rightB o a b c size words = false := by simp [rightB, h]
theorem right_fail {o a b c size words : Int} (k : Nat) (hk : k < 3) (h : fitL (letter o k) (nth3 a b c k) size words = false) : rightB o a b c size words = false := by
  rcases (show k = 0 ∨ k = 1 ∨ k = 2 by omega) with rfl | rfl | rfl <;> simp [nth3] at h <;> simp [rightB, h]
theorem right_fine {o a b c size words : Int} (h0 : isOp o = true) (h : ∀ j, j < 3 → fitL (letter o j) (nth3 a b c j) size words = true) :
    rightB o a b c size words = if o = 0 then a == 0 || a == 1 else if o = 17 then decide (b ≤ c) else if o = 18 then decide (0 ≤ c) else true := by
  have h1 := h 0 (by omega)
  have h2 := h 1 (by omega)
  have h3 := h 2 (by omega)
  simp [nth3] at h1 h2 h3
  simp [rightB, h0, h1, h2, h3]

set_option maxHeartbeats 1000000 in
set_option maxRecDepth 100000 in
theorem right_in (o a b c size words : Int) (h0 : 0 ≤ o) (h1 : o < 22) (w : World) (hk : KindsAt w) :
    Calls Tryd.prog 19 #[.agg #[.int .i64 o, .int .i64 a, .int .i64 b, .int .i64 c], .int .i64 size, .int .i64 words] w fun e w' => e = .returned (.bool (rightB o a b c size words)) ∧ Below w.heap.size w w' := by
  have hio : isOp o = true := decide_eq_true ⟨h0, h1⟩
  have hK := Aside0.mk hk
  clear hk
  go_enter Tryd.func19, Tryd.ntmps19
  go_wp2_with fail
  refine (code_find.calls _ _ _ _ _ _ _ rfl (hK.out.below (below_alloc (Below.refl _ _) _))).mono ?_
  rintro e w1 ⟨rfl, hb⟩
  have hB : Aside0 (Below w.heap.size w w1) := ⟨(below_alloc (Below.refl _ _) _).trans (hb.mono (by simp))⟩
  have hsz : w.heap.size < w1.heap.size := by have := hb.size; simp at this; omega
  have hbx : Aside0 (w1.heap[w.heap.size]? = some (.cells #[Value.int .i64 o, .int .i64 a, .int .i64 b, .int .i64 c] 24 (0, 0))) := ⟨blk_below (blk_new w _) hb⟩
  have hx : ∀ j, w1.cell? ⟨w.heap.size, j, none⟩ = #[Value.int .i64 o, .int .i64 a, .int .i64 b, .int .i64 c][j]? := blk_cell hbx.out
  have hx0 : w1.cell? ⟨w.heap.size, 0, none⟩ = some (.int .i64 o) := hx 0
  have hx1 : w1.cell? ⟨w.heap.size, 1, none⟩ = some (.int .i64 a) := hx 1
  have hx2 : w1.cell? ⟨w.heap.size, 2, none⟩ = some (.int .i64 b) := hx 2
  have hx3 : w1.cell? ⟨w.heap.size, 3, none⟩ = some (.int .i64 c) := hx 3
  clear hx hb
  go_wp2_with fail
  refine (three_any _ _ _ _ _).mono ?_
  rintro e w2 ⟨rfl, hb2⟩
  clear hx0 hx1 hx2 hx3
  go_wp2
  have hsz2 : w1.heap.size < w2.heap.size := by have := hb2.size; simp at this; omega
  have hB2 : Aside0 (Below w.heap.size w w2) := ⟨below_then (below_alloc hB.out _) (by simp; omega) hb2⟩
  have hbx2 : Aside0 (w2.heap[w.heap.size]? = some (.cells #[Value.int .i64 o, .int .i64 a, .int .i64 b, .int .i64 c] 24 (0, 0))) := ⟨blk_below (blk_alloc hbx.out _) hb2⟩
  have hky2 : Aside0 (w2.heap[w1.heap.size]? = some (.cells #[.string (kN o), .string (kH o), .string (kR o), .bool (kW o)] 67 (0, 0))) := ⟨blk_below (blk_new w1 _) hb2⟩
  clear hb2 hbx hB
  have ix0 : ∀ W, (Instr.index 70 (.agg #[.int .i64 a, .int .i64 b, .int .i64 c]) (.int .i64 0)).run Tryd.prog W = .ok (.int .i64 a) W := fun _ => by kernel_rfl
  have ix1 : ∀ W, (Instr.index 70 (.agg #[.int .i64 a, .int .i64 b, .int .i64 c]) (.int .i64 1)).run Tryd.prog W = .ok (.int .i64 b) W := fun _ => by kernel_rfl
  have ix2 : ∀ W, (Instr.index 70 (.agg #[.int .i64 a, .int .i64 b, .int .i64 c]) (.int .i64 2)).run Tryd.prog W = .ok (.int .i64 c) W := fun _ => by kernel_rfl
  go_loopw [23] (fun i wr => ∃ k : Nat, k ≤ 3 ∧ i = .int .i64 k ∧ Aside0 (∀ j, j < k → fitL (letter o j) (nth3 a b c j) size words = true) ∧ Aside0 (Below w.heap.size w wr) ∧ Aside0 (wr.heap[w.heap.size]? = some (.cells #[Value.int .i64 o, .int .i64 a, .int .i64 b, .int .i64 c] 24 (0, 0))) ∧ Aside0 (wr.heap[w1.heap.size]? = some (.cells #[.string (kN o), .string (kH o), .string (kR o), .bool (kW o)] 67 (0, 0)))) (fun i _ => 3 - (intOf i).toNat)
  case atStart => exact ⟨0, by omega, rfl, ⟨fun j hj => by omega⟩, hB2, hbx2, hky2⟩
  case round =>
    obtain ⟨k, hk, rfl, hF, hBr, hbxr, hkyr⟩ := hrel
    by_cases hlt : k < 3
    · have hix : ∀ W, (Instr.index 70 (.agg #[.int .i64 a, .int .i64 b, .int .i64 c]) (.int .i64 k)).run Tryd.prog W = .ok (.int .i64 (nth3 a b c k)) W := by
        intro W
        rcases (show k = 0 ∨ k = 1 ∨ k = 2 by omega) with rfl | rfl | rfl
        · exact ix0 W
        · exact ix1 W
        · exact ix2 W
      clear ix0 ix1 ix2
      have hy : ∀ j, wr.cell? ⟨w1.heap.size, j, none⟩ = #[Value.string (kN o), .string (kH o), .string (kR o), .bool (kW o)][j]? := blk_cell hkyr.out
      have hy1 : wr.cell? ⟨w1.heap.size, 1, none⟩ = some (.string (kH o)) := hy 1
      clear hy
      have hmm := @run_makeMap Tryd.prog
      have zb : ∀ W, (zeroValue 4).run Tryd.prog W = .ok (.bool false) W := fun _ => by kernel_rfl
      have hown0 : (wr.alloc (.map #[] 0)).ownsMap (H := Unit) Tryd.prog 5 (plainElem Tryd.prog 4) wr.heap.size 0 (.map []) := World.ownsMap_made _ _ _ _
      generalize hN : nth3 a b c k = n at *
      have HN := Aside0.mk hN
      clear hN
      by_cases hl : k < (kH o).size
      · have hsx : ∀ W, (Instr.index 9 (.string (kH o)) (.int .i64 k)).run Tryd.prog W = .ok (.int .u8 ((kH o).data.toList.getD k 0).toNat) W := fun W => by
          rw [run_index_string W 9 _ _ _ Tryd.underlying9, dif_pos ⟨by omega, by omega⟩]
          simp [List.getD, ByteArray.getElem_eq_getElem_data, hl]
        have hlet : letter o k = (kH o).data.toList.getD k 0 := by unfold letter; rw [if_pos hl]
        have hch := kH_letters o k hl
        rw [← hlet] at hch hsx
        clear hlet
        rcases hch with h | h | h
        all_goals
          rw [h] at hsx
          have HL := Aside0.mk h
          clear h
          by_cases hn0 : 0 ≤ n
          all_goals
            go_wp2_with (first | ((with_reducible refine gate_insert (m := .tmp 36) (x := .const (.int .u8 48)) (v := .tmp 38) (t := 77) rfl ?_); refine wpList_insert_own (H := Unit) rfl _ _ _ 77 rfl 5 4 key5 Tryd.underlying77 (plainElem Tryd.prog 4) wr.heap.size 0 _ rfl hown0 (by decide) _ _ (.int .u8 48) rfl rfl (Maps.keyOf_int_mk Tryd.underlying5 (by decide)) _ _ (plainElem_bool Tryd.underlying4 _) ?_; intro w3 ho1 hg1) | ((with_reducible refine gate_insert (m := .tmp 36) (x := .const (.int .u8 119)) (v := .tmp 45) (t := 77) rfl ?_); refine wpList_insert_own (H := Unit) rfl _ _ _ 77 rfl 5 4 key5 Tryd.underlying77 (plainElem Tryd.prog 4) wr.heap.size 1 _ rfl ho1 (by decide) _ _ (.int .u8 119) rfl rfl (Maps.keyOf_int_mk Tryd.underlying5 (by decide)) _ _ (plainElem_bool Tryd.underlying4 _) ?_; intro w4 ho2 hg2) | ((with_reducible refine gate_insert (m := .tmp 36) (x := .const (.int .u8 110)) (v := .tmp 47) (t := 77) rfl ?_); refine wpList_insert_own (H := Unit) rfl _ _ _ 77 rfl 5 4 key5 Tryd.underlying77 (plainElem Tryd.prog 4) wr.heap.size 2 _ rfl ho2' (by decide) _ _ (.int .u8 110) rfl rfl (Maps.keyOf_int_mk Tryd.underlying5 (by decide)) _ _ (plainElem_bool Tryd.underlying4 _) ?_; intro w5 ho3 hg3) | ((with_reducible refine gate_insert (m := .tmp 36) (x := .const (.int .u8 112)) (v := .tmp 54) (t := 77) rfl ?_); refine wpList_insert_own (H := Unit) rfl _ _ _ 77 rfl 5 4 key5 Tryd.underlying77 (plainElem Tryd.prog 4) wr.heap.size 3 _ rfl ho3 (by decide) _ _ (.int .u8 112) rfl rfl (Maps.keyOf_int_mk Tryd.underlying5 (by decide)) _ _ (plainElem_bool Tryd.underlying4 _) ?_; intro w6 ho4 hg4) | (go_at_call 37; refine (code_small.calls _ _ _ (small_some _)).mono ?_; rintro e w7 ⟨rfl, ⟨nd, rfl⟩⟩; have ho2' : (w4.drewN nd).ownsMap (H := Unit) Tryd.prog 5 (plainElem Tryd.prog 4) wr.heap.size 2 _ := ho2) | ((with_reducible refine gate_lookup (m := .tmp 56) (x := .tmp 57) (t := 77) (b := false) rfl ?_); refine wpList_lookup_own_bool (H := Unit) rfl _ _ 77 rfl 5 4 key5 Tryd.underlying77 Tryd.underlying4 (zb _) wr.heap.size 4 _ rfl ho4 _ _ rfl (Maps.keyOf_int_mk Tryd.underlying5 (by decide)) ?_; intro c' hat))
            · have hcc := fits_at _ _ _ _ c' _ (by decide) hat
              have hff : fitL (letter o k) n size words = false := by
                have hc' : c' = false := by simpa using (by assumption : (!c') = true)
                rw [← hc', HL.out, hcc]
                first | (simp [fitL, hn0]; done) | (simp [fitL]; omega)
              have hs1 := hBr.out.size
              have hs2 := hg1.size
              have hs3 := hg2.size
              have hs4 := hg3.size
              simp only [World.size_alloc] at hs2
              have hs4' : w4.heap.size ≤ w5.heap.size := hs4
              have hB3 := pw_below_grown (below_alloc hBr.out (.map #[] 0)) _ (by simp only [World.size_alloc]; omega) hg1 (fun k hk => by injection hk with hk; omega)
              have hB4 := pw_below_grown hB3 _ (by omega) hg2 (fun k hk => by injection hk with hk; omega)
              have hB5 := pw_below_grown (pw_below_drewN hB4 nd) _ (by show _ ≤ w4.heap.size; omega) hg3 (fun k hk => by injection hk with hk; omega)
              have Hb6 : Aside0 (Below w.heap.size w w6) := ⟨pw_below_grown hB5 _ (by omega) hg4 (fun k hk => by injection hk with hk; omega)⟩
              go_ret
              exact ⟨show Ending.returned (.bool false) = _ from by rw [right_fail k hlt (by rw [HN.out]; exact hff)], Hb6.out⟩
            · have hcc := fits_at _ _ _ _ c' _ (by decide) hat
              have hff : fitL (letter o k) n size words = true := by
                have hc' : c' = true := by simpa using (by assumption : (!c') = false)
                rw [← hc', HL.out, hcc]
                first | (simp [fitL, hn0]; done) | (simp [fitL]; omega)
              have hs1 := hBr.out.size
              have hs2 := hg1.size
              have hs3 := hg2.size
              have hs4 := hg3.size
              simp only [World.size_alloc] at hs2
              have hs4' : w4.heap.size ≤ w5.heap.size := hs4
              have hB3 := pw_below_grown (below_alloc hBr.out (.map #[] 0)) _ (by simp only [World.size_alloc]; omega) hg1 (fun k hk => by injection hk with hk; omega)
              have hB4 := pw_below_grown hB3 _ (by omega) hg2 (fun k hk => by injection hk with hk; omega)
              have hB5 := pw_below_grown (pw_below_drewN hB4 nd) _ (by show _ ≤ w4.heap.size; omega) hg3 (fun k hk => by injection hk with hk; omega)
              have Hb6 : Aside0 (Below w.heap.size w w6) := ⟨pw_below_grown hB5 _ (by omega) hg4 (fun k hk => by injection hk with hk; omega)⟩
              have hk6 : ∀ g, g < wr.heap.size → ∀ {ob : Obj}, wr.heap[g]? = some ob → w6.heap[g]? = some ob := fun g hg {ob} h => by
                have e1 := blk_grown (blk_alloc h (.map #[] 0)) hg1 (by simp; omega)
                have e2 := blk_grown e1 hg2 (by simp; omega)
                have e3 := blk_grown (blk_drewN e2 nd) hg3 (by simp; omega)
                exact blk_grown e3 hg4 (by simp; omega)
              go_roundw
              case rel =>
                refine ⟨k + 1, by omega, by go_num, ⟨fun j hj => ?_⟩, Hb6, ⟨?_⟩, ⟨?_⟩⟩
                · rcases (show j < k ∨ j = k by omega) with h | rfl
                  · exact hF.out j h
                  · rw [HN.out]; exact hff
                · exact hk6 _ (by have := blk_lt hbxr.out; omega) hbxr.out
                · exact hk6 _ (by have := blk_lt hkyr.out; omega) hkyr.out
              case measure => simp [intOf]; omega
      · have HL : Aside0 (letter o k = 48) := ⟨by unfold letter; rw [if_neg hl]⟩
        by_cases hn0 : 0 ≤ n
        all_goals
          go_wp2_with (first | ((with_reducible refine gate_insert (m := .tmp 36) (x := .const (.int .u8 48)) (v := .tmp 38) (t := 77) rfl ?_); refine wpList_insert_own (H := Unit) rfl _ _ _ 77 rfl 5 4 key5 Tryd.underlying77 (plainElem Tryd.prog 4) wr.heap.size 0 _ rfl hown0 (by decide) _ _ (.int .u8 48) rfl rfl (Maps.keyOf_int_mk Tryd.underlying5 (by decide)) _ _ (plainElem_bool Tryd.underlying4 _) ?_; intro w3 ho1 hg1) | ((with_reducible refine gate_insert (m := .tmp 36) (x := .const (.int .u8 119)) (v := .tmp 45) (t := 77) rfl ?_); refine wpList_insert_own (H := Unit) rfl _ _ _ 77 rfl 5 4 key5 Tryd.underlying77 (plainElem Tryd.prog 4) wr.heap.size 1 _ rfl ho1 (by decide) _ _ (.int .u8 119) rfl rfl (Maps.keyOf_int_mk Tryd.underlying5 (by decide)) _ _ (plainElem_bool Tryd.underlying4 _) ?_; intro w4 ho2 hg2) | ((with_reducible refine gate_insert (m := .tmp 36) (x := .const (.int .u8 110)) (v := .tmp 47) (t := 77) rfl ?_); refine wpList_insert_own (H := Unit) rfl _ _ _ 77 rfl 5 4 key5 Tryd.underlying77 (plainElem Tryd.prog 4) wr.heap.size 2 _ rfl ho2' (by decide) _ _ (.int .u8 110) rfl rfl (Maps.keyOf_int_mk Tryd.underlying5 (by decide)) _ _ (plainElem_bool Tryd.underlying4 _) ?_; intro w5 ho3 hg3) | ((with_reducible refine gate_insert (m := .tmp 36) (x := .const (.int .u8 112)) (v := .tmp 54) (t := 77) rfl ?_); refine wpList_insert_own (H := Unit) rfl _ _ _ 77 rfl 5 4 key5 Tryd.underlying77 (plainElem Tryd.prog 4) wr.heap.size 3 _ rfl ho3 (by decide) _ _ (.int .u8 112) rfl rfl (Maps.keyOf_int_mk Tryd.underlying5 (by decide)) _ _ (plainElem_bool Tryd.underlying4 _) ?_; intro w6 ho4 hg4) | (go_at_call 37; refine (code_small.calls _ _ _ (small_some _)).mono ?_; rintro e w7 ⟨rfl, ⟨nd, rfl⟩⟩; have ho2' : (w4.drewN nd).ownsMap (H := Unit) Tryd.prog 5 (plainElem Tryd.prog 4) wr.heap.size 2 _ := ho2) | ((with_reducible refine gate_lookup (m := .tmp 56) (x := .tmp 57) (t := 77) (b := false) rfl ?_); refine wpList_lookup_own_bool (H := Unit) rfl _ _ 77 rfl 5 4 key5 Tryd.underlying77 Tryd.underlying4 (zb _) wr.heap.size 4 _ rfl ho4 _ _ rfl (Maps.keyOf_int_mk Tryd.underlying5 (by decide)) ?_; intro c' hat))
          · have hcc := fits_at _ _ _ _ c' _ (by decide) hat
            have hff : fitL (letter o k) n size words = false := by
              have hc' : c' = false := by simpa using (by assumption : (!c') = true)
              rw [← hc', HL.out, hcc]
              first | (simp [fitL, hn0]; done) | (simp [fitL]; omega)
            have hs1 := hBr.out.size
            have hs2 := hg1.size
            have hs3 := hg2.size
            have hs4 := hg3.size
            simp only [World.size_alloc] at hs2
            have hs4' : w4.heap.size ≤ w5.heap.size := hs4
            have hB3 := pw_below_grown (below_alloc hBr.out (.map #[] 0)) _ (by simp only [World.size_alloc]; omega) hg1 (fun k hk => by injection hk with hk; omega)
            have hB4 := pw_below_grown hB3 _ (by omega) hg2 (fun k hk => by injection hk with hk; omega)
            have hB5 := pw_below_grown (pw_below_drewN hB4 nd) _ (by show _ ≤ w4.heap.size; omega) hg3 (fun k hk => by injection hk with hk; omega)
            have Hb6 : Aside0 (Below w.heap.size w w6) := ⟨pw_below_grown hB5 _ (by omega) hg4 (fun k hk => by injection hk with hk; omega)⟩
            go_ret
            exact ⟨show Ending.returned (.bool false) = _ from by rw [right_fail k hlt (by rw [HN.out]; exact hff)], Hb6.out⟩
          · have hcc := fits_at _ _ _ _ c' _ (by decide) hat
            have hff : fitL (letter o k) n size words = true := by
              have hc' : c' = true := by simpa using (by assumption : (!c') = false)
              rw [← hc', HL.out, hcc]
              first | (simp [fitL, hn0]; done) | (simp [fitL]; omega)
            have hs1 := hBr.out.size
            have hs2 := hg1.size
            have hs3 := hg2.size
            have hs4 := hg3.size
            simp only [World.size_alloc] at hs2
            have hs4' : w4.heap.size ≤ w5.heap.size := hs4
            have hB3 := pw_below_grown (below_alloc hBr.out (.map #[] 0)) _ (by simp only [World.size_alloc]; omega) hg1 (fun k hk => by injection hk with hk; omega)
            have hB4 := pw_below_grown hB3 _ (by omega) hg2 (fun k hk => by injection hk with hk; omega)
            have hB5 := pw_below_grown (pw_below_drewN hB4 nd) _ (by show _ ≤ w4.heap.size; omega) hg3 (fun k hk => by injection hk with hk; omega)
            have Hb6 : Aside0 (Below w.heap.size w w6) := ⟨pw_below_grown hB5 _ (by omega) hg4 (fun k hk => by injection hk with hk; omega)⟩
            have hk6 : ∀ g, g < wr.heap.size → ∀ {ob : Obj}, wr.heap[g]? = some ob → w6.heap[g]? = some ob := fun g hg {ob} h => by
              have e1 := blk_grown (blk_alloc h (.map #[] 0)) hg1 (by simp; omega)
              have e2 := blk_grown e1 hg2 (by simp; omega)
              have e3 := blk_grown (blk_drewN e2 nd) hg3 (by simp; omega)
              exact blk_grown e3 hg4 (by simp; omega)
            go_roundw
            case rel =>
              refine ⟨k + 1, by omega, by go_num, ⟨fun j hj => ?_⟩, Hb6, ⟨?_⟩, ⟨?_⟩⟩
              · rcases (show j < k ∨ j = k by omega) with h | rfl
                · exact hF.out j h
                · rw [HN.out]; exact hff
              · exact hk6 _ (by have := blk_lt hbxr.out; omega) hbxr.out
              · exact hk6 _ (by have := blk_lt hkyr.out; omega) hkyr.out
            case measure => simp [intOf]; omega
    · obtain rfl : k = 3 := by omega
      have HR := Aside0.mk (right_fine (size := size) (words := words) hio hF.out)
      have hx : ∀ j, wr.cell? ⟨w.heap.size, j, none⟩ = #[Value.int .i64 o, .int .i64 a, .int .i64 b, .int .i64 c][j]? := blk_cell hbxr.out
      have hx0 : wr.cell? ⟨w.heap.size, 0, none⟩ = some (.int .i64 o) := hx 0
      have hx1 : wr.cell? ⟨w.heap.size, 1, none⟩ = some (.int .i64 a) := hx 1
      have hx2 : wr.cell? ⟨w.heap.size, 2, none⟩ = some (.int .i64 b) := hx 2
      have hx3 : wr.cell? ⟨w.heap.size, 3, none⟩ = some (.int .i64 c) := hx 3
      clear hx ix0 ix1 ix2 hB2
      by_cases ho0 : o = 0
      · subst ho0
        by_cases ha : a = 0
        · subst ha
          go_wp2
          all_goals go_ret
          all_goals (refine ⟨congrArg (fun b => Ending.returned (Value.bool b)) (Eq.symm (HR.out.trans ?_)), hBr.out⟩; first | rfl | (simp [*]; done) | (simp_all; done))
        · have ea : (a == 0) = false := beq_eq_false_iff_ne.2 ha
          go_wp2
          all_goals go_ret
          all_goals (refine ⟨congrArg (fun b => Ending.returned (Value.bool b)) (Eq.symm (HR.out.trans ?_)), hBr.out⟩; first | rfl | (simp [*]; done) | (simp_all; done))
      · have e0 : (o == 0) = false := beq_eq_false_iff_ne.2 ho0
        by_cases ho1 : o = 17
        · subst ho1
          go_wp2
          all_goals go_ret
          all_goals (refine ⟨congrArg (fun b => Ending.returned (Value.bool b)) (Eq.symm (HR.out.trans ?_)), hBr.out⟩; first | rfl | (simp [*]; done) | (simp_all; done))
        · have e1 : (o == 17) = false := beq_eq_false_iff_ne.2 ho1
          by_cases ho2 : o = 18
          · subst ho2
            go_wp2
            all_goals go_ret
            all_goals (refine ⟨congrArg (fun b => Ending.returned (Value.bool b)) (Eq.symm (HR.out.trans ?_)), hBr.out⟩; first | rfl | (simp [*]; done) | (simp_all; done))
          · have e2 : (o == 18) = false := beq_eq_false_iff_ne.2 ho2
            go_wp2
            all_goals go_ret
            all_goals (refine ⟨congrArg (fun b => Ending.returned (Value.bool b)) (Eq.symm (HR.out.trans ?_)), hBr.out⟩; first | rfl | (simp [*]; done) | (simp_all; done))

set_option maxRecDepth 100000 in
theorem right_out (o a b c size words : Int) (h : isOp o = false) (w : World) (hk : KindsAt w) :
    Calls Tryd.prog 19 #[.agg #[.int .i64 o, .int .i64 a, .int .i64 b, .int .i64 c], .int .i64 size, .int .i64 words] w fun e w' => e = .returned (.bool false) ∧ Below w.heap.size w w' := by
  have hK := Aside0.mk hk
  clear hk
  go_enter Tryd.func19, Tryd.ntmps19
  go_wp2_with fail
  refine (code_find.calls _ _ _ _ _ _ _ rfl (hK.out.below (below_alloc (Below.refl _ _) _))).mono ?_
  rintro e w1 ⟨rfl, hb⟩
  have hB : Aside0 (Below w.heap.size w w1) := ⟨(below_alloc (Below.refl _ _) _).trans (hb.mono (by simp))⟩
  clear hb
  go_wp2
  go_ret
  exact ⟨rfl, below_alloc hB.out _⟩
def code_Instr_Right.f (a0_0 a0_1 a0_2 a0_3 a1 a2 : Int) : Option Bool := some (rightB a0_0 a0_1 a0_2 a0_3 a1 a2)
theorem code_Instr_Right.calls (a0_0 a0_1 a0_2 a0_3 a1 a2 : Int) (r : Bool) (w : World) (h : code_Instr_Right.f a0_0 a0_1 a0_2 a0_3 a1 a2 = some r) (hGl : KindsAt w) :
    Calls Tryd.prog 19 #[.agg #[.int .i64 a0_0, .int .i64 a0_1, .int .i64 a0_2, .int .i64 a0_3], .int .i64 a1, .int .i64 a2] w fun e w' => e = .returned (.bool r) ∧ Below w.heap.size w w' := by
  obtain rfl := Option.some.inj h
  cases hio : isOp a0_0
  · rw [right_none hio]; exact right_out _ _ _ _ _ _ hio w hGl
  · have := of_decide_eq_true hio
    exact right_in _ _ _ _ _ _ this.1 this.2 w hGl
end Go.Proofs.YtgnplpmmadbbdaaDoor
