/- By hand: the first ones of a row of messages are deleted. After the kit's walk of slices.Delete at whole numbers (Derived/Shelf/SlicesG/Delete.lean), turned to rows of cells and to a cut at the head. (The drawing region's rows are printed by rwt.py.) -/
import Derived.Test.YteeljnlhgaljaaaS
import Derived.Deep.RegionLaw
import Derived.Lib.SliceRun
import Derived.Lib.SlicesDelete
import Derived.Outline
namespace Go.Proofs.Yteeljnlhgaljaaa
set_option linter.unusedVariables false
set_option linter.unusedSimpArgs false
open Go.RowKit Go.Proofs.YteeljnlhgaljaaaW.PrintWords Go.Proofs.YteeljnlhgaljaaaW.PrintLast Go.Proofs.Yteeljnlhgaljaaa.P
open Go.Sort Go.Lib

theorem v34z : ∀ w, (zeroValue 34).run Try.prog w = .ok (.slice none 0 0) w := fun w => by kernel_rfl
theorem i34 : (Try.prog.info? 34).map (fun i => (i.zero, i.size, i.bytes)) = some (some (.slice none 0 0), 1, 24) := by kernel_rfl
set_option maxHeartbeats 4000000 in
set_option maxRecDepth 1000000 in
theorem delete_arr38 (b cap j : Nat) (d : Array Value) (w : World) (hH : Holds (α := Value) id w b 0 d) (h1 : ∀ u ∈ d.toList, u.oneCell' = true) (hcap : d.size ≤ cap) (hm : cap ≤ 9223372036854775807) (hj0 : 0 < j) (hj : j ≤ d.size) :
    Calls Try.prog 38 #[.slice (some ⟨b, 0, none⟩) d.size cap, .int .i64 0, .int .i64 j] w fun e w' => e = .returned (.slice (some ⟨b, 0, none⟩) (d.size - j) cap) ∧ ∃ q, w' = putRow (α := Value) id (Sort.ahead w q) b 0 (d.toList.drop j ++ List.replicate j (Value.slice none 0 0)).toArray := by
  obtain ⟨i0, hi0, hz0, hz1, hz2⟩ := info_parts i34
  obtain ⟨news, hnews⟩ : ∃ news, news = d.toList.drop j := ⟨_, rfl⟩
  have hlen : news.length = d.size - j := by rw [hnews]; simp
  have hget : ∀ t, t < d.size - j → news[t]? = some d[j + t]! := by
    intro t ht
    rw [hnews, List.getElem?_drop, Array.getElem?_toList, getElem!_pos d (j + t) (by omega), Array.getElem?_eq_getElem (by omega)]
  obtain ⟨A, hA, hsrc⟩ : ∃ A : Addr, (if cap = j then some (⟨b, 0, none⟩ : Addr) else some ⟨b, j, none⟩) = some A ∧ Hid (∀ t u, news[t]? = some u → w.drew.cell? (A.add t) = some u) := by
    by_cases h : cap = j
    · refine ⟨⟨b, 0, none⟩, by simp [h], fun t u hu => ?_⟩
      have h0 : news.length = 0 := by rw [hlen]; omega
      rw [List.length_eq_zero_iff.1 h0] at hu
      simp at hu
    · refine ⟨⟨b, j, none⟩, by simp [h], fun t u hu => ?_⟩
      have ht : t < d.size - j := by
        have := (List.getElem?_eq_some_iff.1 hu).1
        rwa [hlen] at this
      rw [hget t ht] at hu
      rw [Addr.add_lit]
      have := (hH (j + t) (by omega)).1
      rw [Nat.zero_add] at this
      exact this.trans hu
  have s1 : Hid (news.length = (d.size - j) * 1) := by rw [Nat.mul_one]; exact hlen
  have s2 : Hid (∀ u ∈ news, u.oneCell' = true) := by
    intro u hu
    rw [hnews] at hu
    exact h1 u (List.mem_of_mem_drop hu)
  have s3 : Hid (∀ t, t < news.length → (w.drew.cell? ⟨b, 0 + 0 * 1 + t, none⟩).isSome = true ∧ w.drew.frozen? ⟨b, 0 + 0 * 1 + t, none⟩ = false) := by
    intro t ht
    rw [hlen] at ht
    rw [show 0 + 0 * 1 + t = 0 + t by omega]
    exact ⟨by show (w.cell? _).isSome = true; rw [(hH t (by omega)).1]; rfl, (hH t (by omega)).2⟩
  obtain ⟨W1, hW1⟩ : ∃ W1, W1 = w.drew.setCells b (0 + 0 * 1) news := ⟨_, rfl⟩
  have hW1' : W1 = putRow (α := Value) id (Sort.ahead w 1) b 0 (lay d 0 (d.toList.drop j)) := by
    have := putRow_setCells (α := Value) id (Sort.ahead w 1) b 0 (d.toList.drop j) d 0 (by simp)
    rw [putRow_self id (Sort.ahead w 1) b 0 d (holds_ahead id w 1 b 0 d hH), List.map_id] at this
    rw [hW1, hnews, ← this]
    rfl
  have hH1 : Holds (α := Value) id W1 b 0 (lay d 0 (d.toList.drop j)) := by rw [hW1']; exact holds_putRow id _ b 0 d _ (holds_ahead id w 1 b 0 d hH) (lay_size _ _ _)
  have hcl : ∀ ty, (Builtin.clear_ #[25] ty #[.slice (some ⟨b, d.size - j, none⟩) (d.size - (d.size - j)) (cap - (d.size - j))]).run Try.prog W1 = .ok (.tuple #[]) (W1.setCells b (d.size - j) (List.replicate (d.size - (d.size - j)) (.slice none 0 0))) :=
    fun ty => Lib.run_clear_slice W1 _ _ ty _ Try.underlying25 v34z rfl rfl b (d.size - j) _ _ (by omega) (fun t ht => by have := (hH1 (d.size - j + t) (by rw [lay_size]; omega)).1; rw [Nat.zero_add] at this; rw [this]; rfl) (fun t ht => by have := (hH1 (d.size - j + t) (by rw [lay_size]; omega)).2; rw [Nat.zero_add] at this; exact this)
  have X : Aside (W1 = putRow (α := Value) id (Sort.ahead w 1) b 0 (lay d 0 (d.toList.drop j))) := hW1'
  have hW : Hid (W1 = w.drew.setCells b (0 + 0 * 1) news) := hW1
  have hjc : j ≤ cap := by omega
  have hji : ((0 : Int) == (j : Int)) = false := by simp; omega
  clear hW1 hW1' hH1 hH hget hnews hlen h1
  go_enter Try.func38, Try.ntmps38
  go_wp2_with fail
  refine start_ (n := 8) (S := fun w' => True) (ds := []) #[false, false, false, false, false, false, false, false] (by kernel_rfl) rfl rfl trivial (fun hHeld => ?_)
  refine pure_ (i := 0) (N := some 20) (v := ?_) (a' := ?_) #[true, false, false, false, false, false, false, false] rfl rfl (by kernel_rfl) (fun _ _ _ h => h) (Or.inl ⟨by rfl, ?_⟩) ?_ ?_
  rotate_left
  · intro w'
    go_simp
    with_reducible rfl
  rotate_left
  · simp only [Act.put, List.setIfInBounds_toArray, List.set_cons_zero, List.set_cons_succ, i64_w, i32_w]
    rfl
  refine pure_ (i := 1) (N := some 21) (v := ?_) (a' := ?_) #[true, true, false, false, false, false, false, false] rfl rfl (by kernel_rfl) (fun _ _ _ h => h) (Or.inl ⟨by rfl, ?_⟩) ?_ ?_
  rotate_left
  · intro w'
    go_simp
    with_reducible rfl
  rotate_left
  · simp only [Act.put, List.setIfInBounds_toArray, List.set_cons_zero, List.set_cons_succ, i64_w, i32_w]
    rfl
  refine pure_ (i := 2) (N := some 22) (v := ?_) (a' := ?_) #[true, true, true, false, false, false, false, false] rfl rfl (by kernel_rfl) (fun _ _ _ h => h) (Or.inl ⟨by rfl, ?_⟩) ?_ ?_
  rotate_left
  · intro w'
    go_simp
    with_reducible rfl
  rotate_left
  · simp only [Act.put, List.setIfInBounds_toArray, List.set_cons_zero, List.set_cons_succ, i64_w, i32_w]
    rfl
  refine pure_ (i := 3) (N := some 23) (v := ?_) (a' := ?_) #[true, true, true, true, false, false, false, false] rfl rfl (by kernel_rfl) (fun _ _ _ h => h) (Or.inl ⟨by rfl, ?_⟩) ?_ ?_
  rotate_left
  · intro w'
    go_simp
    with_reducible rfl
  rotate_left
  · simp only [Act.put, List.setIfInBounds_toArray, List.set_cons_zero, List.set_cons_succ, i64_w, i32_w]
    rfl
  refine pure_ (i := 4) (N := some 24) (v := ?_) (a' := ?_) #[true, true, true, true, true, false, false, false] rfl rfl (by kernel_rfl) (fun _ _ _ h => h) (Or.inl ⟨by rfl, ?_⟩) ?_ ?_
  rotate_left
  · intro w'
    go_simp
    with_reducible rfl
  rotate_left
  · simp only [Act.put, List.setIfInBounds_toArray, List.set_cons_zero, List.set_cons_succ, i64_w, i32_w]
    rfl
  refine pure_ (i := 5) (N := some 25) (v := ?_) (a' := ?_) #[true, true, true, true, true, true, false, false] rfl rfl (by kernel_rfl) (fun _ _ _ h => h) (Or.inl ⟨by rfl, ?_⟩) ?_ ?_
  rotate_left
  · intro w'
    go_simp
    with_reducible rfl
  rotate_left
  · simp only [Act.put, List.setIfInBounds_toArray, List.set_cons_zero, List.set_cons_succ, i64_w, i32_w]
    rfl
  refine one_ (i := 6) (N := some 26) #[true, true, true, true, true, true, true, false] rfl rfl (by kernel_rfl) (by decide) (fun K hK => ?_)
  refine step_append_room rfl (.tmp 22) (.tmp 25) 25 rfl 34 i0 1 Try.underlying25 hi0 hz1 b 0 0 cap (by rfl) A (d.size - j) (cap - j) news (by rfl) s1.out hsrc.out s2.out (by omega) s3.out ?_
  rw [← hW.out]
  refine hK.out _ _ trivial (fun hHeld => ?_)
  clear hK K
  refine norm_ (a' := ?_) ?_ ?_
  rotate_left
  · show Act.put _ (some 26) _ = _
    simp only [Act.put, List.setIfInBounds_toArray, List.set_cons_zero, List.set_cons_succ, i64_w, i32_w]
    rfl
  refine pure_ (i := 7) (N := some 0) (v := ?_) (a' := ?_) #[true, true, true, true, true, true, true, true] rfl rfl (by kernel_rfl) (fun _ _ _ h => h) (Or.inl ⟨by rfl, ?_⟩) ?_ ?_
  rotate_left
  · intro w'
    go_simp
    with_reducible rfl
  rotate_left
  · simp only [Act.put, List.setIfInBounds_toArray, List.set_cons_zero, List.set_cons_succ, i64_w, i32_w]
    rfl
  refine done_ (by kernel_rfl) ?_
  go_wp2
  go_ret
  refine ⟨by simp, 1, ?_⟩
  have hda := delete_arr d 0 j (Value.slice none 0 0) (by omega) hj
  simp only [Nat.zero_add, Nat.sub_zero, List.take_zero, List.nil_append] at hda
  have hps := putRow_setCells (α := Value) id (Sort.ahead w 1) b 0 (List.replicate j (Value.slice none 0 0)) (lay d 0 (d.toList.drop j)) (d.size - j) (by rw [lay_size]; simp; omega)
  rw [← hda, ← hps, ← X.out, List.map_id, Nat.zero_add, show d.size - (d.size - j) = j by omega]
end Go.Proofs.Yteeljnlhgaljaaa
