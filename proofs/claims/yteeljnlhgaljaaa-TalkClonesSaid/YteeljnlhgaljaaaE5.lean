/- By hand: the first ones of a row of messages are deleted: of rows. -/
import Derived.Test.YteeljnlhgaljaaaE4
namespace Go.Proofs.Yteeljnlhgaljaaa
set_option linter.unusedVariables false
set_option linter.unusedSimpArgs false
open Go.RowKit Go.Proofs.YteeljnlhgaljaaaW.PrintWords Go.Proofs.YteeljnlhgaljaaaW.PrintLast Go.Proofs.Yteeljnlhgaljaaa.P
open Go.Sort Go.Lib

theorem mapBlock_at {w : World} {b : Nat} {cur : Array Value} {e : TypeId} {fr : Nat × Nat} (f : Array Value → Array Value) (h : w.heap[b]? = some (.cells cur e fr)) : (mapBlock w b f).heap[b]? = some (.cells (f cur) e fr) := by
  unfold mapBlock
  simp [Array.getElem?_modify, h, onCells]
theorem mapBlock_far {w : World} {b k : Nat} (f : Array Value → Array Value) (h : k ≠ b) : (mapBlock w b f).heap[k]? = w.heap[k]? := by
  unfold mapBlock
  simp [Array.getElem?_modify, Ne.symm h]
theorem fr_mapBlock {S : Nat → Prop} (w : World) {b : Nat} (hb : S b) (f : Array Value → Array Value) : Fr S w (mapBlock w b f) :=
  ⟨rfl, rfl, rfl, by simp [mapBlock], fun k hk hn => mapBlock_far f (fun e => hn (e ▸ hb))⟩
theorem putCells_take (d c : Array Value) (m : Nat) (hm : m ≤ d.size) (hc : d.size ≤ c.size) : (putCells (α := Value) id 0 d c).toList.take m = d.toList.take m := by
  apply List.ext_getElem?
  intro k
  rw [List.getElem?_take, List.getElem?_take]
  split
  · rename_i hk
    rw [Array.getElem?_toList, Array.getElem?_toList]
    simp only [putCells, Array.getElem?_mapIdx]
    rw [Array.getElem?_eq_getElem (show k < c.size by omega), Array.getElem?_eq_getElem (show k < d.size by omega), Option.map_some, if_pos ⟨Nat.zero_le _, by omega⟩, Nat.sub_zero, getElem!_pos d k (by omega)]
    rfl
  · rfl
theorem delete_ok (b cap j : Nat) (l : List (List Int)) (ok : Nat → Prop) (w : World) (h : kM.R 34 w 0 ok (.slice (some ⟨b, 0, none⟩) l.length cap) l) (hj0 : 0 < j) (hj : j ≤ l.length) :
    Calls Try.prog 38 #[.slice (some ⟨b, 0, none⟩) l.length cap, .int .i64 0, .int .i64 j] w fun e w' => e = .returned (.slice (some ⟨b, 0, none⟩) (l.drop j).length cap) ∧ kM.R 34 w' 0 ok (.slice (some ⟨b, 0, none⟩) (l.drop j).length cap) (l.drop j) ∧ Fr (fun k => k = b) w w' := by
  obtain ⟨hok, inner, ⟨hlen, hown⟩, hrep⟩ := h
  have hn1 : l.length * kM.sz = l.length := Nat.mul_one _
  rw [hn1] at hlen
  rcases hown with ⟨hv, h0⟩ | ⟨g, cap', cur, hv, hg0, hblk, hnc, hmx, hsz, htk⟩
  · cases hv
  obtain ⟨rfl, rfl⟩ : g = b ∧ cap' = cap := by
    injection hv with h1 h2 h3
    injection h1 with h1
    injection h1 with h1
    exact ⟨h1.symm, h3.symm⟩
  rw [hn1] at htk
  rw [show cap' * kM.sz = cap' from Nat.mul_one _] at hsz
  have hmx' : cap' ≤ 9223372036854775807 := hmx
  have hlt : g < w.heap.size := blk_lt hblk
  have hH : Holds (α := Value) id w g 0 inner.toArray := by
    intro k hk
    have hk' : k < inner.length := by simpa using hk
    refine ⟨?_, blk_frozen hblk _⟩
    rw [Nat.zero_add, blk_cell hblk k, getElem!_pos inner.toArray k hk]
    have : inner[k]? = cur.toList[k]? := by rw [← htk, List.getElem?_take, if_pos (by omega)]
    rw [← Array.getElem?_toList, ← this]
    simp [hk']
  have h1 : ∀ u ∈ inner.toArray.toList, u.oneCell' = true := by
    intro u hu
    obtain ⟨k, hk, rfl⟩ := List.getElem_of_mem hu
    have hk' : k < l.length := by simpa [hlen] using hk
    obtain ⟨v, hv', hR⟩ := hrep.2 k _ (List.getElem?_eq_getElem hk')
    have hg : (inner.drop (k * kM.sz)).take kM.sz = [inner[k]'(by omega)] := by
      show (inner.drop (k * 1)).take 1 = _
      rw [Nat.mul_one, List.drop_eq_getElem_cons (by omega)]
      rfl
    rw [hg] at hv'
    obtain ⟨A, c, rfl⟩ := Kd.R_slice hR
    have : inner[k]'(by omega) = .slice A _ c := (List.cons.inj hv').1
    show (inner[k]'(by omega)).oneCell' = true
    rw [this]
    rfl
  have hsl : (l.drop j).length = inner.toArray.size - j := by simp [hlen]
  have hin : inner.toArray.size = l.length := by simp [hlen]
  have hcall := delete_arr38 g cap' j inner.toArray w hH h1 (by omega) hmx' hj0 (by omega)
  rw [hin] at hcall
  refine hcall.mono ?_
  rintro e w' ⟨rfl, q, rfl⟩
  unfold putRow
  have hd2 : (inner.toArray.toList.drop j ++ List.replicate j (Value.slice none 0 0)).toArray.size = l.length := by simp; omega
  have hb' : (Sort.ahead w q).heap[g]? = some (.cells cur 34 (0, 0)) := hblk
  refine ⟨by rw [List.length_drop], ⟨fun k hk => hok k hk, inner.drop j, ⟨by rw [List.length_drop, List.length_drop, hlen]; exact (Nat.mul_one _).symm, .inr ⟨g, cap', _, rfl, Nat.zero_le _, mapBlock_at _ hb', by rw [List.length_drop]; omega, hmx, ?_, ?_⟩⟩, ?_, ?_⟩, (show Fr (fun k => k = g) w (Sort.ahead w q) from Fr.of_below ⟨rfl, rfl, rfl, Nat.le_refl _, fun _ _ => rfl⟩).trans (fr_mapBlock (S := fun k => k = g) (Sort.ahead w q) rfl _) (fun k h => .inl h)⟩
  · rw [show cap' * kM.sz = cap' from Nat.mul_one _]
    simpa [putCells] using hsz
  · rw [show (l.drop j).length * kM.sz = (l.drop j).length from Nat.mul_one _, putCells_take _ _ _ (by rw [hd2]; simp) (by rw [hd2]; omega)]
    simp [hlen]
  · rw [List.length_drop, List.length_drop, hlen]; exact (Nat.mul_one _).symm
  · intro k p hp
    have hp' : l[j + k]? = some p := by simpa [List.getElem?_drop] using hp
    have := hrep.2 (j + k) p hp'
    rw [List.drop_drop, show j + k * kM.sz = (j + k) * kM.sz by show j + k * 1 = (j + k) * 1; omega]
    exact Kd.M_step this (fun k' hk' hlt' => mapBlock_far _ (fun e => hk'.2 (by rw [e]; rfl)))
end Go.Proofs.Yteeljnlhgaljaaa
