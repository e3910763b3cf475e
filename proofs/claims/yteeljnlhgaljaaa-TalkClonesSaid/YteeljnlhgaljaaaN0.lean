/- Cells of rows of bytes, of rows of rows; literals. -/
import Derived.Test.YteeljnlhgaljaaaK
namespace Go.Proofs.Yteeljnlhgaljaaa
set_option linter.unusedVariables false
set_option linter.unusedSimpArgs false
open Go.RowKit Go.Proofs.YteeljnlhgaljaaaW.PrintWords Go.Proofs.YteeljnlhgaljaaaW.PrintLast Go.Proofs.Yteeljnlhgaljaaa.P

theorem cur_at {cur : Array Value} {n : Nat} {xs : List Value} (h : cur.toList.take n = xs) {j : Nat} {u : Value} (hu : xs[j]? = some u) : cur[j]? = some u := by
  subst h
  have hj : j < n := by
    have := (List.getElem?_eq_some_iff.1 hu).1
    rw [List.length_take] at this
    omega
  rw [List.getElem?_take_of_lt hj] at hu
  simpa using hu
theorem one_at {xs : List Value} {j : Nat} {u : Value} (h : (xs.drop (j * 1)).take 1 = [u]) : xs[j]? = some u := by
  rw [Nat.mul_one] at h
  have h2 := congrArg (fun l : List Value => l[0]?) h
  simpa using h2
/-- A row of bytes of one's own: its block. -/
theorem byte_cells {w : World} {base : Nat} {ok : Nat → Prop} {v : Value} {xs : List Int} (h : (Kd.int .u8).R 5 w base ok v xs) (hn : 0 < xs.length) :
    ∃ b c cur, v = .slice (some ⟨b, 0, none⟩) xs.length c ∧ ok b ∧ base ≤ b ∧ w.heap[b]? = some (.cells cur 5 (0, 0)) ∧ ∀ (j : Nat) x, xs[j]? = some x → cur[j]? = some (.int .u8 x) := by
  obtain ⟨hok, inner, ⟨hlen, hown⟩, hrep⟩ := h
  rcases hown with ⟨hv, h0⟩ | ⟨g, cap, cur, rfl, hg0, hblk, hnc, hmx, hsz, htk⟩
  · omega
  · exact ⟨g, cap, cur, rfl, hok g rfl, hg0, hblk, fun j x hx => cur_at htk (one_at (hrep.2 j x hx))⟩
/-- A row of rows of one's own: its block, and its rows. -/
theorem row_cells {w : World} {base : Nat} {ok : Nat → Prop} {v : Value} {l : List (List Int)} (h : kM.R 34 w base ok v l) (hn : 0 < l.length) :
    ∃ b c cur, v = .slice (some ⟨b, 0, none⟩) l.length c ∧ ok b ∧ base ≤ b ∧ w.heap[b]? = some (.cells cur 34 (0, 0)) ∧ ∀ (j : Nat) m, l[j]? = some m → ∃ u, cur[j]? = some u ∧ (Kd.int .u8).R 5 w base (fun k => ok k ∧ k ≠ b) u m := by
  obtain ⟨hok, inner, ⟨hlen, hown⟩, hrep⟩ := h
  rcases hown with ⟨hv, h0⟩ | ⟨g, cap, cur, rfl, hg0, hblk, hnc, hmx, hsz, htk⟩
  · omega
  · refine ⟨g, cap, cur, rfl, hok g rfl, hg0, hblk, fun j m hm => ?_⟩
    obtain ⟨u, hu, hR⟩ := hrep.2 j m hm
    exact ⟨u, cur_at htk (one_at hu), Kd.R_mono hR (fun k hk => ⟨hk.1, fun e => hk.2 (by rw [e]; rfl)⟩)⟩
/-- A row of bytes that a literal has laid. -/
theorem lits_reads {w : World} {b : Nat} {fr : Nat × Nat} {l : List Int} (h : w.heap[b]? = some (.cells (l.map (Value.int .u8)).toArray 5 fr)) (hl : l.length ≤ 9223372036854775807) : Kd.C (Kd.int .u8) w (some ⟨b, 0, none⟩) l.length l := by
  refine ⟨rfl, hl, fun _ => ⟨_, rfl, fun j p hp => ⟨[.int .u8 p], rfl, rfl, fun i u hu => ?_⟩⟩⟩
  have hi : i = 0 := by
    have := (List.getElem?_eq_some_iff.1 hu).1
    simpa using this
  subst hi
  obtain rfl : Value.int .u8 p = u := by simpa using hu
  have e : (⟨b, 0, none⟩ : Addr).add (j * (Kd.int .u8).sz + 0) = ⟨b, j, none⟩ := by
    rw [show (Kd.int .u8).sz = 1 from rfl]
    cases j <;> simp [Addr.add]
  rw [e]
  refine (cell_of_row w b j _ 5 fr h).trans ?_
  simp [hp]
theorem lits_rows {w : World} {b0 b1 : Nat} {fr fr' : Nat × Nat} {l : List Int} {c : Nat} (h0 : w.heap[b0]? = some (.cells (l.map (Value.int .u8)).toArray 5 fr)) (h1 : w.heap[b1]? = some (.cells #[.slice (some ⟨b0, 0, none⟩) l.length c] 34 fr')) (hl : l.length ≤ 9223372036854775807) (hc : l.length ≤ c) : Kd.C kM w (some ⟨b1, 0, none⟩) 1 [l] := by
  refine ⟨rfl, by decide, fun _ => ⟨_, rfl, fun j p hp => ⟨[.slice (some ⟨b0, 0, none⟩) l.length c], rfl, ?_, fun i u hu => ?_⟩⟩⟩
  · have : j = 0 := by
      have := (List.getElem?_eq_some_iff.1 hp).1
      simpa using this
    subst this
    obtain rfl : l = p := by simpa using hp
    exact ⟨some ⟨b0, 0, none⟩, c, rfl, hc, lits_reads h0 hl⟩
  · have hj : j = 0 := by
      have := (List.getElem?_eq_some_iff.1 hp).1
      simpa using this
    have hi : i = 0 := by
      have := (List.getElem?_eq_some_iff.1 hu).1
      simpa using this
    subst hj hi
    obtain rfl : Value.slice (some ⟨b0, 0, none⟩) l.length c = u := by simpa using hu
    simp [World.cell?, Addr.add, h1]
end Go.Proofs.Yteeljnlhgaljaaa
