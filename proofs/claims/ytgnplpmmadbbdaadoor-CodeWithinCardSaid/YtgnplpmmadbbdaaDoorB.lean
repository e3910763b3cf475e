/- What the laid table of operations gives a walk: its 88 cells. -/
import Derived.Test.YtgnplpmmadbbdaaDoorRows
import Derived.Below
import Derived.OwnWalk
import Derived.WalkKit
import Derived.KernelRfl
import Derived.OpenShut
import Derived.MakeChecks
namespace Go.Proofs.YtgnplpmmadbbdaaDoor
open Go.RowKit Go.ChangeShapes

/-- The table's rows as data. -/
def kRows {H : Type} : List (DataW H) := match (Rows.laid_baize_code_kinds : DataW H) with | .agg l => l | _ => []
def kRow (i : Nat) : DataW Unit := kRows.getD i .nil
def strD : DataW Unit → ByteArray | .lit (.string l) => ⟨l.toArray⟩ | _ => ByteArray.empty
def boolD : DataW Unit → Bool | .lit (.bool b) => b | _ => false
def fieldD (j : Nat) : DataW Unit → DataW Unit | .agg l => l.getD j .nil | _ => .nil
def kname (i : Nat) : ByteArray := strD (fieldD 0 (kRow i))
def khas (i : Nat) : ByteArray := strD (fieldD 1 (kRow i))
def kreads (i : Nat) : ByteArray := strD (fieldD 2 (kRow i))
def kwrites (i : Nat) : Bool := boolD (fieldD 3 (kRow i))

/-- The table's cells lie in block 0. -/
structure KindsAt (w : World) : Prop where
  name : ∀ i, i < 22 → w.cell? ⟨0, i * 4, none⟩ = some (.string (kname i))
  has : ∀ i, i < 22 → w.cell? ⟨0, i * 4 + 1, none⟩ = some (.string (khas i))
  reads : ∀ i, i < 22 → w.cell? ⟨0, i * 4 + 2, none⟩ = some (.string (kreads i))
  writes : ∀ i, i < 22 → w.cell? ⟨0, i * 4 + 3, none⟩ = some (.bool (kwrites i))

theorem KindsAt.pos {w : World} (h : KindsAt w) : 0 < w.heap.size := World.block_lt_of_cell? w ⟨0, 0, none⟩ (h.name 0 (by decide))
theorem KindsAt.below {w w' : World} (h : KindsAt w) (hb : Below w.heap.size w w') : KindsAt w' :=
  ⟨fun i hi => (hb.cell (p := ⟨0, _, none⟩) h.pos).trans (h.name i hi), fun i hi => (hb.cell (p := ⟨0, _, none⟩) h.pos).trans (h.has i hi),
   fun i hi => (hb.cell (p := ⟨0, _, none⟩) h.pos).trans (h.reads i hi), fun i hi => (hb.cell (p := ⟨0, _, none⟩) h.pos).trans (h.writes i hi)⟩

theorem gKinds : Tryd.prog.globalNamed "baize/code.kinds" = some 0 := by kernel_rfl
theorem tKinds : (Tryd.prog.globals[0]?).map (·.type) = some 82 := by kernel_rfl

theorem kinds_cells {w : World} {cs : List Value} {fuel : Nat} {p : List MemPlace}
    (h : DataW.trod (fun _ => ()) Tryd.prog w 0 (fun _ => true) false fuel 82 cs = some (Rows.laid_baize_code_kinds, p)) (i : Nat) (hi : i < 22) :
    cs[i * 4]? = some (.string (kname i)) ∧ cs[i * 4 + 1]? = some (.string (khas i)) ∧ cs[i * 4 + 2]? = some (.string (kreads i)) ∧ cs[i * 4 + 3]? = some (.bool (kwrites i)) := by
  obtain ⟨xs, m, rfl, hx, hlen, hn, hel⟩ := DataW.trod_array Tryd.underlying82 h
  have c67 : Tryd.prog.cellsOf 67 = 4 := by kernel_rfl
  have c82 : Tryd.prog.cellsOf 82 = 88 := by kernel_rfl
  have c9 : Tryd.prog.cellsOf 9 = 1 := by kernel_rfl
  have c4 : Tryd.prog.cellsOf 4 = 1 := by kernel_rfl
  have h0 := hel i hi
  rw [c67] at h0
  obtain ⟨x, hxi⟩ : ∃ x, xs[i]? = some x := ⟨xs[i]'(by omega), by simp [hn, hi]⟩
  rw [hxi] at h0
  have hrow : x.1 = kRow i := by
    have e : xs.map (·.1) = (kRows : List (DataW Unit)) := by
      have := (Prod.mk.inj hx).1
      simp only [Rows.laid_baize_code_kinds, DataW.agg.injEq] at this
      exact this.symm
    have : (xs.map (·.1))[i]? = some x.1 := by simp [hxi]
    rw [e] at this
    simp [kRow, List.getD, this]
  obtain ⟨ys, n, _, rfl, hl, hlen4, hf⟩ := DataW.trod_struct Tryd.underlying67 h0
  have f0 : DataW.trod (fun _ => ()) Tryd.prog w 0 (fun _ => true) false n 9 ((((cs.drop (i * 4)).take 4).drop 0).take (Tryd.prog.cellsOf 9)) = ys[0]? := hf 0 _ rfl
  have f1 : DataW.trod (fun _ => ()) Tryd.prog w 0 (fun _ => true) false n 9 ((((cs.drop (i * 4)).take 4).drop 1).take (Tryd.prog.cellsOf 9)) = ys[1]? := hf 1 _ rfl
  have f2 : DataW.trod (fun _ => ()) Tryd.prog w 0 (fun _ => true) false n 9 ((((cs.drop (i * 4)).take 4).drop 2).take (Tryd.prog.cellsOf 9)) = ys[2]? := hf 2 _ rfl
  have f3 : DataW.trod (fun _ => ()) Tryd.prog w 0 (fun _ => true) false n 4 ((((cs.drop (i * 4)).take 4).drop 3).take (Tryd.prog.cellsOf 4)) = ys[3]? := hf 3 _ rfl
  rw [c9] at f0 f1 f2
  rw [c4] at f3
  match ys, hlen4 with
  | [y0, y1, y2, y3], _ =>
    obtain ⟨s0, e0, rfl, _⟩ := DataW.trod_string Tryd.underlying9 (show _ = some y0 from f0)
    obtain ⟨s1, e1, rfl, _⟩ := DataW.trod_string Tryd.underlying9 (show _ = some y1 from f1)
    obtain ⟨s2, e2, rfl, _⟩ := DataW.trod_string Tryd.underlying9 (show _ = some y2 from f2)
    obtain ⟨b3, e3, rfl⟩ := DataW.trod_bool Tryd.underlying4 (show _ = some y3 from f3)
    simp only [List.map_cons, List.map_nil] at hrow
    have get : ∀ (j : Nat) (v : Value), j < 4 → ((((cs.drop (i * 4)).take 4).drop j).take 1) = [v] → cs[i * 4 + j]? = some v := by
      intro j v hj e
      have := congrArg (·[0]?) e
      simpa [List.getElem?_take, List.getElem?_drop, hj] using this
    refine ⟨?_, ?_, ?_, ?_⟩
    · have := get 0 _ (by omega) e0
      simpa [kname, ← hrow, fieldD, strD] using this
    · simpa [khas, ← hrow, fieldD, strD] using get 1 _ (by omega) e1
    · simpa [kreads, ← hrow, fieldD, strD] using get 2 _ (by omega) e2
    · simpa [kwrites, ← hrow, fieldD, boolD] using get 3 _ (by omega) e3

theorem kinds_of_laid {W : World} (h : laidMetH Tryd.prog [("baize/code.kinds", Rows.laid_baize_code_kinds)] W) : KindsAt W := by
  rw [MakeChecks.laidMetH_plain _ _ _ (by kernel_rfl)] at h
  obtain ⟨ps, ⟨g0, t0, cs0, f0, p0, q0, hg0, ht0, hv0, hd0, _, _⟩, _, _⟩ := h
  obtain rfl := Option.some.inj (gKinds.symm.trans hg0)
  obtain rfl := Option.some.inj (tKinds.symm.trans ht0)
  have hc := World.var?_cell gKinds hv0
  have hk := fun i hi => kinds_cells hd0 i hi
  exact ⟨fun i hi => (hc _).trans (by simpa using (hk i hi).1), fun i hi => (hc _).trans (by simpa using (hk i hi).2.1),
    fun i hi => (hc _).trans (by simpa using (hk i hi).2.2.1), fun i hi => (hc _).trans (by simpa using (hk i hi).2.2.2)⟩
end Go.Proofs.YtgnplpmmadbbdaaDoor
