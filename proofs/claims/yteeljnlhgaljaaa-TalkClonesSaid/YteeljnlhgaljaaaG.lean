/- By hand: begin. (The drawing region's rows are printed by rwt.py.) -/
import Derived.Test.YteeljnlhgaljaaaK
namespace Go.Proofs.Yteeljnlhgaljaaa
set_option linter.unusedVariables false
set_option linter.unusedSimpArgs false
open Go.RowKit Go.Proofs.YteeljnlhgaljaaaW.PrintWords Go.Proofs.YteeljnlhgaljaaaW.PrintLast Go.Proofs.Yteeljnlhgaljaaa.P

def capOf (n a : Int) : Int := wrap64 (1 + wrap64 ((IntKind.u64.wrap a).tmod n))
theorem capOf_in (n a : Int) (h0 : 1 ≤ n) (h1 : n ≤ 1000) : 1 ≤ capOf n a ∧ capOf n a ≤ n := by
  have hu : 0 ≤ IntKind.u64.wrap a := Int.emod_nonneg a (by decide)
  have h2 := Int.tmod_nonneg n hu
  have h3 := Int.tmod_lt_of_pos (IntKind.u64.wrap a) (show 0 < n by omega)
  unfold capOf
  generalize (IntKind.u64.wrap a).tmod n = z at *
  unfold wrap64
  omega
theorem Fr.set {S : Nat → Prop} {w w1 : World} (h : Fr S w w1) {a : Addr} (ha : S a.block) (v : Value) : Fr S w (w1.setCell a v) := h.trans (Fr.setCell (S := S) _ ha _) (fun k h => .inl h)
/-- The document's end that said and heard nothing. -/
abbrev refNew (most again : Int) : Value := .agg #[.int .i64 most, .int .i64 again, .slice none 0 0, .int .i64 0, .int .i64 0, .slice none 0 0, .int .i64 0, .int .i64 0, .bool false, .bool false]
set_option maxRecDepth 100000 in
set_option maxHeartbeats 1000000 in
theorem begin_ok (a b : Int) (w : World) : Calls Try.prog 11 #[.agg #[.int .i64 a, .int .i64 b]] w fun e w' => ∃ g, e = .returned (.tuple #[.pointer (some ⟨g, 0, none⟩), refNew (capOf 64 a) (capOf 1000 b)]) ∧ IsTk w' g (fun k => k = g) (newTk (capOf 64 a) (capOf 1000 b)) ∧ w.heap.size ≤ g ∧ Below w.heap.size w w' := by
  have hA := Aside0.mk (capOf_in 64 a (by omega) (by omega))
  have hB := Aside0.mk (capOf_in 1000 b (by omega) (by omega))
  go_enter Try.func11, Try.ntmps11
  go_wp2_with fail
  go_quiet (fail)
  go_wp2_with fail
  rw [show wrap64 (1 + wrap64 ((IntKind.u64.wrap a).tmod 64)) = capOf 64 a from rfl, show wrap64 (1 + wrap64 ((IntKind.u64.wrap b).tmod 1000)) = capOf 1000 b from rfl]
  generalize hm : capOf 64 a = m at hA ⊢
  generalize hn : capOf 1000 b = n at hB ⊢
  have HM := Aside0.mk hm
  have HN := Aside0.mk hn
  clear hm hn
  have hbx : ∀ q, (((w.alloc (.cells #[.int .i64 a, .int .i64 b] 22)).alloc (.cells #[.int .i64 0, .int .i64 0, .slice none 0 0, .int .i64 0, .int .i64 0, .slice none 0 0, .int .i64 0, .int .i64 0, .bool false, .bool false] 27)).drewN q).heap[w.heap.size + 1]? = some (.cells #[.int .i64 0, .int .i64 0, .slice none 0 0, .int .i64 0, .int .i64 0, .slice none 0 0, .int .i64 0, .int .i64 0, .bool false, .bool false] 27 (0, 0)) := fun q => by
    have := blk_new (w.alloc (.cells #[.int .i64 a, .int .i64 b] 22)) (.cells #[.int .i64 0, .int .i64 0, .slice none 0 0, .int .i64 0, .int .i64 0, .slice none 0 0, .int .i64 0, .int .i64 0, .bool false, .bool false] 27)
    refine Eq.trans ?_ this
    show _ = _
    simp
  generalize hw1 : ((w.alloc _).alloc _).drewN _ = w1
  have hX1 := hw1 ▸ hbx _
  have hb1 : Below w.heap.size w w1 := hw1 ▸ pw_below_drewN (below_alloc (below_alloc (Below.refl _ _) _) _) _
  refine (new_ok m n w1 ⟨hA.out.1, hA.out.2, hB.out.1, hB.out.2⟩).mono ?_
  rintro e w2 ⟨rfl, hk, hb2⟩
  have X2 := blk_below hX1 hb2
  have HLT := Aside0.mk (blk_lt hX1)
  have c0 : ∀ j, w2.cell? ⟨w.heap.size + 1, j, none⟩ = (#[.int .i64 0, .int .i64 0, .slice none 0 0, .int .i64 0, .int .i64 0, .slice none 0 0, .int .i64 0, .int .i64 0, .bool false, .bool false] : Array Value)[j]? := fun j => blk_cell X2 j
  have f0 : ∀ j, w2.frozen? ⟨w.heap.size + 1, j, none⟩ = false := fun j => blk_frozen X2 j
  have HK := Aside0.mk hk
  have HB := Aside0.mk (below_then hb1 hb1.size hb2)
  have HG := Aside0.mk hb1.size
  clear hk hb2 hbx hX1 hw1 hb1 X2
  go_wp2
  have hge : w.heap.size ≤ w.heap.size + 1 := Nat.le_succ _
  refine bodyPost_ret (v := .tuple #[.pointer (some ⟨w1.heap.size, 0, none⟩), refNew m n]) (by simp [results, Try.results11, go_sem, *]) rfl ?_
  have hfin : ∀ {W : World}, Fr (fun k => k = w.heap.size + 1) w2 W → ∃ g, Ending.returned (.tuple #[.pointer (some ⟨w1.heap.size, 0, none⟩), refNew m n]) = .returned (.tuple #[.pointer (some ⟨g, 0, none⟩), refNew (capOf 64 a) (capOf 1000 b)]) ∧ IsTk W g (fun k => k = g) (newTk (capOf 64 a) (capOf 1000 b)) ∧ w.heap.size ≤ g ∧ Below w.heap.size w W := fun {W} hF => by
    rw [HM.out, HN.out]
    exact ⟨_, rfl, HK.out.frame hF (fun k h e => by have := HLT.out; omega), HG.out, Fr.below HB.out HB.out.size hF (fun k h => h ▸ hge)⟩
  refine hfin ?_
  repeat (with_reducible refine Fr.set ?_ ?_ _; rotate_left; exact rfl; skip)
  exact Fr.refl _ _
end Go.Proofs.Yteeljnlhgaljaaa
