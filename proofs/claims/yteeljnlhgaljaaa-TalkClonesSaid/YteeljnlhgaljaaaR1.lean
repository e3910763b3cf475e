/- By hand: the document's Tick. -/
import Derived.Test.YteeljnlhgaljaaaM
namespace Go.Proofs.Yteeljnlhgaljaaa
set_option linter.unusedVariables false
set_option linter.unusedSimpArgs false
open Go.RowKit Go.Proofs.YteeljnlhgaljaaaW.PrintWords Go.Proofs.YteeljnlhgaljaaaW.PrintLast Go.Proofs.YteeljnlhgaljaaaW.PrintMore Go.Proofs.Yteeljnlhgaljaaa.P
/-- The document's end. -/
structure Rf where
  most : Int
  again : Int
  said : List (List Int)
  heard : Int
  out : Int
  took : List (List Int)
  gave : Int
  last : Int
  went : Bool
  owes : Bool
abbrev rfC (r : Rf) (vs vt : Value) : Array Value := #[.int .i64 r.most, .int .i64 r.again, vs, .int .i64 r.heard, .int .i64 r.out, vt, .int .i64 r.gave, .int .i64 r.last, .bool r.went, .bool r.owes]
def rfDue (r : Rf) (now : Int) : Bool := decide (r.out < (r.said.length : Int)) || (decide (r.heard < (r.said.length : Int)) && r.went && decide (r.again ≤ now - r.last)) || r.owes
theorem fr_ge {B : Nat} {w w1 : World} (h : Fr (fun k => B ≤ k) w w1) (b i : Nat) (v : Value) (hb : B ≤ b) : Fr (fun k => B ≤ k) w (w1.setCell ⟨b, i, none⟩ v) := h.trans (Fr.setCell (S := fun k => B ≤ k) _ hb _) (fun k h => .inl h)
theorem run_drop25 (A : Option Addr) (c n k : Nat) (hk : k ≤ n) (hn : n ≤ c) (W : World) : (Instr.slice 25 (.slice A n c) (some (.int .i64 (k : Int))) none none).run Try.prog W = .ok (.slice (if c = k then A else A.map (·.add (k * 1))) (n - k) (c - k)) W := by
  have hel : Try.prog.elem 25 = 34 := by simp [Program.elem, Try.underlying25]
  have hu : Try.prog.underlying 25 = some (.slice (Try.prog.elem 25)) := by rw [hel]; exact Try.underlying25
  obtain ⟨i0, hi, hz⟩ := Option.map_eq_some_iff.1 info34'
  simp only [Prod.mk.injEq] at hz
  rw [run_slice_l W 25 A n c hu .i64 (k : Int) (by omega) (by omega), hel]
  simp [sizeOf, typeInfo, hi, hz.2.1, sliced, Result.andThen]
theorem own0 {b k : Nat} (h : (Value.slice (some ⟨b, 0, none⟩) 0 0).ownBlock = some k) : k = b := by
  have : b = k := by simpa [Value.ownBlock] using h
  exact this.symm
theorem below_row {w W w1 : World} {row : Option Nat} (hb : Below w.heap.size w W) (hg : W.grownBy w1 row) (hr : ∀ k, row = some k → w.heap.size ≤ k) : Below w.heap.size w w1 :=
  ⟨hg.os.trans hb.os, hg.tape.trans hb.tape, hg.output.trans hb.output, Nat.le_trans hb.size hg.size, fun k hk => (hg.block k (Nat.lt_of_lt_of_le hk hb.size) (fun e => by have := hr k e.symm; omega)).trans (hb.block k hk)⟩
theorem box213 {w1 w3 : World} (h : World.grownBy ((w1.drew.alloc (.cells #[] 34)).alloc (.cells #[.int .i64 0, .slice none 0 0, .int .i64 0] 68)) w3 (Value.slice (some ⟨w1.drew.heap.size, 0, none⟩) 0 0).ownBlock) : w3.heap[w1.heap.size + 1]? = some (.cells #[.int .i64 0, .slice none 0 0, .int .i64 0] 68 (0, 0)) := by
  have hb := blk_new (w1.drew.alloc (.cells #[] 34)) (.cells #[.int .i64 0, .slice none 0 0, .int .i64 0] 68)
  have hs : (w1.drew.alloc (.cells #[] 34)).heap.size = w1.heap.size + 1 := by simp
  rw [hs] at hb
  exact (h.block _ (blk_lt hb) (fun e => by have h2 : w1.heap.size + 1 = w1.heap.size := own0 e.symm; omega)).trans hb
theorem box132 {w1 w3 : World} (h : World.grownBy ((w1.drew.alloc (.cells #[.int .i64 0, .slice none 0 0, .int .i64 0] 68)).alloc (.cells #[] 34)) w3 (Value.slice (some ⟨w1.heap.size + 1, 0, none⟩) 0 0).ownBlock) : w3.heap[w1.drew.heap.size]? = some (.cells #[.int .i64 0, .slice none 0 0, .int .i64 0] 68 (0, 0)) := by
  have hb := blk_alloc (blk_new w1.drew (.cells #[.int .i64 0, .slice none 0 0, .int .i64 0] 68)) (.cells #[] 34)
  exact (h.block _ (blk_lt hb) (fun e => by have h2 : w1.heap.size = w1.heap.size + 1 := own0 e.symm; omega)).trans hb
theorem lit0 (X : World) (ok : Nat → Prop) (h : ok X.heap.size) : Kd.N kM 34 (X.alloc (.cells #[] 34)) 0 ok (.slice (some ⟨X.heap.size, 0, none⟩) 0 0) [] := Kd.R_N ⟨fun k hk => own0 hk ▸ h, [], ⟨rfl, .inr ⟨X.heap.size, 0, #[], rfl, Nat.zero_le _, blk_new X _, Nat.le_refl _, by decide, rfl, rfl⟩⟩, Reps.none _ _⟩
theorem fr3 {W : World} {b : Nat} {cs : Array Value} {t : TypeId} (bx : Nat) (h : W.heap[b]? = some (.cells cs t (0, 0))) (v0 v1 v2 : Value) (hne : b ≠ bx) : (((W.setCell ⟨bx, 0, none⟩ v0).setCell ⟨bx, 1, none⟩ v1).setCell ⟨bx, 2, none⟩ v2).heap[b]? = some (.cells cs t (0, 0)) :=
  blk_far (blk_far (blk_far h (p := ⟨bx, 0, none⟩) hne v0) (p := ⟨bx, 1, none⟩) hne v1) (p := ⟨bx, 2, none⟩) hne v2
theorem fr4 {W : World} {b : Nat} {cs : Array Value} {t : TypeId} (bx : Nat) (h : W.heap[b]? = some (.cells cs t (0, 0))) (v4 v7 v8 v9 : Value) (hne : b ≠ bx) : ((((W.setCell ⟨bx, 4, none⟩ v4).setCell ⟨bx, 7, none⟩ v7).setCell ⟨bx, 8, none⟩ v8).setCell ⟨bx, 9, none⟩ v9).heap[b]? = some (.cells cs t (0, 0)) :=
  blk_far (blk_far (blk_far (blk_far h (p := ⟨bx, 4, none⟩) hne v4) (p := ⟨bx, 7, none⟩) hne v7) (p := ⟨bx, 8, none⟩) hne v8) (p := ⟨bx, 9, none⟩) hne v9
theorem fr10 {W : World} {b : Nat} {cs : Array Value} {t : TypeId} (bx : Nat) (h : W.heap[b]? = some (.cells cs t (0, 0))) (hne : b ≠ bx) (v0 v1 v2 v3 v4 v5 v6 v7 v8 v9 : Value) : ((((((((((W.setCell ⟨bx, 0, none⟩ v0).setCell ⟨bx, 1, none⟩ v1).setCell ⟨bx, 2, none⟩ v2).setCell ⟨bx, 3, none⟩ v3).setCell ⟨bx, 4, none⟩ v4).setCell ⟨bx, 5, none⟩ v5).setCell ⟨bx, 6, none⟩ v6).setCell ⟨bx, 7, none⟩ v7).setCell ⟨bx, 8, none⟩ v8).setCell ⟨bx, 9, none⟩ v9).heap[b]? = some (.cells cs t (0, 0)) :=
  blk_far (blk_far (blk_far (blk_far (blk_far (blk_far (blk_far (blk_far (blk_far (blk_far h (p := ⟨bx, 0, none⟩) hne v0) (p := ⟨bx, 1, none⟩) hne v1) (p := ⟨bx, 2, none⟩) hne v2) (p := ⟨bx, 3, none⟩) hne v3) (p := ⟨bx, 4, none⟩) hne v4) (p := ⟨bx, 5, none⟩) hne v5) (p := ⟨bx, 6, none⟩) hne v6) (p := ⟨bx, 7, none⟩) hne v7) (p := ⟨bx, 8, none⟩) hne v8) (p := ⟨bx, 9, none⟩) hne v9
theorem put10 {W : World} {b : Nat} {t : TypeId} {a0 a1 a2 a3 a4 a5 a6 a7 a8 a9 : Value} (h : W.heap[b]? = some (.cells #[a0, a1, a2, a3, a4, a5, a6, a7, a8, a9] t (0, 0))) (v0 v1 v2 v3 v4 v5 v6 v7 v8 v9 : Value) : ((((((((((W.setCell ⟨b, 0, none⟩ v0).setCell ⟨b, 1, none⟩ v1).setCell ⟨b, 2, none⟩ v2).setCell ⟨b, 3, none⟩ v3).setCell ⟨b, 4, none⟩ v4).setCell ⟨b, 5, none⟩ v5).setCell ⟨b, 6, none⟩ v6).setCell ⟨b, 7, none⟩ v7).setCell ⟨b, 8, none⟩ v8).setCell ⟨b, 9, none⟩ v9).heap[b]? = some (.cells #[v0, v1, v2, v3, v4, v5, v6, v7, v8, v9] t (0, 0)) := by
  have h0 : (W.setCell ⟨b, 0, none⟩ v0).heap[b]? = some (.cells #[v0, a1, a2, a3, a4, a5, a6, a7, a8, a9] t (0, 0)) := blk_put h 0 v0 rfl
  have h1 : ((W.setCell ⟨b, 0, none⟩ v0).setCell ⟨b, 1, none⟩ v1).heap[b]? = some (.cells #[v0, v1, a2, a3, a4, a5, a6, a7, a8, a9] t (0, 0)) := blk_put h0 1 v1 rfl
  have h2 : (((W.setCell ⟨b, 0, none⟩ v0).setCell ⟨b, 1, none⟩ v1).setCell ⟨b, 2, none⟩ v2).heap[b]? = some (.cells #[v0, v1, v2, a3, a4, a5, a6, a7, a8, a9] t (0, 0)) := blk_put h1 2 v2 rfl
  have h3 : ((((W.setCell ⟨b, 0, none⟩ v0).setCell ⟨b, 1, none⟩ v1).setCell ⟨b, 2, none⟩ v2).setCell ⟨b, 3, none⟩ v3).heap[b]? = some (.cells #[v0, v1, v2, v3, a4, a5, a6, a7, a8, a9] t (0, 0)) := blk_put h2 3 v3 rfl
  have h4 : (((((W.setCell ⟨b, 0, none⟩ v0).setCell ⟨b, 1, none⟩ v1).setCell ⟨b, 2, none⟩ v2).setCell ⟨b, 3, none⟩ v3).setCell ⟨b, 4, none⟩ v4).heap[b]? = some (.cells #[v0, v1, v2, v3, v4, a5, a6, a7, a8, a9] t (0, 0)) := blk_put h3 4 v4 rfl
  have h5 : ((((((W.setCell ⟨b, 0, none⟩ v0).setCell ⟨b, 1, none⟩ v1).setCell ⟨b, 2, none⟩ v2).setCell ⟨b, 3, none⟩ v3).setCell ⟨b, 4, none⟩ v4).setCell ⟨b, 5, none⟩ v5).heap[b]? = some (.cells #[v0, v1, v2, v3, v4, v5, a6, a7, a8, a9] t (0, 0)) := blk_put h4 5 v5 rfl
  have h6 : (((((((W.setCell ⟨b, 0, none⟩ v0).setCell ⟨b, 1, none⟩ v1).setCell ⟨b, 2, none⟩ v2).setCell ⟨b, 3, none⟩ v3).setCell ⟨b, 4, none⟩ v4).setCell ⟨b, 5, none⟩ v5).setCell ⟨b, 6, none⟩ v6).heap[b]? = some (.cells #[v0, v1, v2, v3, v4, v5, v6, a7, a8, a9] t (0, 0)) := blk_put h5 6 v6 rfl
  have h7 : ((((((((W.setCell ⟨b, 0, none⟩ v0).setCell ⟨b, 1, none⟩ v1).setCell ⟨b, 2, none⟩ v2).setCell ⟨b, 3, none⟩ v3).setCell ⟨b, 4, none⟩ v4).setCell ⟨b, 5, none⟩ v5).setCell ⟨b, 6, none⟩ v6).setCell ⟨b, 7, none⟩ v7).heap[b]? = some (.cells #[v0, v1, v2, v3, v4, v5, v6, v7, a8, a9] t (0, 0)) := blk_put h6 7 v7 rfl
  have h8 : (((((((((W.setCell ⟨b, 0, none⟩ v0).setCell ⟨b, 1, none⟩ v1).setCell ⟨b, 2, none⟩ v2).setCell ⟨b, 3, none⟩ v3).setCell ⟨b, 4, none⟩ v4).setCell ⟨b, 5, none⟩ v5).setCell ⟨b, 6, none⟩ v6).setCell ⟨b, 7, none⟩ v7).setCell ⟨b, 8, none⟩ v8).heap[b]? = some (.cells #[v0, v1, v2, v3, v4, v5, v6, v7, v8, a9] t (0, 0)) := blk_put h7 8 v8 rfl
  have h9 : ((((((((((W.setCell ⟨b, 0, none⟩ v0).setCell ⟨b, 1, none⟩ v1).setCell ⟨b, 2, none⟩ v2).setCell ⟨b, 3, none⟩ v3).setCell ⟨b, 4, none⟩ v4).setCell ⟨b, 5, none⟩ v5).setCell ⟨b, 6, none⟩ v6).setCell ⟨b, 7, none⟩ v7).setCell ⟨b, 8, none⟩ v8).setCell ⟨b, 9, none⟩ v9).heap[b]? = some (.cells #[v0, v1, v2, v3, v4, v5, v6, v7, v8, v9] t (0, 0)) := blk_put h8 9 v9 rfl
  exact h9
/-- The document's end that has ticked. -/
abbrev rfTicked (r : Rf) (now : Int) : Rf := { r with out := r.said.length, last := now, went := true, owes := false }
set_option maxRecDepth 100000 in
set_option maxHeartbeats 4000000 in
theorem rtick_ok (r : Rf) (As At : Option Addr) (cs ct : Nat) (Ps : Nat → Prop) (now : Int) (w : World) (hs : Kd.F kM w Ps As r.said.length r.said) (hcs : r.said.length ≤ cs) (h0 : 0 ≤ r.heard) (h1 : r.heard ≤ r.said.length) (hn : 0 ≤ now ∧ now < 2199023255552) (hl : 0 ≤ r.last ∧ r.last < 2199023255552) (hls : r.said.length < 1000000) (d : Bool) (hd : rfDue r now = d) :
    Calls Try.prog 29 #[.agg (rfC r (.slice As r.said.length cs) (.slice At r.took.length ct)), .int .i64 now] w fun e w' => Below w.heap.size w w' ∧
      ((d = false ∧ e = .returned (.tuple #[.agg (rfC r (.slice As r.said.length cs) (.slice At r.took.length ct)), .agg #[.int .i64 0, .slice none 0 0, .int .i64 0], .bool false])) ∨
       (d = true ∧ ∃ A c, e = .returned (.tuple #[.agg (rfC (rfTicked r now) (.slice As r.said.length cs) (.slice At r.took.length ct)), .agg #[.int .i64 r.heard, .slice A (r.said.drop r.heard.toNat).length c, .int .i64 r.took.length], .bool true]) ∧ Kd.V kM 34 w' 0 (fun k => Ps k ∨ w.heap.size ≤ k) (.slice A (r.said.drop r.heard.toNat).length c) (r.said.drop r.heard.toNat))) := by
  obtain ⟨most, again, said, heard, out, took, gave, last, went, owes⟩ := r
  simp only [rfDue] at hs hcs h0 h1 hl hd hls
  have HD := Aside0.mk hd
  have HN := Aside0.mk hn
  have HL := Aside0.mk hl
  have HS := Aside0.mk hs
  have HCS := Aside0.mk hcs
  have HLS0 := Aside0.mk hls
  clear hcs hls
  have HH := Aside0.mk (show 0 ≤ heard ∧ heard ≤ said.length from ⟨h0, h1⟩)
  clear hd hn hl hs h0 h1
  go_enter Try.func29, Try.ntmps29
  go_upto_region 2 with fail
  generalize hz : ((w.alloc _).alloc _).alloc _ = w1
  have hb1 : Below w.heap.size w w1 := hz ▸ below_alloc (below_alloc (below_alloc (Below.refl _ _) _) _) _
  have hx2 : w1.heap[w.heap.size]? = some (.cells (rfC ⟨most, again, said, heard, out, took, gave, last, went, owes⟩ (.slice As said.length cs) (.slice At took.length ct)) 27 (0, 0)) := hz ▸ blk_alloc (blk_alloc (blk_new w _) _) _
  have hx4 : w1.heap[w.heap.size + 1]? = some (.cells #[.int .i64 0, .int .i64 0, .slice none 0 0, .int .i64 0, .int .i64 0, .slice none 0 0, .int .i64 0, .int .i64 0, .bool false, .bool false] 27 (0, 0)) := by
    rw [← hz]
    refine blk_alloc ?_ _
    have := blk_new (w.alloc (Obj.cells (rfC ⟨most, again, said, heard, out, took, gave, last, went, owes⟩ (.slice As said.length cs) (.slice At took.length ct)) 27)) (Obj.cells #[.int .i64 0, .int .i64 0, .slice none 0 0, .int .i64 0, .int .i64 0, .slice none 0 0, .int .i64 0, .int .i64 0, .bool false, .bool false] 27)
    simpa using this
  have hx5 : w1.heap[w.heap.size + 1 + 1]? = some (.cells #[.int .i64 0, .slice none 0 0, .int .i64 0] 68 (0, 0)) := by
    rw [← hz]
    have := blk_new ((w.alloc (Obj.cells (rfC ⟨most, again, said, heard, out, took, gave, last, went, owes⟩ (.slice As said.length cs) (.slice At took.length ct)) 27)).alloc (Obj.cells #[.int .i64 0, .int .i64 0, .slice none 0 0, .int .i64 0, .int .i64 0, .slice none 0 0, .int .i64 0, .int .i64 0, .bool false, .bool false] 27)) (Obj.cells #[.int .i64 0, .slice none 0 0, .int .i64 0] 68)
    simpa using this
  clear hz
  obtain ⟨b2, hb2⟩ : ∃ b2, b2 = w.heap.size := ⟨_, rfl⟩
  rw [← hb2] at hx2 hx4 hx5 ⊢
  have HX2 := Aside0.mk hx2
  have HX4 := Aside0.mk hx4
  have HX5 := Aside0.mk hx5
  have HB1 := Aside0.mk hb1
  have HB2 := Aside0.mk hb2
  clear hx2 hx4 hx5 hb1 hb2
  generalize hqh : decide (heard < (said.length : Int)) = qh
  have HQH := Aside0.mk hqh
  clear hqh
  go_cut [41] (fun v41 wc => v41 = .bool (!d) ∧ w1 = wc)
  case first =>
    generalize hqo : decide (out < (said.length : Int)) = qo at HD
    generalize hqa : decide (again ≤ now - last) = qa at HD
    rw [HQH.out] at HD
    have x1 : w1.cell? ⟨b2, 1, none⟩ = some (.int .i64 again) := blk_cell HX2.out 1
    have x2 : w1.cell? ⟨b2, 2, none⟩ = some (.slice As said.length cs) := blk_cell HX2.out 2
    have x3 : w1.cell? ⟨b2, 3, none⟩ = some (.int .i64 heard) := blk_cell HX2.out 3
    have x4 : w1.cell? ⟨b2, 4, none⟩ = some (.int .i64 out) := blk_cell HX2.out 4
    have x7 : w1.cell? ⟨b2, 7, none⟩ = some (.int .i64 last) := blk_cell HX2.out 7
    have x8 : w1.cell? ⟨b2, 8, none⟩ = some (.bool went) := blk_cell HX2.out 8
    have x9 : w1.cell? ⟨b2, 9, none⟩ = some (.bool owes) := blk_cell HX2.out 9
    have hsub : wrap64 (now - last) = now - last := by have := HN.out; have := HL.out; unfold wrap64; omega
    have hsub2 : IntKind.i64.wrap (now - last) = now - last := IntWalk.i64_in _ (by have := HN.out; have := HL.out; omega)
    cases qo <;> cases qh <;> cases went <;> cases qa <;> cases owes
    all_goals
      go_wp2
      go_meet
      exact ⟨by rw [← HD.out]; rfl, rfl⟩
  case rest =>
    obtain ⟨rfl, rfl⟩ := hcut
    cases d
    · skip
      have x0 : w1.cell? ⟨b2, 0, none⟩ = some (.int .i64 most) := blk_cell HX2.out 0
      have x1 : w1.cell? ⟨b2, 1, none⟩ = some (.int .i64 again) := blk_cell HX2.out 1
      have x2 : w1.cell? ⟨b2, 2, none⟩ = some (.slice As said.length cs) := blk_cell HX2.out 2
      have x3 : w1.cell? ⟨b2, 3, none⟩ = some (.int .i64 heard) := blk_cell HX2.out 3
      have x4 : w1.cell? ⟨b2, 4, none⟩ = some (.int .i64 out) := blk_cell HX2.out 4
      have x5 : w1.cell? ⟨b2, 5, none⟩ = some (.slice At took.length ct) := blk_cell HX2.out 5
      have x6 : w1.cell? ⟨b2, 6, none⟩ = some (.int .i64 gave) := blk_cell HX2.out 6
      have x7 : w1.cell? ⟨b2, 7, none⟩ = some (.int .i64 last) := blk_cell HX2.out 7
      have x8 : w1.cell? ⟨b2, 8, none⟩ = some (.bool went) := blk_cell HX2.out 8
      have x9 : w1.cell? ⟨b2, 9, none⟩ = some (.bool owes) := blk_cell HX2.out 9
      have f0 : w1.frozen? ⟨b2 + 1, 0, none⟩ = false := blk_frozen HX4.out 0
      have f1 : w1.frozen? ⟨b2 + 1, 1, none⟩ = false := blk_frozen HX4.out 1
      have f2 : w1.frozen? ⟨b2 + 1, 2, none⟩ = false := blk_frozen HX4.out 2
      have f3 : w1.frozen? ⟨b2 + 1, 3, none⟩ = false := blk_frozen HX4.out 3
      have f4 : w1.frozen? ⟨b2 + 1, 4, none⟩ = false := blk_frozen HX4.out 4
      have f5 : w1.frozen? ⟨b2 + 1, 5, none⟩ = false := blk_frozen HX4.out 5
      have f6 : w1.frozen? ⟨b2 + 1, 6, none⟩ = false := blk_frozen HX4.out 6
      have f7 : w1.frozen? ⟨b2 + 1, 7, none⟩ = false := blk_frozen HX4.out 7
      have f8 : w1.frozen? ⟨b2 + 1, 8, none⟩ = false := blk_frozen HX4.out 8
      have f9 : w1.frozen? ⟨b2 + 1, 9, none⟩ = false := blk_frozen HX4.out 9
      have c0 := blk_cell HX4.out 0
      have c1 := blk_cell HX4.out 1
      have c2 := blk_cell HX4.out 2
      have c3 := blk_cell HX4.out 3
      have c4 := blk_cell HX4.out 4
      have c5 := blk_cell HX4.out 5
      have c6 := blk_cell HX4.out 6
      have c7 := blk_cell HX4.out 7
      have c8 := blk_cell HX4.out 8
      have c9 := blk_cell HX4.out 9
      have g0 : w1.frozen? ⟨b2 + 1 + 1, 0, none⟩ = false := blk_frozen HX5.out 0
      have e0 := blk_cell HX5.out 0
      have g1 : w1.frozen? ⟨b2 + 1 + 1, 1, none⟩ = false := blk_frozen HX5.out 1
      have e1 := blk_cell HX5.out 1
      have g2 : w1.frozen? ⟨b2 + 1 + 1, 2, none⟩ = false := blk_frozen HX5.out 2
      have e2 := blk_cell HX5.out 2
      have hne : b2 + 1 ≠ b2 + 1 + 1 := by omega
      go_wp2
      clear x0 x1 x2 x3 x4 x5 x6 x7 x8 x9
      refine bodyPost_ret (v := .tuple #[.agg (rfC ⟨most, again, said, heard, out, took, gave, last, went, owes⟩ (.slice As said.length cs) (.slice At took.length ct)), .agg #[.int .i64 0, .slice none 0 0, .int .i64 0], .bool false]) (by simp [results, Try.results29, go_sem, *]) rfl ?_
      have hfin : ∀ {W : World}, Fr (fun k => b2 ≤ k) w1 W → Below w.heap.size w W := fun hF => Fr.below HB1.out HB1.out.size hF (fun k h => HB2.out ▸ h)
      have hb4 : b2 ≤ b2 + 1 := Nat.le_succ _
      have hb5 : b2 ≤ b2 + 1 + 1 := Nat.le_trans hb4 (Nat.le_succ _)
      refine ⟨hfin ?_, by simp⟩
      repeat (with_reducible first | refine fr_ge ?_ _ _ _ hb5 | refine fr_ge ?_ _ _ _ hb4)
      exact Fr.refl _ _
    · obtain ⟨hn, rfl⟩ := Int.eq_ofNat_of_zero_le HH.out.1
      have hhn : hn ≤ said.length := by have := HH.out.2; omega
      have hcs := HCS.out
      have hrun := fun W => run_drop25 As cs said.length hn hhn hcs W
      have HDr := Aside0.mk (Kd.F_bound (Kd.F_cut HS.out hhn hcs))
      obtain ⟨A', hA'⟩ : ∃ A', A' = (if cs = hn then As else As.map (·.add (hn * 1))) := ⟨_, rfl⟩
      rw [← hA'] at hrun
      have HDr : Aside0 (Kd.F kM w (fun k => Ps k ∧ k < w.heap.size) A' (said.length - hn) (said.drop hn)) := ⟨by rw [hA']; have h3 := HDr.out; rw [List.length_drop] at h3; exact h3⟩
      clear hcs hA'
      go_upto_region 4 with fail
      have HLS := Aside0.mk (show (0 + (said.length - hn)) * 24 ≤ 140737488355328 by have := HLS0.out; omega)
      refine start_ (n := 15) (S := fun w' => w'.cell? ⟨b2, 2, none⟩ = some (.slice As said.length cs) ∧ w'.cell? ⟨b2, 3, none⟩ = some (.int .i64 (hn : Int)) ∧ w'.cell? ⟨b2, 5, none⟩ = some (.slice At took.length ct)) (ds := [14]) #[false, false, false, false, false, false, false, false, false, false, false, false, false, false, false] (by kernel_rfl) rfl rfl ⟨blk_cell (blk_below HX2.out (below_drew (Below.refl _ _))) 2, blk_cell (blk_below HX2.out (below_drew (Below.refl _ _))) 3, blk_cell (blk_below HX2.out (below_drew (Below.refl _ _))) 5⟩ (fun hHeld => ?_)
      refine pure_ (i := 0) (N := some 44) (v := ?_) (a' := ?_) #[true, false, false, false, false, false, false, false, false, false, false, false, false, false, false] rfl rfl (by kernel_rfl) (fun _ _ _ h => h) (Or.inl ⟨by rfl, ?_⟩) ?_ ?_
      rotate_left
      · intro w'
        go_simp
        with_reducible rfl
      rotate_left
      · simp only [Act.put, List.setIfInBounds_toArray, List.set_cons_zero, List.set_cons_succ, i64_w, i32_w]
        rfl
      refine pure_ (i := 3) (N := some 47) (v := ?_) (a' := ?_) #[true, false, false, true, false, false, false, false, false, false, false, false, false, false, false] rfl rfl (by kernel_rfl) (fun _ _ _ h => h) (Or.inl ⟨by rfl, ?_⟩) ?_ ?_
      rotate_left
      · intro w'
        go_simp
        with_reducible rfl
      rotate_left
      · simp only [Act.put, List.setIfInBounds_toArray, List.set_cons_zero, List.set_cons_succ, i64_w, i32_w]
        rfl
      refine pure_ (i := 5) (N := some 49) (v := ?_) (a' := ?_) #[true, false, false, true, false, true, false, false, false, false, false, false, false, false, false] rfl rfl (by kernel_rfl) (fun _ _ _ h => h) (Or.inl ⟨by rfl, ?_⟩) ?_ ?_
      rotate_left
      · intro w'
        go_simp
        with_reducible rfl
      rotate_left
      · simp only [Act.put, List.setIfInBounds_toArray, List.set_cons_zero, List.set_cons_succ, i64_w, i32_w]
        rfl
      refine pure_ (i := 9) (N := some 53) (v := ?_) (a' := ?_) #[true, false, false, true, false, true, false, false, false, true, false, false, false, false, false] rfl rfl (by kernel_rfl) (fun _ _ _ h => h) (Or.inl ⟨by rfl, ?_⟩) ?_ ?_
      rotate_left
      · intro w'
        go_simp
        with_reducible rfl
      rotate_left
      · simp only [Act.put, List.setIfInBounds_toArray, List.set_cons_zero, List.set_cons_succ, i64_w, i32_w]
        rfl
      refine take_ (i := 1) (N := some 45) (v := ?_) (a' := ?_) #[true, true, false, true, false, true, false, false, false, true, false, false, false, false, false] rfl rfl (by kernel_rfl) (fun _ _ _ h => h) (Or.inl ⟨by rfl, ?_⟩) hHeld ?_ ?_
      rotate_left
      · rintro w' ⟨s0, s1, s2⟩
        go_simp
        with_reducible rfl
      rotate_left
      · simp only [Act.put, List.setIfInBounds_toArray, List.set_cons_zero, List.set_cons_succ, i64_w, i32_w]
        rfl
      refine take_ (i := 4) (N := some 48) (v := ?_) (a' := ?_) #[true, true, false, true, true, true, false, false, false, true, false, false, false, false, false] rfl rfl (by kernel_rfl) (fun _ _ _ h => h) (Or.inl ⟨by rfl, ?_⟩) hHeld ?_ ?_
      rotate_left
      · rintro w' ⟨s0, s1, s2⟩
        go_simp
        with_reducible rfl
      rotate_left
      · simp only [Act.put, List.setIfInBounds_toArray, List.set_cons_zero, List.set_cons_succ, i64_w, i32_w]
        rfl
      refine take_ (i := 6) (N := some 50) (v := ?_) (a' := ?_) #[true, true, false, true, true, true, true, false, false, true, false, false, false, false, false] rfl rfl (by kernel_rfl) (fun _ _ _ h => h) (Or.inl ⟨by rfl, ?_⟩) hHeld ?_ ?_
      rotate_left
      · rintro w' ⟨s0, s1, s2⟩
        go_simp
        with_reducible rfl
      rotate_left
      · simp only [Act.put, List.setIfInBounds_toArray, List.set_cons_zero, List.set_cons_succ, i64_w, i32_w]
        rfl
      refine pure_ (i := 7) (N := some 51) (v := ?_) (a' := ?_) #[true, true, false, true, true, true, true, true, false, true, false, false, false, false, false] rfl rfl (by kernel_rfl) (fun _ _ _ h => h) (Or.inl ⟨by rfl, ?_⟩) ?_ ?_
      rotate_left
      · intro w'
        go_simp
        with_reducible rfl
      rotate_left
      · simp only [Act.put, List.setIfInBounds_toArray, List.set_cons_zero, List.set_cons_succ, i64_w, i32_w]
        rfl
      refine take_ (i := 10) (N := some 54) (v := ?_) (a' := ?_) #[true, true, false, true, true, true, true, true, false, true, true, false, false, false, false] rfl rfl (by kernel_rfl) (fun _ _ _ h => h) (Or.inl ⟨by rfl, ?_⟩) hHeld ?_ ?_
      rotate_left
      · rintro w' ⟨s0, s1, s2⟩
        go_simp
        with_reducible rfl
      rotate_left
      · simp only [Act.put, List.setIfInBounds_toArray, List.set_cons_zero, List.set_cons_succ, i64_w, i32_w]
        rfl
      refine pure_ (i := 11) (N := some 55) (v := ?_) (a' := ?_) #[true, true, false, true, true, true, true, true, false, true, true, true, false, false, false] rfl rfl (by kernel_rfl) (fun _ _ _ h => h) (Or.inl ⟨by rfl, ?_⟩) ?_ ?_
      rotate_left
      · intro w'
        go_simp
        with_reducible rfl
      rotate_left
      · simp only [Act.put, List.setIfInBounds_toArray, List.set_cons_zero, List.set_cons_succ, i64_w, i32_w]
        rfl
      refine join_ (σ := Nat × (Option Addr × Nat) × Nat) 1 #[true, true, true, true, true, true, true, true, true, true, true, true, true, true, false] (fun s => [(46, Value.slice (some ⟨s.1, 0, none⟩) 0 0), (52, Value.slice s.2.1.1 (said.drop hn).length s.2.1.2), (56, Value.agg #[.int .i64 (hn : Int), .slice s.2.1.1 (said.length - hn) s.2.1.2, .int .i64 (took.length : Int)]), (8, Value.pointer (some ⟨s.2.2, 0, none⟩))]) (fun s w' => Below w1.heap.size w1 w' ∧ w1.heap.size ≤ s.2.2 ∧ w'.heap[s.2.2]? = some (.cells #[.int .i64 0, .slice none 0 0, .int .i64 0] 68 (0, 0)) ∧ Kd.V kM 34 w' 0 (fun k => (Ps k ∧ k < w.heap.size) ∨ (w1.heap.size ≤ k ∧ k ≠ s.2.2)) (.slice s.2.1.1 (said.drop hn).length s.2.1.2) (said.drop hn)) ?_ ?_
      rotate_left
      · intro hCont
        refine two_ (i := 2) (j := 13) (Ni := some 46) (Nj := some 8) #[true, true, true, true, true, true, true, true, false, true, true, true, false, false, false] #[true, true, false, true, true, true, true, true, false, true, true, true, false, true, false] rfl rfl rfl rfl (by kernel_rfl) (by decide) (by decide) (fun K hK => ?_) (fun K hK => ?_)
        · skip
          refine value_ (w1 := ?_) (v := ?_) (by rfl) rfl ?_ ?_
          rotate_left 2
          · go_simp
            constructor
            · rfl
            · rfl
          refine hK.out _ _ ⟨blk_cell (blk_below HX2.out (below_alloc (below_drew (Below.refl w1.heap.size w1)) _)) 2, blk_cell (blk_below HX2.out (below_alloc (below_drew (Below.refl w1.heap.size w1)) _)) 3, blk_cell (blk_below HX2.out (below_alloc (below_drew (Below.refl w1.heap.size w1)) _)) 5⟩ (fun hHeld => ?_)
          clear hK K
          refine norm_ (a' := ?_) ?_ ?_
          rotate_left
          · show Act.put _ (some 46) _ = _
            simp only [Act.put, List.setIfInBounds_toArray, List.set_cons_zero, List.set_cons_succ, i64_w, i32_w]
            rfl
          refine two_ (i := 8) (j := 13) (Ni := some 52) (Nj := some 8) #[true, true, true, true, true, true, true, true, true, true, true, true, false, false, false] #[true, true, true, true, true, true, true, true, false, true, true, true, false, true, false] rfl rfl rfl rfl (by kernel_rfl) (by decide) (by decide) (fun K hK => ?_) (fun K hK => ?_)
          · skip
            have HBw : Aside0 (Below w1.heap.size w1 (w1.drew.alloc (.cells #[] 34))) := Aside0.mk (below_alloc (below_drew (Below.refl w1.heap.size w1)) _)
            have HBW := Aside0.mk (below_then HB1.out HB1.out.size HBw.out)
            have HO8 : Aside0 (Kd.N kM 34 (w1.drew.alloc (.cells #[] 34)) 0 (fun k => (Ps k ∧ k < w.heap.size) ∨ w1.heap.size ≤ k) (.slice (some ⟨w1.drew.heap.size, 0, none⟩) 0 0) []) := Aside0.mk (lit0 w1.drew _ (.inr (Nat.le_refl _)))
            have HR8 := Aside0.mk (Kd.F_below HDr.out HBW.out)
            refine Kd.N_append_rows_step kM (w0 := w) 0 (by rfl) (.tmp 46) (.tmp 51) 25 34 (.slice none 0 0) 24 (by rfl) Try.underlying25 info34' rfl (by decide) (by omega) (.slice (some ⟨w1.drew.heap.size, 0, none⟩) 0 0) [] (said.drop hn) A' (said.length - hn) (cs - hn) (fun k => (Ps k ∧ k < w.heap.size) ∨ w1.heap.size ≤ k) (fun k => Ps k ∧ k < w.heap.size) (by rfl) (by rfl) HO8.out HR8.out (fun k hk => ⟨.inl hk, fun e => by have := hk.2; have e2 := own0 e.symm; have := HB1.out.size; subst e2; simp at *; omega⟩) (fun k hk => .inr (Nat.le_trans HBw.out.size hk)) ⟨HBW.out.os, HBW.out.tape, HBW.out.output, HBW.out.size, fun k hk => by omega⟩ (Nat.zero_le _) HLS.out ?_
            intro v3 w3 ho3 hb3 hg3 hat3
            rw [List.nil_append] at ho3
            obtain ⟨A3, c3, rfl⟩ := Kd.N_slice ho3
            have HO3 : Aside0 (Kd.V kM 34 w3 0 (fun k => (Ps k ∧ k < w.heap.size) ∨ w1.heap.size ≤ k) _ (said.drop hn)) := Aside0.mk (Kd.N_V ho3)
            have HG3 := Aside0.mk hg3
            have HB8 := Aside0.mk (below_row HBw.out hg3 (fun k hk => by have := own0 hk; subst this; simp))
            clear ho3 hb3 hg3 hat3
            refine hK.out _ _ ⟨blk_cell (blk_below HX2.out (HB8.out)) 2, blk_cell (blk_below HX2.out (HB8.out)) 3, blk_cell (blk_below HX2.out (HB8.out)) 5⟩ (fun hHeld => ?_)
            clear hK K
            refine norm_ (a' := ?_) ?_ ?_
            rotate_left
            · show Act.put _ (some 52) _ = _
              simp only [Act.put, List.setIfInBounds_toArray, List.set_cons_zero, List.set_cons_succ, i64_w, i32_w]
              rfl
            refine pure_ (i := 12) (N := some 56) (v := ?_) (a' := ?_) #[true, true, true, true, true, true, true, true, true, true, true, true, true, false, false] rfl rfl (by kernel_rfl) (fun _ _ _ h => h) (Or.inl ⟨by rfl, ?_⟩) ?_ ?_
            rotate_left
            · intro w'
              go_simp
              with_reducible rfl
            rotate_left
            · simp only [Act.put, List.setIfInBounds_toArray, List.set_cons_zero, List.set_cons_succ, i64_w, i32_w]
              rfl
            refine one_ (i := 13) (N := some 8) #[true, true, true, true, true, true, true, true, true, true, true, true, true, true, false] rfl rfl (by kernel_rfl) (by decide) (fun K hK => ?_)
            refine value_ (w1 := ?_) (v := ?_) (by rfl) rfl ?_ ?_
            rotate_left 2
            · go_simp
              constructor
              · rfl
              · rfl
            refine hK.out _ _ ⟨blk_cell (blk_below HX2.out (below_alloc HB8.out _)) 2, blk_cell (blk_below HX2.out (below_alloc HB8.out _)) 3, blk_cell (blk_below HX2.out (below_alloc HB8.out _)) 5⟩ (fun hHeld => ?_)
            clear hK K
            refine norm_ (a' := ?_) ?_ ?_
            rotate_left
            · show Act.put _ (some 8) _ = _
              simp only [Act.put, List.setIfInBounds_toArray, List.set_cons_zero, List.set_cons_succ, i64_w, i32_w]
              rfl
            exact norm_ (by simp only [putAll, Act.put, List.setIfInBounds_toArray, List.set_cons_zero, List.set_cons_succ]) (hCont (w1.heap.size, (A3, c3), w3.heap.size) _ ⟨below_then HB8.out HB8.out.size (below_alloc (Below.refl _ _) _), HB8.out.size, blk_new w3 _, Kd.V_below (Kd.V_mono (Kd.V_bound HO3.out) (fun k hk => hk.1.imp id (fun h => ⟨h, Nat.ne_of_lt hk.2⟩))) (below_alloc (Below.refl _ _) _)⟩)
          · skip
            refine value_ (w1 := ?_) (v := ?_) (by rfl) rfl ?_ ?_
            rotate_left 2
            · go_simp
              constructor
              · rfl
              · rfl
            refine hK.out _ _ ⟨blk_cell (blk_below HX2.out (below_alloc (below_alloc (below_drew (Below.refl w1.heap.size w1)) _) _)) 2, blk_cell (blk_below HX2.out (below_alloc (below_alloc (below_drew (Below.refl w1.heap.size w1)) _) _)) 3, blk_cell (blk_below HX2.out (below_alloc (below_alloc (below_drew (Below.refl w1.heap.size w1)) _) _)) 5⟩ (fun hHeld => ?_)
            clear hK K
            refine norm_ (a' := ?_) ?_ ?_
            rotate_left
            · show Act.put _ (some 8) _ = _
              simp only [Act.put, List.setIfInBounds_toArray, List.set_cons_zero, List.set_cons_succ, i64_w, i32_w]
              rfl
            refine one_ (i := 8) (N := some 52) #[true, true, true, true, true, true, true, true, true, true, true, true, false, true, false] rfl rfl (by kernel_rfl) (by decide) (fun K hK => ?_)
            have HBw : Aside0 (Below w1.heap.size w1 ((w1.drew.alloc (.cells #[] 34)).alloc (.cells #[.int .i64 0, .slice none 0 0, .int .i64 0] 68))) := Aside0.mk (below_alloc (below_alloc (below_drew (Below.refl w1.heap.size w1)) _) _)
            have HBW := Aside0.mk (below_then HB1.out HB1.out.size HBw.out)
            have HO8 : Aside0 (Kd.N kM 34 ((w1.drew.alloc (.cells #[] 34)).alloc (.cells #[.int .i64 0, .slice none 0 0, .int .i64 0] 68)) 0 (fun k => (Ps k ∧ k < w.heap.size) ∨ (w1.heap.size ≤ k ∧ k ≠ w1.heap.size + 1)) (.slice (some ⟨w1.drew.heap.size, 0, none⟩) 0 0) []) := Aside0.mk (Kd.N_below (lit0 w1.drew _ (.inr ⟨Nat.le_refl _, by show w1.heap.size ≠ _; omega⟩)) (below_alloc (Below.refl _ _) _))
            have HR8 := Aside0.mk (Kd.F_below HDr.out HBW.out)
            refine Kd.N_append_rows_step kM (w0 := w) 0 (by rfl) (.tmp 46) (.tmp 51) 25 34 (.slice none 0 0) 24 (by rfl) Try.underlying25 info34' rfl (by decide) (by omega) (.slice (some ⟨w1.drew.heap.size, 0, none⟩) 0 0) [] (said.drop hn) A' (said.length - hn) (cs - hn) (fun k => (Ps k ∧ k < w.heap.size) ∨ (w1.heap.size ≤ k ∧ k ≠ w1.heap.size + 1)) (fun k => Ps k ∧ k < w.heap.size) (by rfl) (by rfl) HO8.out HR8.out (fun k hk => ⟨.inl hk, fun e => by have := hk.2; have e2 := own0 e.symm; have := HB1.out.size; subst e2; simp at *; omega⟩) (fun k hk => .inr ⟨Nat.le_trans HBw.out.size hk, by have h9 := hk; simp at h9; omega⟩) ⟨HBW.out.os, HBW.out.tape, HBW.out.output, HBW.out.size, fun k hk => by omega⟩ (Nat.zero_le _) HLS.out ?_
            intro v3 w3 ho3 hb3 hg3 hat3
            rw [List.nil_append] at ho3
            obtain ⟨A3, c3, rfl⟩ := Kd.N_slice ho3
            have HO3 : Aside0 (Kd.V kM 34 w3 0 (fun k => (Ps k ∧ k < w.heap.size) ∨ (w1.heap.size ≤ k ∧ k ≠ w1.heap.size + 1)) _ (said.drop hn)) := Aside0.mk (Kd.N_V ho3)
            have HG3 := Aside0.mk hg3
            have HB8 := Aside0.mk (below_row HBw.out hg3 (fun k hk => by have := own0 hk; subst this; simp))
            clear ho3 hb3 hg3 hat3
            refine hK.out _ _ ⟨blk_cell (blk_below HX2.out (HB8.out)) 2, blk_cell (blk_below HX2.out (HB8.out)) 3, blk_cell (blk_below HX2.out (HB8.out)) 5⟩ (fun hHeld => ?_)
            clear hK K
            refine norm_ (a' := ?_) ?_ ?_
            rotate_left
            · show Act.put _ (some 52) _ = _
              simp only [Act.put, List.setIfInBounds_toArray, List.set_cons_zero, List.set_cons_succ, i64_w, i32_w]
              rfl
            refine pure_ (i := 12) (N := some 56) (v := ?_) (a' := ?_) #[true, true, true, true, true, true, true, true, true, true, true, true, true, true, false] rfl rfl (by kernel_rfl) (fun _ _ _ h => h) (Or.inl ⟨by rfl, ?_⟩) ?_ ?_
            rotate_left
            · intro w'
              go_simp
              with_reducible rfl
            rotate_left
            · simp only [Act.put, List.setIfInBounds_toArray, List.set_cons_zero, List.set_cons_succ, i64_w, i32_w]
              rfl
            exact norm_ (by simp only [putAll, Act.put, List.setIfInBounds_toArray, List.set_cons_zero, List.set_cons_succ]) (hCont (w1.heap.size, (A3, c3), w1.heap.size + 1) _ ⟨HB8.out, Nat.le_succ _, box213 HG3.out, HO3.out⟩)
        · skip
          refine value_ (w1 := ?_) (v := ?_) (by rfl) rfl ?_ ?_
          rotate_left 2
          · go_simp
            constructor
            · rfl
            · rfl
          refine hK.out _ _ ⟨blk_cell (blk_below HX2.out (below_alloc (below_drew (Below.refl w1.heap.size w1)) _)) 2, blk_cell (blk_below HX2.out (below_alloc (below_drew (Below.refl w1.heap.size w1)) _)) 3, blk_cell (blk_below HX2.out (below_alloc (below_drew (Below.refl w1.heap.size w1)) _)) 5⟩ (fun hHeld => ?_)
          clear hK K
          refine norm_ (a' := ?_) ?_ ?_
          rotate_left
          · show Act.put _ (some 8) _ = _
            simp only [Act.put, List.setIfInBounds_toArray, List.set_cons_zero, List.set_cons_succ, i64_w, i32_w]
            rfl
          refine one_ (i := 2) (N := some 46) #[true, true, true, true, true, true, true, true, false, true, true, true, false, true, false] rfl rfl (by kernel_rfl) (by decide) (fun K hK => ?_)
          refine value_ (w1 := ?_) (v := ?_) (by rfl) rfl ?_ ?_
          rotate_left 2
          · go_simp
            constructor
            · rfl
            · rfl
          refine hK.out _ _ ⟨blk_cell (blk_below HX2.out (below_alloc (below_alloc (below_drew (Below.refl w1.heap.size w1)) _) _)) 2, blk_cell (blk_below HX2.out (below_alloc (below_alloc (below_drew (Below.refl w1.heap.size w1)) _) _)) 3, blk_cell (blk_below HX2.out (below_alloc (below_alloc (below_drew (Below.refl w1.heap.size w1)) _) _)) 5⟩ (fun hHeld => ?_)
          clear hK K
          refine norm_ (a' := ?_) ?_ ?_
          rotate_left
          · show Act.put _ (some 46) _ = _
            simp only [Act.put, List.setIfInBounds_toArray, List.set_cons_zero, List.set_cons_succ, i64_w, i32_w]
            rfl
          refine one_ (i := 8) (N := some 52) #[true, true, true, true, true, true, true, true, true, true, true, true, false, true, false] rfl rfl (by kernel_rfl) (by decide) (fun K hK => ?_)
          have HBw : Aside0 (Below w1.heap.size w1 ((w1.drew.alloc (.cells #[.int .i64 0, .slice none 0 0, .int .i64 0] 68)).alloc (.cells #[] 34))) := Aside0.mk (below_alloc (below_alloc (below_drew (Below.refl w1.heap.size w1)) _) _)
          have HBW := Aside0.mk (below_then HB1.out HB1.out.size HBw.out)
          have HO8 : Aside0 (Kd.N kM 34 ((w1.drew.alloc (.cells #[.int .i64 0, .slice none 0 0, .int .i64 0] 68)).alloc (.cells #[] 34)) 0 (fun k => (Ps k ∧ k < w.heap.size) ∨ (w1.heap.size ≤ k ∧ k ≠ w1.heap.size)) (.slice (some ⟨w1.heap.size + 1, 0, none⟩) 0 0) []) := Aside0.mk (by have := lit0 (w1.drew.alloc (.cells #[.int .i64 0, .slice none 0 0, .int .i64 0] 68)) (fun k => (Ps k ∧ k < w.heap.size) ∨ (w1.heap.size ≤ k ∧ k ≠ w1.heap.size)) (.inr ⟨(below_alloc (below_drew (Below.refl w1.heap.size w1)) _).size, by simp⟩); simpa using this)
          have HR8 := Aside0.mk (Kd.F_below HDr.out HBW.out)
          refine Kd.N_append_rows_step kM (w0 := w) 0 (by rfl) (.tmp 46) (.tmp 51) 25 34 (.slice none 0 0) 24 (by rfl) Try.underlying25 info34' rfl (by decide) (by omega) (.slice (some ⟨w1.heap.size + 1, 0, none⟩) 0 0) [] (said.drop hn) A' (said.length - hn) (cs - hn) (fun k => (Ps k ∧ k < w.heap.size) ∨ (w1.heap.size ≤ k ∧ k ≠ w1.heap.size)) (fun k => Ps k ∧ k < w.heap.size) (by rfl) (by rfl) HO8.out HR8.out (fun k hk => ⟨.inl hk, fun e => by have := hk.2; have e2 := own0 e.symm; have := HB1.out.size; subst e2; simp at *; omega⟩) (fun k hk => .inr ⟨Nat.le_trans HBw.out.size hk, by have h9 := hk; simp at h9; omega⟩) ⟨HBW.out.os, HBW.out.tape, HBW.out.output, HBW.out.size, fun k hk => by omega⟩ (Nat.zero_le _) HLS.out ?_
          intro v3 w3 ho3 hb3 hg3 hat3
          rw [List.nil_append] at ho3
          obtain ⟨A3, c3, rfl⟩ := Kd.N_slice ho3
          have HO3 : Aside0 (Kd.V kM 34 w3 0 (fun k => (Ps k ∧ k < w.heap.size) ∨ (w1.heap.size ≤ k ∧ k ≠ w1.heap.size)) _ (said.drop hn)) := Aside0.mk (Kd.N_V ho3)
          have HG3 := Aside0.mk hg3
          have HB8 := Aside0.mk (below_row HBw.out hg3 (fun k hk => by have := own0 hk; subst this; simp))
          clear ho3 hb3 hg3 hat3
          refine hK.out _ _ ⟨blk_cell (blk_below HX2.out (HB8.out)) 2, blk_cell (blk_below HX2.out (HB8.out)) 3, blk_cell (blk_below HX2.out (HB8.out)) 5⟩ (fun hHeld => ?_)
          clear hK K
          refine norm_ (a' := ?_) ?_ ?_
          rotate_left
          · show Act.put _ (some 52) _ = _
            simp only [Act.put, List.setIfInBounds_toArray, List.set_cons_zero, List.set_cons_succ, i64_w, i32_w]
            rfl
          refine pure_ (i := 12) (N := some 56) (v := ?_) (a' := ?_) #[true, true, true, true, true, true, true, true, true, true, true, true, true, true, false] rfl rfl (by kernel_rfl) (fun _ _ _ h => h) (Or.inl ⟨by rfl, ?_⟩) ?_ ?_
          rotate_left
          · intro w'
            go_simp
            with_reducible rfl
          rotate_left
          · simp only [Act.put, List.setIfInBounds_toArray, List.set_cons_zero, List.set_cons_succ, i64_w, i32_w]
            rfl
          exact norm_ (by simp only [putAll, Act.put, List.setIfInBounds_toArray, List.set_cons_zero, List.set_cons_succ]) (hCont (w1.heap.size + 1, (A3, c3), w1.heap.size) _ ⟨HB8.out, Nat.le_refl _, box132 HG3.out, HO3.out⟩)
      rintro ⟨sB, ⟨A52, c52⟩, bx⟩ w4 ⟨hBF, hge, hbx, hRF⟩
      have hHeld : w4.cell? ⟨b2, 2, none⟩ = some (.slice As said.length cs) ∧ w4.cell? ⟨b2, 3, none⟩ = some (.int .i64 (hn : Int)) ∧ w4.cell? ⟨b2, 5, none⟩ = some (.slice At took.length ct) := ⟨blk_cell (blk_below HX2.out hBF) 2, blk_cell (blk_below HX2.out hBF) 3, blk_cell (blk_below HX2.out hBF) 5⟩
      refine norm_ (a' := ?_) ?_ ?_
      rotate_left
      · simp only [putAll, Act.put, List.setIfInBounds_toArray, List.set_cons_zero, List.set_cons_succ]
        rfl
      refine last_ (i := 14) (N := none) #[true, true, true, true, true, true, true, true, true, true, true, true, true, true, true] rfl rfl (by kernel_rfl) (by decide) (fun K hK => ?_)
      have y0 := blk_cell hbx 0
      have y1 := blk_cell hbx 1
      have y2 := blk_cell hbx 2
      have z0 := blk_frozen hbx 0
      have z1 := blk_frozen hbx 1
      have z2 := blk_frozen hbx 2
      refine skip_ (w1 := ?_) (by rfl) rfl ?_ ?_
      rotate_left
      · go_simp
        rfl
      refine hK.out _ _ ?_
      clear hK K
      refine done_ (by kernel_rfl) ?_
      have HBF := Aside0.mk hBF
      have hlt4 := blk_lt HX4.out
      have hlt5 := blk_lt HX5.out
      have hge : w1.heap.size ≤ bx := hge
      have hb2w : b2 = w.heap.size := HB2.out
      have hne2 : bx ≠ b2 := by omega
      have hne4 : bx ≠ b2 + 1 := by omega
      have hne5 : bx ≠ b2 + 1 + 1 := by omega
      have HBX := Aside0.mk (blk_put (blk_put (blk_put hbx 0 (.int .i64 (hn : Int)) rfl) 1 (.slice A52 (said.length - hn) c52) rfl) 2 (.int .i64 (took.length : Int)) rfl)
      have hx2 := fr3 bx (blk_below HX2.out hBF) (.int .i64 (hn : Int)) (.slice A52 (said.length - hn) c52) (.int .i64 (took.length : Int)) (Ne.symm hne2)
      have hx4 := fr3 bx (blk_below HX4.out hBF) (.int .i64 (hn : Int)) (.slice A52 (said.length - hn) c52) (.int .i64 (took.length : Int)) (Ne.symm hne4)
      have hx5 := fr3 bx (blk_below HX5.out hBF) (.int .i64 (hn : Int)) (.slice A52 (said.length - hn) c52) (.int .i64 (took.length : Int)) (Ne.symm hne5)
      have hRF5 := Kd.V_far (Kd.V_far (Kd.V_far hRF (p := ⟨bx, 0, none⟩) (fun k hk => hk.elim (fun h => by have h1 := h.2; show k ≠ bx; omega) (fun h => h.2)) (.int .i64 (hn : Int))) (p := ⟨bx, 1, none⟩) (fun k hk => hk.elim (fun h => by have h1 := h.2; show k ≠ bx; omega) (fun h => h.2)) (.slice A52 (said.length - hn) c52)) (p := ⟨bx, 2, none⟩) (fun k hk => hk.elim (fun h => by have h1 := h.2; show k ≠ bx; omega) (fun h => h.2)) (.int .i64 (took.length : Int))
      have hF5 : Fr (fun k => b2 ≤ k) w1 (((w4.setCell ⟨bx, 0, none⟩ (.int .i64 (hn : Int))).setCell ⟨bx, 1, none⟩ (.slice A52 (said.length - hn) c52)).setCell ⟨bx, 2, none⟩ (.int .i64 (took.length : Int))) := fr_ge (fr_ge (fr_ge (Fr.of_below hBF) _ _ _ (by omega)) _ _ _ (by omega)) _ _ _ (by omega)
      clear hb2w
      generalize ((w4.setCell ⟨bx, 0, none⟩ (.int .i64 (hn : Int))).setCell ⟨bx, 1, none⟩ (.slice A52 (said.length - hn) c52)).setCell ⟨bx, 2, none⟩ (.int .i64 (took.length : Int)) = w5 at HBX hx2 hx4 hx5 hRF5 hF5 ⊢
      have x2 : w5.cell? ⟨b2, 2, none⟩ = some (.slice As said.length cs) := blk_cell hx2 2
      have f4 : w5.frozen? ⟨b2, 4, none⟩ = false := blk_frozen hx2 4
      have f7 : w5.frozen? ⟨b2, 7, none⟩ = false := blk_frozen hx2 7
      have f8 : w5.frozen? ⟨b2, 8, none⟩ = false := blk_frozen hx2 8
      have f9 : w5.frozen? ⟨b2, 9, none⟩ = false := blk_frozen hx2 9
      have c4 := blk_cell hx2 4
      have c7 := blk_cell hx2 7
      have c8 := blk_cell hx2 8
      have c9 := blk_cell hx2 9
      go_upto_region 9 with fail
      clear x2 f4 f7 f8 f9 c4 c7 c8 c9
      have hx2' : ((((w5.setCell ⟨b2, 4, none⟩ (.int .i64 (said.length : Int))).setCell ⟨b2, 7, none⟩ (.int .i64 now)).setCell ⟨b2, 8, none⟩ (.bool true)).setCell ⟨b2, 9, none⟩ (.bool false)).heap[b2]? = some (.cells (rfC (rfTicked ⟨most, again, said, (hn : Int), out, took, gave, last, went, owes⟩ now) (.slice As said.length cs) (.slice At took.length ct)) 27 (0, 0)) := blk_put (blk_put (blk_put (blk_put hx2 4 (.int .i64 (said.length : Int)) rfl) 7 (.int .i64 now) rfl) 8 (.bool true) rfl) 9 (.bool false) rfl
      have hx4 := fr4 b2 hx4 (.int .i64 (said.length : Int)) (.int .i64 now) (.bool true) (.bool false) (show b2 + 1 ≠ b2 by omega)
      have hx5 := fr4 b2 hx5 (.int .i64 (said.length : Int)) (.int .i64 now) (.bool true) (.bool false) (show b2 + 1 + 1 ≠ b2 by omega)
      have hbx := fr4 b2 HBX.out (.int .i64 (said.length : Int)) (.int .i64 now) (.bool true) (.bool false) hne2
      have hkb : ∀ k, ((Ps k ∧ k < w.heap.size) ∨ (w1.heap.size ≤ k ∧ k ≠ bx)) → k ≠ b2 ∧ k ≠ b2 + 1 ∧ k ≠ b2 + 1 + 1 := fun k hk => hk.elim (fun h => by have := h.2; have := HB2.out; omega) (fun h => by have := h.1; omega)
      have hRF6 := Kd.V_far (Kd.V_far (Kd.V_far (Kd.V_far hRF5 (p := ⟨b2, 4, none⟩) (fun k hk => (hkb k hk).1) (.int .i64 (said.length : Int))) (p := ⟨b2, 7, none⟩) (fun k hk => (hkb k hk).1) (.int .i64 now)) (p := ⟨b2, 8, none⟩) (fun k hk => (hkb k hk).1) (.bool true)) (p := ⟨b2, 9, none⟩) (fun k hk => (hkb k hk).1) (.bool false)
      have hF6 := fr_ge (fr_ge (fr_ge (fr_ge hF5 b2 4 (.int .i64 (said.length : Int)) (Nat.le_refl _)) b2 7 (.int .i64 now) (Nat.le_refl _)) b2 8 (.bool true) (Nat.le_refl _)) b2 9 (.bool false) (Nat.le_refl _)
      generalize (((w5.setCell ⟨b2, 4, none⟩ (.int .i64 (said.length : Int))).setCell ⟨b2, 7, none⟩ (.int .i64 now)).setCell ⟨b2, 8, none⟩ (.bool true)).setCell ⟨b2, 9, none⟩ (.bool false) = w6 at hx2' hx4 hx5 hbx hRF6 hF6 ⊢
      clear hRF5 hF5 HBX hx2
      have hx2A := fr10 (b2 + 1) hx2' (show b2 ≠ b2 + 1 by omega) (.int .i64 most) (.int .i64 again) (.slice As said.length cs) (.int .i64 (hn : Int)) (.int .i64 (said.length : Int)) (.slice At took.length ct) (.int .i64 gave) (.int .i64 now) (.bool true) (.bool false)
      have hbxA := fr10 (b2 + 1) hbx hne4 (.int .i64 most) (.int .i64 again) (.slice As said.length cs) (.int .i64 (hn : Int)) (.int .i64 (said.length : Int)) (.slice At took.length ct) (.int .i64 gave) (.int .i64 now) (.bool true) (.bool false)
      have f0 : w6.frozen? ⟨b2 + 1, 0, none⟩ = false := blk_frozen hx4 0
      have c0 := blk_cell hx4 0
      have f1 : w6.frozen? ⟨b2 + 1, 1, none⟩ = false := blk_frozen hx4 1
      have c1 := blk_cell hx4 1
      have f2 : w6.frozen? ⟨b2 + 1, 2, none⟩ = false := blk_frozen hx4 2
      have c2 := blk_cell hx4 2
      have f3 : w6.frozen? ⟨b2 + 1, 3, none⟩ = false := blk_frozen hx4 3
      have c3 := blk_cell hx4 3
      have f4 : w6.frozen? ⟨b2 + 1, 4, none⟩ = false := blk_frozen hx4 4
      have c4 := blk_cell hx4 4
      have f5 : w6.frozen? ⟨b2 + 1, 5, none⟩ = false := blk_frozen hx4 5
      have c5 := blk_cell hx4 5
      have f6 : w6.frozen? ⟨b2 + 1, 6, none⟩ = false := blk_frozen hx4 6
      have c6 := blk_cell hx4 6
      have f7 : w6.frozen? ⟨b2 + 1, 7, none⟩ = false := blk_frozen hx4 7
      have c7 := blk_cell hx4 7
      have f8 : w6.frozen? ⟨b2 + 1, 8, none⟩ = false := blk_frozen hx4 8
      have c8 := blk_cell hx4 8
      have f9 : w6.frozen? ⟨b2 + 1, 9, none⟩ = false := blk_frozen hx4 9
      have c9 := blk_cell hx4 9
      have hne : b2 + 1 ≠ b2 + 1 + 1 := by omega
      have hne' : b2 + 1 + 1 ≠ b2 + 1 := by omega
      have hx2D := blk_below hx2A (below_drew (Below.refl _ _))
      have hbxD := blk_below hbxA (below_drew (Below.refl _ _))
      have t0 : ((((((((((w6.setCell ⟨b2 + 1, 0, none⟩ (.int .i64 most)).setCell ⟨b2 + 1, 1, none⟩ (.int .i64 again)).setCell ⟨b2 + 1, 2, none⟩ (.slice As said.length cs)).setCell ⟨b2 + 1, 3, none⟩ (.int .i64 (hn : Int))).setCell ⟨b2 + 1, 4, none⟩ (.int .i64 (said.length : Int))).setCell ⟨b2 + 1, 5, none⟩ (.slice At took.length ct)).setCell ⟨b2 + 1, 6, none⟩ (.int .i64 gave)).setCell ⟨b2 + 1, 7, none⟩ (.int .i64 now)).setCell ⟨b2 + 1, 8, none⟩ (.bool true)).setCell ⟨b2 + 1, 9, none⟩ (.bool false)).drew.cell? ⟨b2, 0, none⟩ = some (.int .i64 most) := blk_cell hx2D 0
      have t1 : ((((((((((w6.setCell ⟨b2 + 1, 0, none⟩ (.int .i64 most)).setCell ⟨b2 + 1, 1, none⟩ (.int .i64 again)).setCell ⟨b2 + 1, 2, none⟩ (.slice As said.length cs)).setCell ⟨b2 + 1, 3, none⟩ (.int .i64 (hn : Int))).setCell ⟨b2 + 1, 4, none⟩ (.int .i64 (said.length : Int))).setCell ⟨b2 + 1, 5, none⟩ (.slice At took.length ct)).setCell ⟨b2 + 1, 6, none⟩ (.int .i64 gave)).setCell ⟨b2 + 1, 7, none⟩ (.int .i64 now)).setCell ⟨b2 + 1, 8, none⟩ (.bool true)).setCell ⟨b2 + 1, 9, none⟩ (.bool false)).drew.cell? ⟨b2, 1, none⟩ = some (.int .i64 again) := blk_cell hx2D 1
      have t2 : ((((((((((w6.setCell ⟨b2 + 1, 0, none⟩ (.int .i64 most)).setCell ⟨b2 + 1, 1, none⟩ (.int .i64 again)).setCell ⟨b2 + 1, 2, none⟩ (.slice As said.length cs)).setCell ⟨b2 + 1, 3, none⟩ (.int .i64 (hn : Int))).setCell ⟨b2 + 1, 4, none⟩ (.int .i64 (said.length : Int))).setCell ⟨b2 + 1, 5, none⟩ (.slice At took.length ct)).setCell ⟨b2 + 1, 6, none⟩ (.int .i64 gave)).setCell ⟨b2 + 1, 7, none⟩ (.int .i64 now)).setCell ⟨b2 + 1, 8, none⟩ (.bool true)).setCell ⟨b2 + 1, 9, none⟩ (.bool false)).drew.cell? ⟨b2, 2, none⟩ = some (.slice As said.length cs) := blk_cell hx2D 2
      have t3 : ((((((((((w6.setCell ⟨b2 + 1, 0, none⟩ (.int .i64 most)).setCell ⟨b2 + 1, 1, none⟩ (.int .i64 again)).setCell ⟨b2 + 1, 2, none⟩ (.slice As said.length cs)).setCell ⟨b2 + 1, 3, none⟩ (.int .i64 (hn : Int))).setCell ⟨b2 + 1, 4, none⟩ (.int .i64 (said.length : Int))).setCell ⟨b2 + 1, 5, none⟩ (.slice At took.length ct)).setCell ⟨b2 + 1, 6, none⟩ (.int .i64 gave)).setCell ⟨b2 + 1, 7, none⟩ (.int .i64 now)).setCell ⟨b2 + 1, 8, none⟩ (.bool true)).setCell ⟨b2 + 1, 9, none⟩ (.bool false)).drew.cell? ⟨b2, 3, none⟩ = some (.int .i64 (hn : Int)) := blk_cell hx2D 3
      have t4 : ((((((((((w6.setCell ⟨b2 + 1, 0, none⟩ (.int .i64 most)).setCell ⟨b2 + 1, 1, none⟩ (.int .i64 again)).setCell ⟨b2 + 1, 2, none⟩ (.slice As said.length cs)).setCell ⟨b2 + 1, 3, none⟩ (.int .i64 (hn : Int))).setCell ⟨b2 + 1, 4, none⟩ (.int .i64 (said.length : Int))).setCell ⟨b2 + 1, 5, none⟩ (.slice At took.length ct)).setCell ⟨b2 + 1, 6, none⟩ (.int .i64 gave)).setCell ⟨b2 + 1, 7, none⟩ (.int .i64 now)).setCell ⟨b2 + 1, 8, none⟩ (.bool true)).setCell ⟨b2 + 1, 9, none⟩ (.bool false)).drew.cell? ⟨b2, 4, none⟩ = some (.int .i64 (said.length : Int)) := blk_cell hx2D 4
      have t5 : ((((((((((w6.setCell ⟨b2 + 1, 0, none⟩ (.int .i64 most)).setCell ⟨b2 + 1, 1, none⟩ (.int .i64 again)).setCell ⟨b2 + 1, 2, none⟩ (.slice As said.length cs)).setCell ⟨b2 + 1, 3, none⟩ (.int .i64 (hn : Int))).setCell ⟨b2 + 1, 4, none⟩ (.int .i64 (said.length : Int))).setCell ⟨b2 + 1, 5, none⟩ (.slice At took.length ct)).setCell ⟨b2 + 1, 6, none⟩ (.int .i64 gave)).setCell ⟨b2 + 1, 7, none⟩ (.int .i64 now)).setCell ⟨b2 + 1, 8, none⟩ (.bool true)).setCell ⟨b2 + 1, 9, none⟩ (.bool false)).drew.cell? ⟨b2, 5, none⟩ = some (.slice At took.length ct) := blk_cell hx2D 5
      have t6 : ((((((((((w6.setCell ⟨b2 + 1, 0, none⟩ (.int .i64 most)).setCell ⟨b2 + 1, 1, none⟩ (.int .i64 again)).setCell ⟨b2 + 1, 2, none⟩ (.slice As said.length cs)).setCell ⟨b2 + 1, 3, none⟩ (.int .i64 (hn : Int))).setCell ⟨b2 + 1, 4, none⟩ (.int .i64 (said.length : Int))).setCell ⟨b2 + 1, 5, none⟩ (.slice At took.length ct)).setCell ⟨b2 + 1, 6, none⟩ (.int .i64 gave)).setCell ⟨b2 + 1, 7, none⟩ (.int .i64 now)).setCell ⟨b2 + 1, 8, none⟩ (.bool true)).setCell ⟨b2 + 1, 9, none⟩ (.bool false)).drew.cell? ⟨b2, 6, none⟩ = some (.int .i64 gave) := blk_cell hx2D 6
      have t7 : ((((((((((w6.setCell ⟨b2 + 1, 0, none⟩ (.int .i64 most)).setCell ⟨b2 + 1, 1, none⟩ (.int .i64 again)).setCell ⟨b2 + 1, 2, none⟩ (.slice As said.length cs)).setCell ⟨b2 + 1, 3, none⟩ (.int .i64 (hn : Int))).setCell ⟨b2 + 1, 4, none⟩ (.int .i64 (said.length : Int))).setCell ⟨b2 + 1, 5, none⟩ (.slice At took.length ct)).setCell ⟨b2 + 1, 6, none⟩ (.int .i64 gave)).setCell ⟨b2 + 1, 7, none⟩ (.int .i64 now)).setCell ⟨b2 + 1, 8, none⟩ (.bool true)).setCell ⟨b2 + 1, 9, none⟩ (.bool false)).drew.cell? ⟨b2, 7, none⟩ = some (.int .i64 now) := blk_cell hx2D 7
      have t8 : ((((((((((w6.setCell ⟨b2 + 1, 0, none⟩ (.int .i64 most)).setCell ⟨b2 + 1, 1, none⟩ (.int .i64 again)).setCell ⟨b2 + 1, 2, none⟩ (.slice As said.length cs)).setCell ⟨b2 + 1, 3, none⟩ (.int .i64 (hn : Int))).setCell ⟨b2 + 1, 4, none⟩ (.int .i64 (said.length : Int))).setCell ⟨b2 + 1, 5, none⟩ (.slice At took.length ct)).setCell ⟨b2 + 1, 6, none⟩ (.int .i64 gave)).setCell ⟨b2 + 1, 7, none⟩ (.int .i64 now)).setCell ⟨b2 + 1, 8, none⟩ (.bool true)).setCell ⟨b2 + 1, 9, none⟩ (.bool false)).drew.cell? ⟨b2, 8, none⟩ = some (.bool true) := blk_cell hx2D 8
      have t9 : ((((((((((w6.setCell ⟨b2 + 1, 0, none⟩ (.int .i64 most)).setCell ⟨b2 + 1, 1, none⟩ (.int .i64 again)).setCell ⟨b2 + 1, 2, none⟩ (.slice As said.length cs)).setCell ⟨b2 + 1, 3, none⟩ (.int .i64 (hn : Int))).setCell ⟨b2 + 1, 4, none⟩ (.int .i64 (said.length : Int))).setCell ⟨b2 + 1, 5, none⟩ (.slice At took.length ct)).setCell ⟨b2 + 1, 6, none⟩ (.int .i64 gave)).setCell ⟨b2 + 1, 7, none⟩ (.int .i64 now)).setCell ⟨b2 + 1, 8, none⟩ (.bool true)).setCell ⟨b2 + 1, 9, none⟩ (.bool false)).drew.cell? ⟨b2, 9, none⟩ = some (.bool false) := blk_cell hx2D 9
      have t10 : ((((((((((w6.setCell ⟨b2 + 1, 0, none⟩ (.int .i64 most)).setCell ⟨b2 + 1, 1, none⟩ (.int .i64 again)).setCell ⟨b2 + 1, 2, none⟩ (.slice As said.length cs)).setCell ⟨b2 + 1, 3, none⟩ (.int .i64 (hn : Int))).setCell ⟨b2 + 1, 4, none⟩ (.int .i64 (said.length : Int))).setCell ⟨b2 + 1, 5, none⟩ (.slice At took.length ct)).setCell ⟨b2 + 1, 6, none⟩ (.int .i64 gave)).setCell ⟨b2 + 1, 7, none⟩ (.int .i64 now)).setCell ⟨b2 + 1, 8, none⟩ (.bool true)).setCell ⟨b2 + 1, 9, none⟩ (.bool false)).drew.cell? ⟨bx, 0, none⟩ = some (.int .i64 (hn : Int)) := blk_cell hbxD 0
      have t11 : ((((((((((w6.setCell ⟨b2 + 1, 0, none⟩ (.int .i64 most)).setCell ⟨b2 + 1, 1, none⟩ (.int .i64 again)).setCell ⟨b2 + 1, 2, none⟩ (.slice As said.length cs)).setCell ⟨b2 + 1, 3, none⟩ (.int .i64 (hn : Int))).setCell ⟨b2 + 1, 4, none⟩ (.int .i64 (said.length : Int))).setCell ⟨b2 + 1, 5, none⟩ (.slice At took.length ct)).setCell ⟨b2 + 1, 6, none⟩ (.int .i64 gave)).setCell ⟨b2 + 1, 7, none⟩ (.int .i64 now)).setCell ⟨b2 + 1, 8, none⟩ (.bool true)).setCell ⟨b2 + 1, 9, none⟩ (.bool false)).drew.cell? ⟨bx, 1, none⟩ = some (.slice A52 (said.length - hn) c52) := blk_cell hbxD 1
      have t12 : ((((((((((w6.setCell ⟨b2 + 1, 0, none⟩ (.int .i64 most)).setCell ⟨b2 + 1, 1, none⟩ (.int .i64 again)).setCell ⟨b2 + 1, 2, none⟩ (.slice As said.length cs)).setCell ⟨b2 + 1, 3, none⟩ (.int .i64 (hn : Int))).setCell ⟨b2 + 1, 4, none⟩ (.int .i64 (said.length : Int))).setCell ⟨b2 + 1, 5, none⟩ (.slice At took.length ct)).setCell ⟨b2 + 1, 6, none⟩ (.int .i64 gave)).setCell ⟨b2 + 1, 7, none⟩ (.int .i64 now)).setCell ⟨b2 + 1, 8, none⟩ (.bool true)).setCell ⟨b2 + 1, 9, none⟩ (.bool false)).drew.cell? ⟨bx, 2, none⟩ = some (.int .i64 (took.length : Int)) := blk_cell hbxD 2
      clear hx2D hbxD
      have hx4A : ((((((((((w6.setCell ⟨b2 + 1, 0, none⟩ (.int .i64 most)).setCell ⟨b2 + 1, 1, none⟩ (.int .i64 again)).setCell ⟨b2 + 1, 2, none⟩ (.slice As said.length cs)).setCell ⟨b2 + 1, 3, none⟩ (.int .i64 (hn : Int))).setCell ⟨b2 + 1, 4, none⟩ (.int .i64 (said.length : Int))).setCell ⟨b2 + 1, 5, none⟩ (.slice At took.length ct)).setCell ⟨b2 + 1, 6, none⟩ (.int .i64 gave)).setCell ⟨b2 + 1, 7, none⟩ (.int .i64 now)).setCell ⟨b2 + 1, 8, none⟩ (.bool true)).setCell ⟨b2 + 1, 9, none⟩ (.bool false)).drew.heap[b2 + 1]? = some (.cells (rfC (rfTicked ⟨most, again, said, (hn : Int), out, took, gave, last, went, owes⟩ now) (.slice As said.length cs) (.slice At took.length ct)) 27 (0, 0)) := blk_below (put10 hx4 (.int .i64 most) (.int .i64 again) (.slice As said.length cs) (.int .i64 (hn : Int)) (.int .i64 (said.length : Int)) (.slice At took.length ct) (.int .i64 gave) (.int .i64 now) (.bool true) (.bool false)) (below_drew (Below.refl _ _))
      have hx5A := blk_below (fr10 (b2 + 1) hx5 (show b2 + 1 + 1 ≠ b2 + 1 by omega) (.int .i64 most) (.int .i64 again) (.slice As said.length cs) (.int .i64 (hn : Int)) (.int .i64 (said.length : Int)) (.slice At took.length ct) (.int .i64 gave) (.int .i64 now) (.bool true) (.bool false)) (below_drew (Below.refl _ _))
      have hRFA := Kd.V_below (Kd.V_far (Kd.V_far (Kd.V_far (Kd.V_far (Kd.V_far (Kd.V_far (Kd.V_far (Kd.V_far (Kd.V_far (Kd.V_far hRF6 (p := ⟨b2 + 1, 0, none⟩) (fun k hk => (hkb k hk).2.1) (.int .i64 most)) (p := ⟨b2 + 1, 1, none⟩) (fun k hk => (hkb k hk).2.1) (.int .i64 again)) (p := ⟨b2 + 1, 2, none⟩) (fun k hk => (hkb k hk).2.1) (.slice As said.length cs)) (p := ⟨b2 + 1, 3, none⟩) (fun k hk => (hkb k hk).2.1) (.int .i64 (hn : Int))) (p := ⟨b2 + 1, 4, none⟩) (fun k hk => (hkb k hk).2.1) (.int .i64 (said.length : Int))) (p := ⟨b2 + 1, 5, none⟩) (fun k hk => (hkb k hk).2.1) (.slice At took.length ct)) (p := ⟨b2 + 1, 6, none⟩) (fun k hk => (hkb k hk).2.1) (.int .i64 gave)) (p := ⟨b2 + 1, 7, none⟩) (fun k hk => (hkb k hk).2.1) (.int .i64 now)) (p := ⟨b2 + 1, 8, none⟩) (fun k hk => (hkb k hk).2.1) (.bool true)) (p := ⟨b2 + 1, 9, none⟩) (fun k hk => (hkb k hk).2.1) (.bool false)) (below_drew (Below.refl _ _))
      have hFA : Fr (fun k => b2 ≤ k) w1 ((((((((((w6.setCell ⟨b2 + 1, 0, none⟩ (.int .i64 most)).setCell ⟨b2 + 1, 1, none⟩ (.int .i64 again)).setCell ⟨b2 + 1, 2, none⟩ (.slice As said.length cs)).setCell ⟨b2 + 1, 3, none⟩ (.int .i64 (hn : Int))).setCell ⟨b2 + 1, 4, none⟩ (.int .i64 (said.length : Int))).setCell ⟨b2 + 1, 5, none⟩ (.slice At took.length ct)).setCell ⟨b2 + 1, 6, none⟩ (.int .i64 gave)).setCell ⟨b2 + 1, 7, none⟩ (.int .i64 now)).setCell ⟨b2 + 1, 8, none⟩ (.bool true)).setCell ⟨b2 + 1, 9, none⟩ (.bool false)).drew := (fr_ge (fr_ge (fr_ge (fr_ge (fr_ge (fr_ge (fr_ge (fr_ge (fr_ge (fr_ge hF6 (b2 + 1) 0 (.int .i64 most) (Nat.le_succ _)) (b2 + 1) 1 (.int .i64 again) (Nat.le_succ _)) (b2 + 1) 2 (.slice As said.length cs) (Nat.le_succ _)) (b2 + 1) 3 (.int .i64 (hn : Int)) (Nat.le_succ _)) (b2 + 1) 4 (.int .i64 (said.length : Int)) (Nat.le_succ _)) (b2 + 1) 5 (.slice At took.length ct) (Nat.le_succ _)) (b2 + 1) 6 (.int .i64 gave) (Nat.le_succ _)) (b2 + 1) 7 (.int .i64 now) (Nat.le_succ _)) (b2 + 1) 8 (.bool true) (Nat.le_succ _)) (b2 + 1) 9 (.bool false) (Nat.le_succ _)).trans (Fr.drew (S := fun _ => False) _) (fun k h => h.elim)
      clear hRF6 hF6 hx4 hx5 hx2A hbxA
      refine start_ (n := 5) (S := fun w' => w'.cell? ⟨b2, 0, none⟩ = some (.int .i64 most) ∧ w'.cell? ⟨b2, 1, none⟩ = some (.int .i64 again) ∧ w'.cell? ⟨b2, 2, none⟩ = some (.slice As said.length cs) ∧ w'.cell? ⟨b2, 3, none⟩ = some (.int .i64 (hn : Int)) ∧ w'.cell? ⟨b2, 4, none⟩ = some (.int .i64 (said.length : Int)) ∧ w'.cell? ⟨b2, 5, none⟩ = some (.slice At took.length ct) ∧ w'.cell? ⟨b2, 6, none⟩ = some (.int .i64 gave) ∧ w'.cell? ⟨b2, 7, none⟩ = some (.int .i64 now) ∧ w'.cell? ⟨b2, 8, none⟩ = some (.bool true) ∧ w'.cell? ⟨b2, 9, none⟩ = some (.bool false) ∧ w'.cell? ⟨bx, 0, none⟩ = some (.int .i64 (hn : Int)) ∧ w'.cell? ⟨bx, 1, none⟩ = some (.slice A52 (said.length - hn) c52) ∧ w'.cell? ⟨bx, 2, none⟩ = some (.int .i64 (took.length : Int))) (ds := [3]) #[false, false, false, false, false] (by kernel_rfl) rfl rfl ⟨blk_cell (blk_below hx2' (below_drew (Below.refl _ _))) 0, blk_cell (blk_below hx2' (below_drew (Below.refl _ _))) 1, blk_cell (blk_below hx2' (below_drew (Below.refl _ _))) 2, blk_cell (blk_below hx2' (below_drew (Below.refl _ _))) 3, blk_cell (blk_below hx2' (below_drew (Below.refl _ _))) 4, blk_cell (blk_below hx2' (below_drew (Below.refl _ _))) 5, blk_cell (blk_below hx2' (below_drew (Below.refl _ _))) 6, blk_cell (blk_below hx2' (below_drew (Below.refl _ _))) 7, blk_cell (blk_below hx2' (below_drew (Below.refl _ _))) 8, blk_cell (blk_below hx2' (below_drew (Below.refl _ _))) 9, blk_cell (blk_below hbx (below_drew (Below.refl _ _))) 0, blk_cell (blk_below hbx (below_drew (Below.refl _ _))) 1, blk_cell (blk_below hbx (below_drew (Below.refl _ _))) 2⟩ (fun hHeld => ?_)
      refine take_ (i := 0) (N := some 65) (v := ?_) (a' := ?_) #[true, false, false, false, false] rfl rfl (by kernel_rfl) (fun _ _ _ h => h) (Or.inl ⟨by rfl, ?_⟩) hHeld ?_ ?_
      rotate_left
      · rintro w' ⟨s0, s1, s2, s3, s4, s5, s6, s7, s8, s9, s10, s11, s12⟩
        go_simp
        with_reducible rfl
      rotate_left
      · simp only [Act.put, List.setIfInBounds_toArray, List.set_cons_zero, List.set_cons_succ, i64_w, i32_w]
        rfl
      refine take_ (i := 1) (N := some 66) (v := ?_) (a' := ?_) #[true, true, false, false, false] rfl rfl (by kernel_rfl) (fun _ _ _ h => h) (Or.inl ⟨by rfl, ?_⟩) hHeld ?_ ?_
      rotate_left
      · rintro w' ⟨s0, s1, s2, s3, s4, s5, s6, s7, s8, s9, s10, s11, s12⟩
        go_simp
        with_reducible rfl
      rotate_left
      · simp only [Act.put, List.setIfInBounds_toArray, List.set_cons_zero, List.set_cons_succ, i64_w, i32_w]
        rfl
      refine one_ (i := 2) (N := none) #[true, true, true, false, false] rfl rfl (by kernel_rfl) (by decide) (fun K hK => ?_)
      refine skip_ (w1 := ?_) (by rfl) rfl ?_ ?_
      rotate_left
      · go_simp
        rfl
      refine hK.out _ _ ⟨t0, t1, t2, t3, t4, t5, t6, t7, t8, t9, t10, t11, t12⟩ ?_
      intro hHeld
      clear hHeld hx2' hbx t0 t1 t2 t3 t4 t5 t6 t7 t8 t9 t10 t11 t12 f0 f1 f2 f3 f4 f5 f6 f7 f8 f9 c0 c1 c2 c3 c4 c5 c6 c7 c8 c9
      generalize ((((((((((w6.setCell ⟨b2 + 1, 0, none⟩ (.int .i64 most)).setCell ⟨b2 + 1, 1, none⟩ (.int .i64 again)).setCell ⟨b2 + 1, 2, none⟩ (.slice As said.length cs)).setCell ⟨b2 + 1, 3, none⟩ (.int .i64 (hn : Int))).setCell ⟨b2 + 1, 4, none⟩ (.int .i64 (said.length : Int))).setCell ⟨b2 + 1, 5, none⟩ (.slice At took.length ct)).setCell ⟨b2 + 1, 6, none⟩ (.int .i64 gave)).setCell ⟨b2 + 1, 7, none⟩ (.int .i64 now)).setCell ⟨b2 + 1, 8, none⟩ (.bool true)).setCell ⟨b2 + 1, 9, none⟩ (.bool false)).drew = wA at hx4A hx5A hRFA hFA ⊢
      have g0 : wA.frozen? ⟨b2 + 1 + 1, 0, none⟩ = false := blk_frozen hx5A 0
      have e0 := blk_cell hx5A 0
      have g1 : wA.frozen? ⟨b2 + 1 + 1, 1, none⟩ = false := blk_frozen hx5A 1
      have e1 := blk_cell hx5A 1
      have g2 : wA.frozen? ⟨b2 + 1 + 1, 2, none⟩ = false := blk_frozen hx5A 2
      have e2 := blk_cell hx5A 2
      clear hK K
      refine last_ (i := 3) (N := none) #[true, true, true, true, false] rfl rfl (by kernel_rfl) (by decide) (fun K hK => ?_)
      refine skip_ (w1 := ?_) (by rfl) rfl ?_ ?_
      rotate_left
      · go_simp
        rfl
      refine hK.out _ _ ?_
      clear hK K
      refine pure_ (i := 4) (N := some 6) (v := ?_) (a' := ?_) #[true, true, true, true, true] rfl rfl (by kernel_rfl) (fun _ _ _ h => h) (Or.inl ⟨by rfl, ?_⟩) ?_ ?_
      rotate_left
      · intro w'
        go_simp
        with_reducible rfl
      rotate_left
      · simp only [Act.put, List.setIfInBounds_toArray, List.set_cons_zero, List.set_cons_succ, i64_w, i32_w]
        rfl
      refine done_ (by kernel_rfl) ?_
      have hx4F := fr3 (b2 + 1 + 1) hx4A (.int .i64 (hn : Int)) (.slice A52 (said.length - hn) c52) (.int .i64 (took.length : Int)) hne
      have hx5F := blk_put (blk_put (blk_put hx5A 0 (.int .i64 (hn : Int)) rfl) 1 (.slice A52 (said.length - hn) c52) rfl) 2 (.int .i64 (took.length : Int)) rfl
      have HRF := Aside0.mk (Kd.V_far (Kd.V_far (Kd.V_far hRFA (p := ⟨b2 + 1 + 1, 0, none⟩) (fun k hk => (hkb k hk).2.2) (.int .i64 (hn : Int))) (p := ⟨b2 + 1 + 1, 1, none⟩) (fun k hk => (hkb k hk).2.2) (.slice A52 (said.length - hn) c52)) (p := ⟨b2 + 1 + 1, 2, none⟩) (fun k hk => (hkb k hk).2.2) (.int .i64 (took.length : Int)))
      have HFF := Aside0.mk (fr_ge (fr_ge (fr_ge hFA (b2 + 1 + 1) 0 (.int .i64 (hn : Int)) (by omega)) (b2 + 1 + 1) 1 (.slice A52 (said.length - hn) c52) (by omega)) (b2 + 1 + 1) 2 (.int .i64 (took.length : Int)) (by omega))
      generalize ((wA.setCell ⟨b2 + 1 + 1, 0, none⟩ (.int .i64 (hn : Int))).setCell ⟨b2 + 1 + 1, 1, none⟩ (.slice A52 (said.length - hn) c52)).setCell ⟨b2 + 1 + 1, 2, none⟩ (.int .i64 (took.length : Int)) = wF at hx4F hx5F HRF HFF ⊢
      have r0 : wF.cell? ⟨b2 + 1, 0, none⟩ = some (.int .i64 most) := blk_cell hx4F 0
      have r1 : wF.cell? ⟨b2 + 1, 1, none⟩ = some (.int .i64 again) := blk_cell hx4F 1
      have r2 : wF.cell? ⟨b2 + 1, 2, none⟩ = some (.slice As said.length cs) := blk_cell hx4F 2
      have r3 : wF.cell? ⟨b2 + 1, 3, none⟩ = some (.int .i64 (hn : Int)) := blk_cell hx4F 3
      have r4 : wF.cell? ⟨b2 + 1, 4, none⟩ = some (.int .i64 (said.length : Int)) := blk_cell hx4F 4
      have r5 : wF.cell? ⟨b2 + 1, 5, none⟩ = some (.slice At took.length ct) := blk_cell hx4F 5
      have r6 : wF.cell? ⟨b2 + 1, 6, none⟩ = some (.int .i64 gave) := blk_cell hx4F 6
      have r7 : wF.cell? ⟨b2 + 1, 7, none⟩ = some (.int .i64 now) := blk_cell hx4F 7
      have r8 : wF.cell? ⟨b2 + 1, 8, none⟩ = some (.bool true) := blk_cell hx4F 8
      have r9 : wF.cell? ⟨b2 + 1, 9, none⟩ = some (.bool false) := blk_cell hx4F 9
      have p0 : wF.cell? ⟨b2 + 1 + 1, 0, none⟩ = some (.int .i64 (hn : Int)) := blk_cell hx5F 0
      have p1 : wF.cell? ⟨b2 + 1 + 1, 1, none⟩ = some (.slice A52 (said.length - hn) c52) := blk_cell hx5F 1
      have p2 : wF.cell? ⟨b2 + 1 + 1, 2, none⟩ = some (.int .i64 (took.length : Int)) := blk_cell hx5F 2
      clear hx4F hx5F hx4A hx5A hRFA hFA g0 g1 g2 e0 e1 e2 hkb hne hne' hne2 hne4 hne5 hge hlt4 hlt5
      go_wp2
      refine bodyPost_ret (v := .tuple #[.agg (rfC (rfTicked ⟨most, again, said, (hn : Int), out, took, gave, last, went, owes⟩ now) (.slice As said.length cs) (.slice At took.length ct)), .agg #[.int .i64 (hn : Int), .slice A52 (said.length - hn) c52, .int .i64 (took.length : Int)], .bool true]) (by simp [results, Try.results29, go_sem, *]) rfl ?_
      refine ⟨Fr.below HB1.out HB1.out.size HFF.out (fun k h => HB2.out ▸ h), A52, c52, rfl, ?_⟩
      have hVF := HRF.out
      rw [List.length_drop] at hVF
      exact Kd.V_mono hVF (fun k hk => hk.imp (fun h => h.1) (fun h => Nat.le_trans HB1.out.size h.1))
end Go.Proofs.Yteeljnlhgaljaaa
