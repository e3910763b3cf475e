/- By hand: play. -/
import Derived.Test.YteeljnlhgaljaaaW2
namespace Go.Proofs.Yteeljnlhgaljaaa
set_option linter.unusedVariables false
set_option linter.unusedSimpArgs false
open Go.RowKit Go.Proofs.YteeljnlhgaljaaaW.PrintWords Go.Proofs.YteeljnlhgaljaaaW.PrintLast Go.Proofs.YteeljnlhgaljaaaW.PrintMore Go.Proofs.Yteeljnlhgaljaaa.P
section
variable {Sa Sb Ga Gb Wp Sa' Sb' Ga' Gb' Wp' So : Nat → Prop} {w w' : World}
theorem Went.sw0 (h : Went (U5 Sb Sa Gb Ga Wp) (U5 Sb' Sa' Gb' Ga' Wp') w w') : Went (U5 Sa Sb Ga Gb Wp) (U5 Sa' Sb' Ga' Gb' Wp') w w' := h.imp (fun k h => U5.swap h) (fun k h => U5.swap h)
theorem Went.sw1 (h : Went (U5 Sb Sa Gb Ga Wp) (fun k => U5 Sb' Sa' Gb' Ga' Wp' k ∨ So k) w w') : Went (U5 Sa Sb Ga Gb Wp) (fun k => U5 Sa' Sb' Ga' Gb' Wp' k ∨ So k) w w' := h.imp (fun k h => U5.swap h) (fun k h => h.imp U5.swap id)
theorem Went.sw2 (h : Went (fun k => U5 Sb Sa Gb Ga Wp k ∨ So k) (U5 Sb' Sa' Gb' Ga' Wp') w w') : Went (fun k => U5 Sa Sb Ga Gb Wp k ∨ So k) (U5 Sa' Sb' Ga' Gb' Wp') w w' := h.imp (fun k h => h.imp U5.swap id) (fun k h => U5.swap h)
end
theorem fr_set2 (w : World) (b i j : Nat) (u v : Value) : Fr (fun k => k = b) w ((w.setCell ⟨b, i, none⟩ u).setCell ⟨b, j, none⟩ v) := (Fr.setCell (S := fun k => k = b) _ rfl _).trans (Fr.setCell (S := fun k => k = b) _ rfl _) (fun k h => .inl h)
theorem elem83 : Try.prog.elem 83 = 87 := by simp [Program.elem, Try.underlying83]
theorem run_take83 (A : Option Addr) (c n k : Nat) (hk : k ≤ n) (hn : k ≤ c) (W : World) : (Instr.slice 83 (.slice A n c) none (some (.int .i64 (k : Int))) none).run Try.prog W = .ok (.slice A k c) W := by
  have ha : (A.map fun x => x.add 0) = A := by cases A <;> simp [Addr.add]
  have hu : Try.prog.underlying 83 = some (.slice (Try.prog.elem 83)) := by rw [elem83]; exact Try.underlying83
  obtain ⟨i0, hi, hz⟩ := Option.map_eq_some_iff.1 info87'
  simp only [Prod.mk.injEq] at hz
  rw [run_slice_h W 83 A n c hu .i64 (k : Int) (by omega) (by omega), elem83]
  simp [sizeOf, typeInfo, hi, hz.2.1, sliced, Result.andThen, ha]
theorem run_drop83 (A : Option Addr) (c n k : Nat) (hk : k ≤ n) (hn : n ≤ c) (W : World) : (Instr.slice 83 (.slice A n c) (some (.int .i64 (k : Int))) none none).run Try.prog W = .ok (.slice (if c = k then A else A.map (·.add (k * 4))) (n - k) (c - k)) W := by
  have hu : Try.prog.underlying 83 = some (.slice (Try.prog.elem 83)) := by rw [elem83]; exact Try.underlying83
  obtain ⟨i0, hi, hz⟩ := Option.map_eq_some_iff.1 info87'
  simp only [Prod.mk.injEq] at hz
  rw [run_slice_l W 83 A n c hu .i64 (k : Int) (by omega) (by omega), elem83]
  simp [sizeOf, typeInfo, hi, hz.2.1, sliced, Result.andThen]
theorem own0 {b k : Nat} (h : (Value.slice (some ⟨b, 0, none⟩) 0 0).ownBlock = some k) : k = b := by
  have : b = k := by simpa [Value.ownBlock] using h
  exact this.symm
theorem own_ge {b N : Nat} {v1 : Value} (hb : b ≤ N) (h : v1.ownBlock = (Value.slice (some ⟨b, 0, none⟩) 0 0).ownBlock ∨ ∃ c, v1.ownBlock = some c ∧ N ≤ c) : ∀ k, v1.ownBlock = some k → b ≤ k := by
  intro k hk
  rcases h with h | ⟨c, h, hc⟩
  · rw [hk] at h
    exact Nat.le_of_eq (own0 h.symm).symm
  · rw [hk] at h
    obtain rfl := Option.some.inj h
    omega
theorem below_row {w W w1 : World} {row : Option Nat} (hb : Below w.heap.size w W) (hg : W.grownBy w1 row) (hr : ∀ k, row = some k → w.heap.size ≤ k) : Below w.heap.size w w1 :=
  ⟨hg.os.trans hb.os, hg.tape.trans hb.tape, hg.output.trans hb.output, Nat.le_trans hb.size hg.size, fun k hk => (hg.block k (Nat.lt_of_lt_of_le hk hb.size) (fun e => by have := hr k e.symm; omega)).trans (hb.block k hk)⟩
/-- play's four boxes: the answers' two, what was said, what was got. -/
structure Bx (w0 w : World) (U : Nat → Prop) (b6 b7 b12 b13 : Nat) (na nb : Nat) (va vb : Value) : Prop where
  x6 : Blk w U b6 (.cells #[.int .i64 0, .int .i64 0] 22 (0, 0))
  x7 : Blk w U b7 (.cells #[.slice none 0 0, .slice none 0 0] 41 (0, 0))
  x12 : Blk w U b12 (.cells #[.int .i64 na, .int .i64 nb] 22 (0, 0))
  x13 : Blk w U b13 (.cells #[va, vb] 41 (0, 0))
  ne : b6 < b7 ∧ b7 < b12 ∧ b12 < b13
  ge : w0.heap.size ≤ b6
theorem Bx.went {w0 w w' : World} {U U' : Nat → Prop} {b6 b7 b12 b13 : Nat} {na nb : Nat} {va vb : Value} (h : Bx w0 w U b6 b7 b12 b13 na nb va vb) (hw : Went U U' w w') : Bx w0 w' U' b6 b7 b12 b13 na nb va vb :=
  ⟨h.x6.went hw, h.x7.went hw, h.x12.went hw, h.x13.went hw, h.ne, h.ge⟩
/-- What play leaves. -/
def Played (w w' : World) (e : Ending) (M A : Int) : Prop := ∃ g g' na nb ta tb Sa Sb Ga Gb Wp va vb vw la lb ps, e = .returned (.tuple #[.pointer (some ⟨g, 0, none⟩), .pointer (some ⟨g', 0, none⟩), .agg #[.int .i64 ((na : Nat) : Int), .int .i64 ((nb : Nat) : Int)], .agg #[va, vb]]) ∧ Inv 0 1 true M A 120 na nb ta tb la lb ps ∧ ta.got = [] ∧ tb.got = [] ∧ na ≤ 120 ∧ nb ≤ 120 ∧ Pm w w' g g' Sa Sb Ga Gb Wp ta tb va vb vw la lb ps
theorem mod_nat (x : Int) (n : Nat) (h0 : 0 < n) (h : n ≤ 1000) : ∃ kn : Nat, wrap64 ((IntKind.u64.wrap x).tmod (n : Int)) = (kn : Int) ∧ kn < n := by
  have hu : 0 ≤ IntKind.u64.wrap x := Int.emod_nonneg x (by decide)
  have h2 := Int.tmod_nonneg (n : Int) hu
  have h3 := Int.tmod_lt_of_pos (IntKind.u64.wrap x) (show (0 : Int) < (n : Int) by omega)
  generalize (IntKind.u64.wrap x).tmod (n : Int) = z at *
  refine ⟨z.toNat, ?_, by omega⟩
  unfold wrap64
  omega
set_option maxRecDepth 100000 in
set_option maxHeartbeats 40000000 in
theorem play_any (a b : Int) (Ad : Option Addr) (deeds : List S85) (cd : Nat) (w : World) (hd : Kd.C k85 w Ad deeds.length deeds) :
    Calls Try.prog 16 #[.agg #[.int .i64 a, .int .i64 b], .slice Ad deeds.length cd] w fun e w' => ∃ M A, 1 ≤ A ∧ A ≤ 1000 ∧ Played w w' e M A := by
  have HD := Aside0.mk hd
  have htl := hd.2.1
  clear hd
  go_enter Try.func16, Try.ntmps16
  go_wp2_with fail
  generalize hz : ((w.alloc _).alloc _).alloc _ = w0
  have hb0 : Below w.heap.size w w0 := hz ▸ below_alloc (below_alloc (below_alloc (Below.refl _ _) _) _) _
  have hx2 : w0.heap[w.heap.size]? = some (.cells #[.int .i64 a, .int .i64 b] 22 (0, 0)) := hz ▸ blk_alloc (blk_alloc (blk_new w _) _) _
  have hx6 : w0.heap[w.heap.size + 1]? = some (.cells #[.int .i64 0, .int .i64 0] 22 (0, 0)) := by
    rw [← hz]
    refine blk_alloc ?_ _
    have := blk_new (w.alloc (Obj.cells #[Value.int IntKind.i64 a, Value.int IntKind.i64 b] 22)) (Obj.cells #[Value.int IntKind.i64 0, Value.int IntKind.i64 0] 22)
    simpa using this
  have hx7 : w0.heap[w.heap.size + 1 + 1]? = some (.cells #[.slice none 0 0, .slice none 0 0] 41 (0, 0)) := by
    rw [← hz]
    have := blk_new ((w.alloc (Obj.cells #[Value.int IntKind.i64 a, Value.int IntKind.i64 b] 22)).alloc (Obj.cells #[Value.int IntKind.i64 0, Value.int IntKind.i64 0] 22)) (Obj.cells #[Value.slice none 0 0, Value.slice none 0 0] 41)
    simpa using this
  have hsz := blk_lt hx7
  clear hz
  refine (begin_ok a b _).mono ?_
  rintro e w1 ⟨g, rfl, hk1, hg, hb1⟩
  have hcap64 := capOf_in 64 a (by omega) (by omega)
  have hcapn := capOf_in 1000 b (by omega) (by omega)
  have hx21 := blk_below (blk_below hx2 hb1) (below_alloc (Below.refl _ _) (.cells #[.int .i64 (capOf 64 a), .int .i64 (capOf 1000 b), .slice none 0 0, .int .i64 0, .int .i64 0, .slice none 0 0, .int .i64 0, .int .i64 0, .bool false, .bool false] 27))
  have y0 := blk_cell hx21 0
  have y1 := blk_cell hx21 1
  have HCA := Aside0.mk hcap64
  have HCB := Aside0.mk hcapn
  have HX6 := Aside0.mk hx6
  have HX7 := Aside0.mk hx7
  have HB0 := Aside0.mk hb0
  have HB1 := Aside0.mk hb1
  have HK1 := Aside0.mk hk1
  have HG := Aside0.mk hg
  have HSZ := Aside0.mk hsz
  clear hx2 hx6 hx7 hb0 hb1 hk1 hg hsz hcap64 hcapn hx21
  go_wp2_with fail
  refine (begin_ok a b _).mono ?_
  rintro e w2 ⟨g', rfl, hk2, hg', hb2⟩
  clear y0 y1
  have hk2a := (HK1.out.below (below_alloc (Below.refl _ _) _)).below hb2
  have hlt1 : g < w1.heap.size := by obtain ⟨_, _, _, _, h⟩ := HK1.out; exact blk_lt h.blk
  have hsz2 : w1.heap.size + 1 ≤ w2.heap.size := by have := hb2.size; simpa using this
  have hg2 : w1.heap.size + 1 ≤ g' := by simpa using hg'
  have hB02 : Below w.heap.size w w2 := below_then (below_then (below_then HB0.out HB0.out.size HB1.out) (by have := HB0.out.size; have := HB1.out.size; omega) (below_alloc (Below.refl _ _) _)) (by have := HB0.out.size; have := HB1.out.size; simp; omega) hb2
  have hx6 := blk_below (blk_below (blk_below HX6.out HB1.out) (below_alloc (Below.refl _ _) _)) hb2
  have hx7 := blk_below (blk_below (blk_below HX7.out HB1.out) (below_alloc (Below.refl _ _) _)) hb2
  generalize capOf 64 a = M at hk2 hk2a HCA ⊢
  generalize capOf 1000 b = A at hk2 hk2a HCB ⊢
  go_wp2_with fail
  generalize hz : ((w2.alloc _).alloc _).alloc _ = w3
  have hb23 : Below w2.heap.size w2 w3 := hz ▸ below_alloc (below_alloc (below_alloc (Below.refl _ _) _) _) _
  have hx12 : w3.heap[w2.heap.size + 1]? = some (.cells #[.int .i64 0, .int .i64 0] 22 (0, 0)) := by
    rw [← hz]
    refine blk_alloc ?_ _
    have := blk_new (w2.alloc (Obj.cells #[.int .i64 M, .int .i64 A, .slice none 0 0, .int .i64 0, .int .i64 0, .slice none 0 0, .int .i64 0, .int .i64 0, .bool false, .bool false] 27)) (Obj.cells #[Value.int IntKind.i64 0, Value.int IntKind.i64 0] 22)
    simpa using this
  have hx13 : w3.heap[w2.heap.size + 1 + 1]? = some (.cells #[.slice none 0 0, .slice none 0 0] 41 (0, 0)) := by
    rw [← hz]
    have := blk_new ((w2.alloc (Obj.cells #[.int .i64 M, .int .i64 A, .slice none 0 0, .int .i64 0, .int .i64 0, .slice none 0 0, .int .i64 0, .int .i64 0, .bool false, .bool false] 27)).alloc (Obj.cells #[Value.int IntKind.i64 0, Value.int IntKind.i64 0] 22)) (Obj.cells #[Value.slice none 0 0, Value.slice none 0 0] 41)
    simpa using this
  clear hz
  have hlt3 : g' < w2.heap.size := by obtain ⟨_, _, _, _, h⟩ := hk2; exact blk_lt h.blk
  have hs23 := hb23.size
  have hg0 := HG.out
  have hs0 := HB0.out.size
  have hs1 := HB1.out.size
  have hsz := HSZ.out
  have hU : ∀ b, b ≠ g → b ≠ g' → ¬ U5 (fun k => k = g) (fun k => k = g') (fun _ => False) (fun _ => False) (fun _ => False) b := by
    rintro b h1 h2 ((h | h) | h | h | h)
    · exact h1 h
    · exact h2 h
    · exact h
    · exact h
    · exact h
  have HP : Aside0 (Pm w w3 g g' (fun k => k = g) (fun k => k = g') (fun _ => False) (fun _ => False) (fun _ => False) (newTk M A) (newTk M A) (.slice none 0 0) (.slice none 0 0) (.slice none 0 0) [] [] []) := Aside0.mk
    ⟨⟨hk2a.below hb23, hk2.below hb23, fun k e e' => by omega, fun k e => by omega, fun k e => by omega, fun k e => by omega, below_then hB02 hB02.size hb23⟩, Kd.R_nil _ _ _ _ _, Kd.R_nil _ _ _ _ _, Kd.R_nil _ _ _ _ _, fun k h => h.elim, fun k h => h.elim, fun k h => h.elim, fun k h => by simp at h, fun k h => by simp at h⟩
  have HBX : Aside0 (Bx w w3 (U5 (fun k => k = g) (fun k => k = g') (fun _ => False) (fun _ => False) (fun _ => False)) (w.heap.size + 1) (w.heap.size + 1 + 1) (w2.heap.size + 1) (w2.heap.size + 1 + 1) 0 0 (.slice none 0 0) (.slice none 0 0)) := Aside0.mk
    ⟨⟨blk_below hx6 hb23, hU _ (by omega) (by omega)⟩, ⟨blk_below hx7 hb23, hU _ (by omega) (by omega)⟩, ⟨hx12, hU _ (by omega) (by omega)⟩, ⟨hx13, hU _ (by omega) (by omega)⟩, ⟨by omega, by omega, by omega⟩, by omega⟩
  generalize w.heap.size + 1 + 1 = b7 at HBX ⊢
  generalize w.heap.size + 1 = b6 at HBX ⊢
  generalize w2.heap.size + 1 + 1 = b13 at HBX ⊢
  generalize w2.heap.size + 1 = b12 at HBX ⊢
  clear hU hsz hs1 hs0 hg0 hs23 hlt3 hx12 hx13 hb23 hx6 hx7 hB02 hg2 hsz2 hlt1 hk2a hb2 hg' hk2 HSZ HG HK1 HB1 HB0 HX7 HX6
  go_loopw [14, 15] (fun v14 v15 wr => ∃ (k na nb : Nat) (ta tb : Tk) (Sa Sb Ga Gb Wp : Nat → Prop) (va vb : Value) (la lb : List (List Int)) (ps : List S87), v15 = .int .i64 (k : Int) ∧ Aside0 (Inv 0 1 true M A k na nb ta tb la lb ps) ∧ Aside0 (ta.got = [] ∧ tb.got = [] ∧ na ≤ k ∧ nb ≤ k ∧ ps.length ≤ k ∧ k ≤ 120) ∧ Aside0 (Pm w wr g g' Sa Sb Ga Gb Wp ta tb va vb v14 la lb ps) ∧ Aside0 (Bx w wr (U5 Sa Sb Ga Gb Wp) b6 b7 b12 b13 na nb va vb)) (fun v14 v15 wr => 120 - (intOf v15).toNat)
  case atStart => exact ⟨0, 0, 0, _, _, _, _, _, _, _, _, _, _, _, _, rfl, ⟨Inv.init M A HCA.out 0 1 true⟩, ⟨by simp⟩, HP, HBX⟩
  case round =>
    clear HP HBX
    obtain ⟨k, na, nb, ta, tb, Sa, Sb, Ga, Gb, Wp, va, vb, la, lb, ps, rfl, HI, HQ, HP, HBX⟩ := hrel
    obtain ⟨A14, c14, rfl⟩ := Kd.R_slice HP.out.rw
    by_cases hlt : k < deeds.length ∧ k < 120
    · have h1 : decide ((k : Int) < (deeds.length : Int)) = true := decide_eq_true (by omega)
      have h2 : decide ((k : Int) < 120) = true := decide_eq_true (by omega)
      have hk0 : (0 : Int) ≤ (k : Int) := by omega
      have q1 : (k : Int) < (deeds.length : Int) := by omega
      have q2 : (k : Int) < 120 := by omega
      obtain ⟨ad, rfl, hx, hx'⟩ := at_T85 HD.out (k : Int) hk0 q1
      have hx := pw_cell_below HP.out.two.fr hx
      have hx' := pw_cell_below HP.out.two.fr hx'
      simp only [Int.toNat_natCast] at hx hx'
      generalize rd_T85 deeds (k : Int) = dd at hx hx'
      go_upto_if 56 with fail
      have HPd := Aside0.mk (HP.out.below (below_alloc (Below.refl _ _) (.cells #[.int .i64 dd.f0, .int .i64 dd.f1] 85)))
      have HBd := Aside0.mk (HBX.out.went (Went.of_below (below_alloc (Below.refl _ _) (.cells #[.int .i64 dd.f0, .int .i64 dd.f1] 85))))
      have hxd := blk_new wr (.cells #[.int .i64 dd.f0, .int .i64 dd.f1] 85)
      generalize wr.heap.size = db at hxd ⊢
      generalize wr.alloc _ = wd at HPd HBd hxd ⊢
      have HXD := Aside0.mk hxd
      clear hxd HP HBX hx hx' h1 h2 hk0 q1 q2
      go_cut [17] (fun v17 wc => ∃ kk : Nat, v17 = .int .i64 (kk : Int) ∧ Aside0 (ps.length = 0 ∨ kk < ps.length) ∧ wd = wc)
      case first =>
        have z1 : wd.cell? ⟨db, 1, none⟩ = some (.int .i64 dd.f1) := blk_cell HXD.out 1
        by_cases hp0 : ps.length = 0
        · have hc1 : decide ((0 : Int) < (ps.length : Int)) = false := decide_eq_false (by omega)
          have hc2 : ¬ 0 < ps.length := by omega
          have hc3 : ¬ (0 : Int) < (ps.length : Int) := by omega
          have HP0 := Aside0.mk hp0
          clear hp0
          go_wp2
          go_meet
          exact ⟨0, rfl, ⟨.inl HP0.out⟩, rfl⟩
        · have hc1 : decide ((0 : Int) < (ps.length : Int)) = true := decide_eq_true (by omega)
          have hc2 : 0 < ps.length := by omega
          have hc3 : (0 : Int) < (ps.length : Int) := by omega
          have hc4 : ¬ (ps.length : Int) = 0 := by omega
          have hc6 : ((ps.length : Int) == 0) = false := by rw [beq_eq_false_iff_ne]; omega
          have hc5 : IntKind.u64.wrap (ps.length : Int) = (ps.length : Int) := by
            show (ps.length : Int) % 18446744073709551616 = _
            have := HQ.out
            omega
          obtain ⟨kk, hkk, hkl⟩ := mod_nat dd.f1 ps.length hc2 (by have := HQ.out; omega)
          go_wp2
          go_meet
          exact ⟨kk, by rw [hkk], ⟨.inr hkl⟩, rfl⟩
      case rest =>
        obtain ⟨kk, rfl, HKK, rfl⟩ := hcut
        have z0 : wd.cell? ⟨db, 0, none⟩ = some (.int .i64 dd.f0) := blk_cell HXD.out 0
        go_upto_block 2 with fail
        clear z0 HXD
        obtain ⟨zk, hzk, hzl⟩ : ∃ zk : Nat, wrap64 ((IntKind.u64.wrap dd.f0).tmod 6) = (zk : Int) ∧ zk < 6 := mod_nat dd.f0 6 (by omega) (by omega)
        rw [hzk]
        clear hzk
        go_cut [14] (fun v14 wc => ∃ (na' nb' : Nat) (ta' tb' : Tk) (Sa' Sb' Wp' : Nat → Prop) (ps' : List S87), Aside0 (Inv 0 1 true M A k na' nb' ta' tb' la lb ps') ∧ Aside0 (na' ≤ k + 1 ∧ nb' ≤ k + 1 ∧ ps'.length ≤ k + 1) ∧ Aside0 (Pm w wc g g' Sa' Sb' Ga Gb Wp' ta' tb' va vb v14 la lb ps') ∧ Aside0 (Bx w wc (U5 Sa' Sb' Ga Gb Wp') b6 b7 b12 b13 na' nb' va vb))
        case first =>
          rcases (show zk = 0 ∨ zk = 1 ∨ zk = 2 ∨ zk = 3 ∨ zk = 4 ∨ zk = 5 by omega) with rfl | rfl | rfl | rfl | rfl | rfl
          · have c0 : wd.cell? ⟨b12, 0, none⟩ = some (.int .i64 (na : Int)) := blk_cell HBd.out.x12.at_ 0
            have hn120 : na ≤ 120 := by have := HQ.out; omega
            go_wp2_with fail
            clear c0
            refine (word_ok 0 na (by omega) _).mono ?_
            rintro e w3 ⟨A3, c3, rfl, hC3, hc3, hb3⟩
            have HP3 := Aside0.mk (HPd.out.below hb3)
            have HB3 := Aside0.mk (HBd.out.went (Went.of_below hb3))
            have HC3 := Aside0.mk hC3
            have HH3 := Aside0.mk hc3
            clear hb3 hC3 hc3
            go_wp2_with fail
            by_cases hw : (ta.wait.length : Int) < ta.most
            · have HI4 := HI.out.say hw
              refine (HP3.out.say A3 c3 (wordL 0 na) HC3.out HH3.out (by simp [wordL]) hw HI.out.ab.most64 (by rw [HI.out.ab.said]; omega)).mono ?_
              rintro e w4 ⟨rfl, S4, h4, hw4⟩
              have HP4 := Aside0.mk (h4)
              have HB4 := Aside0.mk (HB3.out.went hw4)
              have HI4 := Aside0.mk (HI4)
              have c0 : w4.cell? ⟨b12, 0, none⟩ = some (.int .i64 (na : Int)) := blk_cell HB4.out.x12.at_ 0
              have c1 : w4.frozen? ⟨b12, 0, none⟩ = false := blk_frozen HB4.out.x12.at_ 0
              clear h4 hw4 hw HP3 HB3
              have hkw : wrap64 ((na : Int) + 1) = (na : Int) + 1 := by unfold wrap64; omega
              have hkw2 : IntKind.i64.wrap ((na : Int) + 1) = (na : Int) + 1 := IntWalk.i64_in _ (by omega)
              go_wp2
              go_meet
              have hne := HB4.out.ne
              have hf5 : Fr (fun k => k = b12) w4 (w4.setCell ⟨b12, 0, none⟩ (.int .i64 ((na : Int) + 1))) := Fr.setCell (S := fun k => k = b12) _ rfl _
              exact ⟨na + 1, nb, _, tb, _, Sb, Wp, ps, HI4, ⟨by have := HQ.out; omega, by have := HQ.out; omega, by have := HQ.out; omega⟩, ⟨HP4.out.far HB4.out.x12.far (by have := HB4.out.ge; omega) hf5⟩, ⟨⟨HB4.out.x6.other hf5 (by omega), HB4.out.x7.other hf5 (by omega), HB4.out.x12.put 0 (.int .i64 ((na : Int) + 1)) rfl, HB4.out.x13.other hf5 (by omega), hne, HB4.out.ge⟩⟩⟩
            · refine (HP3.out.say_full A3 3 c3 (by omega) (by omega)).mono ?_
              rintro e w4 ⟨rfl, h4, hw4⟩
              have HP4 := Aside0.mk (h4)
              have HB4 := Aside0.mk (HB3.out.went hw4)
              clear h4 hw4 hw HP3 HB3
              go_wp2
              go_meet
              exact ⟨na, nb, ta, tb, Sa, Sb, Wp, ps, HI, ⟨by have := HQ.out; omega, by have := HQ.out; omega, by have := HQ.out; omega⟩, HP4, HB4⟩
          · have c0 : wd.cell? ⟨b12, 1, none⟩ = some (.int .i64 (nb : Int)) := blk_cell HBd.out.x12.at_ 1
            have hn120 : nb ≤ 120 := by have := HQ.out; omega
            go_wp2_with fail
            clear c0
            refine (word_ok 1 nb (by omega) _).mono ?_
            rintro e w3 ⟨A3, c3, rfl, hC3, hc3, hb3⟩
            have HP3 := Aside0.mk (HPd.out.swap.below hb3)
            have HB3 := Aside0.mk (HBd.out.went (Went.of_below hb3))
            have HC3 := Aside0.mk hC3
            have HH3 := Aside0.mk hc3
            clear hb3 hC3 hc3
            go_wp2_with fail
            by_cases hw : (tb.wait.length : Int) < tb.most
            · have HI4 := HI.out.swap.say hw
              refine (HP3.out.say A3 c3 (wordL 1 nb) HC3.out HH3.out (by simp [wordL]) hw HI.out.swap.ab.most64 (by rw [HI.out.swap.ab.said]; omega)).mono ?_
              rintro e w4 ⟨rfl, S4, h4, hw4⟩
              have HP4 := Aside0.mk (h4.swap)
              have HB4 := Aside0.mk (HB3.out.went (Went.sw0 hw4))
              have HI4 := Aside0.mk (HI4.swap)
              have c0 : w4.cell? ⟨b12, 1, none⟩ = some (.int .i64 (nb : Int)) := blk_cell HB4.out.x12.at_ 1
              have c1 : w4.frozen? ⟨b12, 1, none⟩ = false := blk_frozen HB4.out.x12.at_ 1
              clear h4 hw4 hw HP3 HB3
              have hkw : wrap64 ((nb : Int) + 1) = (nb : Int) + 1 := by unfold wrap64; omega
              have hkw2 : IntKind.i64.wrap ((nb : Int) + 1) = (nb : Int) + 1 := IntWalk.i64_in _ (by omega)
              go_wp2
              go_meet
              have hne := HB4.out.ne
              have hf5 : Fr (fun k => k = b12) w4 (w4.setCell ⟨b12, 1, none⟩ (.int .i64 ((nb : Int) + 1))) := Fr.setCell (S := fun k => k = b12) _ rfl _
              exact ⟨na, nb + 1, ta, _, Sa, _, Wp, ps, HI4, ⟨by have := HQ.out; omega, by have := HQ.out; omega, by have := HQ.out; omega⟩, ⟨HP4.out.far HB4.out.x12.far (by have := HB4.out.ge; omega) hf5⟩, ⟨⟨HB4.out.x6.other hf5 (by omega), HB4.out.x7.other hf5 (by omega), HB4.out.x12.put 1 (.int .i64 ((nb : Int) + 1)) rfl, HB4.out.x13.other hf5 (by omega), hne, HB4.out.ge⟩⟩⟩
            · refine (HP3.out.say_full A3 3 c3 (by omega) (by omega)).mono ?_
              rintro e w4 ⟨rfl, h4, hw4⟩
              have HP4 := Aside0.mk (h4.swap)
              have HB4 := Aside0.mk (HB3.out.went (Went.sw0 hw4))
              clear h4 hw4 hw HP3 HB3
              go_wp2
              go_meet
              exact ⟨na, nb, ta, tb, Sa, Sb, Wp, ps, HI, ⟨by have := HQ.out; omega, by have := HQ.out; omega, by have := HQ.out; omega⟩, HP4, HB4⟩
          · by_cases hdue : dueB ta (k : Int) = true
            · have HI5 := HI.out.tick (k : Int) (by omega) (Int.le_refl _)
              have hsh := HI.out.ab.short
              have hwl : ta.wait.length < 1000000 := by have := HI.out.ab.most; have := HI.out.ab.most64; omega
              go_wp2_with fail
              refine (HPd.out.tick_yes k (by omega) (by have := HI.out.ca; omega) hdue hwl (fun m hm => by rw [hsh m hm]; omega)).mono ?_
              rintro e w4 ⟨A4, c4, rfl, S4, h4, hw4, hR4, hU4⟩
              have hlt5 : w4.heap.size ≤ (w4.alloc (.cells #[.int .i64 ta.done, .slice A4 ta.wait.length c4, .int .i64 ta.heard] 36)).heap.size := (below_alloc (Below.refl _ _) _).size
              have HP4 := Aside0.mk (h4.below (below_alloc (Below.refl _ _) (.cells #[.int .i64 ta.done, .slice A4 ta.wait.length c4, .int .i64 ta.heard] 36)))
              have HB4 := Aside0.mk ((HBd.out.went (Went.more hw4)).went (Went.of_below (below_alloc (Below.refl _ _) (.cells #[.int .i64 ta.done, .slice A4 ta.wait.length c4, .int .i64 ta.heard] 36))))
              have HR4 := Aside0.mk (Kd.R_below hR4 (below_alloc (Below.refl _ _) (.cells #[.int .i64 ta.done, .slice A4 ta.wait.length c4, .int .i64 ta.heard] 36)))
              have hx4 := blk_new w4 (.cells #[.int .i64 ta.done, .slice A4 ta.wait.length c4, .int .i64 ta.heard] 36)
              have HSo := Aside0.mk (fun k (hk : wd.heap.size ≤ k ∧ k < w4.heap.size) => (show ¬ U5 _ _ Ga Gb Wp k ∧ k < (w4.alloc (.cells #[.int .i64 ta.done, .slice A4 ta.wait.length c4, .int .i64 ta.heard] 36)).heap.size ∧ w.heap.size ≤ k from ⟨fun hu => by have := hU4 k hu; omega, by omega, Nat.le_trans HPd.out.two.fr.size hk.1⟩))
              have HWP := Aside0.mk (fun k (hk : Wp k) => HPd.out.lt k (.inr (.inr hk)))
              have HI5 := Aside0.mk (HI5)
              have HPS := Aside0.mk (show (ps.length + 1) * 48 ≤ 140737488355328 by have := HQ.out; omega)
              have HSZ := Aside0.mk (show wd.heap.size ≤ (w4.alloc (.cells #[.int .i64 ta.done, .slice A4 ta.wait.length c4, .int .i64 ta.heard] 36)).heap.size from Nat.le_trans hw4.fr.size hlt5)
              clear h4 hw4 hR4 hU4 hdue hsh hwl
              go_upto_if 102 with fail
              have HLT5 := Aside0.mk hlt5
              clear hlt5
              generalize w4.heap.size = pb at hx4 HR4 HSo HLT5 HB4 ⊢
              generalize w4.alloc _ = w5 at hx4 HR4 HP4 HB4 HSo HSZ HLT5 ⊢
              have y0 := blk_cell hx4 0
              have y1 := blk_cell hx4 1
              have y2 := blk_cell hx4 2
              clear hx4
              go_wp2_with ((with_reducible refine gate_builtin (b := .append) (xs := #[.tmp 103, .tmp 106]) rfl ?_); at_builtin; refine Kd.R_append k87 (w0 := w5) 0 rfl (.tmp 103) (.tmp 106) 83 87 (.agg #[.int .i64 0, .slice none 0 0, .int .i64 0, .bool false]) 48 rfl Try.underlying83 info87' rfl (by decide) (by omega) (.slice A14 ps.length c14) ps ⟨⟨ta.done, ta.wait, ta.heard⟩, true⟩ [.int .i64 ta.done, .slice A4 ta.wait.length c4, .int .i64 ta.heard, .bool true] (fun k => Wp k ∨ (wd.heap.size ≤ k ∧ k < pb) ∨ w5.heap.size ≤ k) (fun k => wd.heap.size ≤ k ∧ k < pb) rfl rfl (k87_mkM _ _ _ ⟨⟨ta.done, ta.wait, ta.heard⟩, true⟩ HR4.out) (fun k hk => ⟨.inr (.inl hk), fun e => by have := HWP.out k (HP4.out.rw.1 k e.symm); have := hk.1; omega⟩) (fun k hk => .inr (.inr hk)) (Kd.R_mono HP4.out.rw (fun _ h => .inl h)) ⟨rfl, rfl, rfl, Nat.le_refl _, fun k hk => by omega⟩ (Nat.zero_le _) HPS.out ?_; intro v1 w6 ho hb1 hg hat)
              have hA := HP4.out.addW HSo.out (Fr.of_grown hg (fun k hk => HP4.out.rw.1 k hk)) ho (fun k hk => hk)
              go_meet
              exact ⟨na, nb, _, tb, _, Sb, _, _, HI5, ⟨by have := HQ.out; omega, by have := HQ.out; omega, by have := HQ.out; simp; omega⟩, ⟨hA.1⟩, ⟨HB4.out.went hA.2⟩⟩
            · have hdf : dueB ta (k : Int) = false := by simpa using hdue
              clear hdue
              go_wp2_with fail
              refine (HPd.out.tick_no k (by omega) (by have := HI.out.ca; omega) hdf).mono ?_
              rintro e w4 ⟨rfl, h4, hw4⟩
              have HP4 := Aside0.mk (h4)
              have HB4 := Aside0.mk (HBd.out.went hw4)
              clear h4 hw4 hdf
              go_wp2
              go_meet
              exact ⟨na, nb, ta, tb, Sa, Sb, Wp, ps, HI, ⟨by have := HQ.out; omega, by have := HQ.out; omega, by have := HQ.out; omega⟩, ⟨HP4.out.below (below_alloc (Below.refl _ _) _)⟩, ⟨HB4.out.went (Went.of_below (below_alloc (Below.refl _ _) _))⟩⟩
          · by_cases hdue : dueB tb (k : Int) = true
            · have HI5 := HI.out.swap.tick (k : Int) (by omega) (Int.le_refl _)
              have hsh := HI.out.swap.ab.short
              have hwl : tb.wait.length < 1000000 := by have := HI.out.swap.ab.most; have := HI.out.swap.ab.most64; omega
              go_wp2_with fail
              refine (HPd.out.swap.tick_yes k (by omega) (by have := HI.out.swap.ca; omega) hdue hwl (fun m hm => by rw [hsh m hm]; omega)).mono ?_
              rintro e w4 ⟨A4, c4, rfl, S4, h4, hw4, hR4, hU4⟩
              have hlt5 : w4.heap.size ≤ (w4.alloc (.cells #[.int .i64 tb.done, .slice A4 tb.wait.length c4, .int .i64 tb.heard] 36)).heap.size := (below_alloc (Below.refl _ _) _).size
              have HP4 := Aside0.mk (h4.swap.below (below_alloc (Below.refl _ _) (.cells #[.int .i64 tb.done, .slice A4 tb.wait.length c4, .int .i64 tb.heard] 36)))
              have HB4 := Aside0.mk ((HBd.out.went (Went.more (Went.sw0 hw4))).went (Went.of_below (below_alloc (Below.refl _ _) (.cells #[.int .i64 tb.done, .slice A4 tb.wait.length c4, .int .i64 tb.heard] 36))))
              have HR4 := Aside0.mk (Kd.R_below hR4 (below_alloc (Below.refl _ _) (.cells #[.int .i64 tb.done, .slice A4 tb.wait.length c4, .int .i64 tb.heard] 36)))
              have hx4 := blk_new w4 (.cells #[.int .i64 tb.done, .slice A4 tb.wait.length c4, .int .i64 tb.heard] 36)
              have HSo := Aside0.mk (fun k (hk : wd.heap.size ≤ k ∧ k < w4.heap.size) => (show ¬ U5 _ _ Ga Gb Wp k ∧ k < (w4.alloc (.cells #[.int .i64 tb.done, .slice A4 tb.wait.length c4, .int .i64 tb.heard] 36)).heap.size ∧ w.heap.size ≤ k from ⟨fun hu => by have := hU4 k (U5.swap hu); omega, by omega, Nat.le_trans HPd.out.two.fr.size hk.1⟩))
              have HWP := Aside0.mk (fun k (hk : Wp k) => HPd.out.lt k (.inr (.inr hk)))
              have HI5 := Aside0.mk (HI5.swap)
              have HPS := Aside0.mk (show (ps.length + 1) * 48 ≤ 140737488355328 by have := HQ.out; omega)
              have HSZ := Aside0.mk (show wd.heap.size ≤ (w4.alloc (.cells #[.int .i64 tb.done, .slice A4 tb.wait.length c4, .int .i64 tb.heard] 36)).heap.size from Nat.le_trans hw4.fr.size hlt5)
              clear h4 hw4 hR4 hU4 hdue hsh hwl
              go_upto_if 116 with fail
              have HLT5 := Aside0.mk hlt5
              clear hlt5
              generalize w4.heap.size = pb at hx4 HR4 HSo HLT5 HB4 ⊢
              generalize w4.alloc _ = w5 at hx4 HR4 HP4 HB4 HSo HSZ HLT5 ⊢
              have y0 := blk_cell hx4 0
              have y1 := blk_cell hx4 1
              have y2 := blk_cell hx4 2
              clear hx4
              go_wp2_with ((with_reducible refine gate_builtin (b := .append) (xs := #[.tmp 117, .tmp 120]) rfl ?_); at_builtin; refine Kd.R_append k87 (w0 := w5) 0 rfl (.tmp 117) (.tmp 120) 83 87 (.agg #[.int .i64 0, .slice none 0 0, .int .i64 0, .bool false]) 48 rfl Try.underlying83 info87' rfl (by decide) (by omega) (.slice A14 ps.length c14) ps ⟨⟨tb.done, tb.wait, tb.heard⟩, false⟩ [.int .i64 tb.done, .slice A4 tb.wait.length c4, .int .i64 tb.heard, .bool false] (fun k => Wp k ∨ (wd.heap.size ≤ k ∧ k < pb) ∨ w5.heap.size ≤ k) (fun k => wd.heap.size ≤ k ∧ k < pb) rfl rfl (k87_mkM _ _ _ ⟨⟨tb.done, tb.wait, tb.heard⟩, false⟩ HR4.out) (fun k hk => ⟨.inr (.inl hk), fun e => by have := HWP.out k (HP4.out.rw.1 k e.symm); have := hk.1; omega⟩) (fun k hk => .inr (.inr hk)) (Kd.R_mono HP4.out.rw (fun _ h => .inl h)) ⟨rfl, rfl, rfl, Nat.le_refl _, fun k hk => by omega⟩ (Nat.zero_le _) HPS.out ?_; intro v1 w6 ho hb1 hg hat)
              have hA := HP4.out.addW HSo.out (Fr.of_grown hg (fun k hk => HP4.out.rw.1 k hk)) ho (fun k hk => hk)
              go_meet
              exact ⟨na, nb, ta, _, Sa, _, _, _, HI5, ⟨by have := HQ.out; omega, by have := HQ.out; omega, by have := HQ.out; simp; omega⟩, ⟨hA.1⟩, ⟨HB4.out.went hA.2⟩⟩
            · have hdf : dueB tb (k : Int) = false := by simpa using hdue
              clear hdue
              go_wp2_with fail
              refine (HPd.out.swap.tick_no k (by omega) (by have := HI.out.swap.ca; omega) hdf).mono ?_
              rintro e w4 ⟨rfl, h4, hw4⟩
              have HP4 := Aside0.mk (h4.swap)
              have HB4 := Aside0.mk (HBd.out.went (Went.sw0 hw4))
              clear h4 hw4 hdf
              go_wp2
              go_meet
              exact ⟨na, nb, ta, tb, Sa, Sb, Wp, ps, HI, ⟨by have := HQ.out; omega, by have := HQ.out; omega, by have := HQ.out; omega⟩, ⟨HP4.out.below (below_alloc (Below.refl _ _) _)⟩, ⟨HB4.out.went (Went.of_below (below_alloc (Below.refl _ _) _))⟩⟩
          · rcases HKK.out with hp0 | hkp
            · have hc1 : decide ((0 : Int) < (ps.length : Int)) = false := decide_eq_false (by omega)
              have hc2 : ¬ 0 < ps.length := by omega
              have hc3 : ¬ (0 : Int) < (ps.length : Int) := by omega
              clear hp0
              go_wp2
              all_goals
                go_meet
                exact ⟨na, nb, ta, tb, Sa, Sb, Wp, ps, HI, ⟨by have := HQ.out; omega, by have := HQ.out; omega, by have := HQ.out; omega⟩, HPd, HBd⟩
            · have hc1 : decide ((0 : Int) < (ps.length : Int)) = true := decide_eq_true (by omega)
              have hc2 : 0 < ps.length := by omega
              have hc3 : (0 : Int) < (ps.length : Int) := by omega
              have q0 : (0 : Int) ≤ (kk : Int) := by omega
              have q1 : (kk : Int) < (ps.length : Int) := by omega
              obtain ⟨ad2, c2, A4, c4, hvw, x0, x1, x2, x3, hF⟩ := HPd.out.says kk hkp
              have hmem : ps[kk] ∈ ps := List.getElem_mem hkp
              generalize ps[kk] = p at x0 x1 x2 x3 hF hmem
              injection hvw with e1 e2 e3
              subst e1 e3
              clear e2 hkp
              cases hpf : p.f1
              · have hseg := HI.out.pa p hmem (by rw [hpf]; rfl)
                rw [hpf] at x3
                obtain ⟨hnr, HI5⟩ := HI.out.hear p.f0 hseg.1 hseg.2
                have hbad := HI.out.badP p.f0 hseg.1
                have hack := HI.out.ackd p.f0 hseg.1
                have hfit := HI.out.fit (by have := HQ.out; omega) (by have := HQ.out; omega)
                have HI5 := Aside0.mk (HI5)
                have HZ := Aside0.mk (show Free wd _ _ _ ∧ badP p.f0.f0 p.f0.f2 p.f0.f1 = false ∧ _ ∧ Fit _ ∧ _ from ⟨hF, hbad, hack, hfit, Int.not_lt.1 hnr⟩)
                clear hseg hbad hack hfit hnr hF hmem hpf
                go_wp2_with fail
                refine (HPd.out.hear p.f0.f0 p.f0.f2 A4 c4 p.f0.f1 HZ.out.1 HZ.out.2.1 HZ.out.2.2.1 HZ.out.2.2.2.1 (Int.not_lt.2 HZ.out.2.2.2.2)).mono ?_
                rintro e w4 ⟨rfl, S4, h4, hw4⟩
                have HP4 := Aside0.mk (h4)
                have HB4 := Aside0.mk (HBd.out.went hw4)
                clear h4 hw4
                go_wp2
                go_meet
                exact ⟨na, nb, _, tb, _, Sb, Wp, ps, HI5, ⟨by have := HQ.out; omega, by have := HQ.out; omega, by have := HQ.out; omega⟩, HP4, HB4⟩
              · have hseg := HI.out.pb p hmem hpf
                rw [hpf] at x3
                obtain ⟨hnr, HI5⟩ := HI.out.swap.hear p.f0 hseg.1 hseg.2
                have hbad := HI.out.swap.badP p.f0 hseg.1
                have hack := HI.out.swap.ackd p.f0 hseg.1
                have hfit := HI.out.swap.fit (by have := HQ.out; omega) (by have := HQ.out; omega)
                have HI5 := Aside0.mk (HI5.swap)
                have HZ := Aside0.mk (show Free wd _ _ _ ∧ badP p.f0.f0 p.f0.f2 p.f0.f1 = false ∧ _ ∧ Fit _ ∧ _ from ⟨hF.swap, hbad, hack, hfit, Int.not_lt.1 hnr⟩)
                clear hseg hbad hack hfit hnr hF hmem hpf
                go_wp2_with fail
                refine (HPd.out.swap.hear p.f0.f0 p.f0.f2 A4 c4 p.f0.f1 HZ.out.1 HZ.out.2.1 HZ.out.2.2.1 HZ.out.2.2.2.1 (Int.not_lt.2 HZ.out.2.2.2.2)).mono ?_
                rintro e w4 ⟨rfl, S4, h4, hw4⟩
                have HP4 := Aside0.mk (h4.swap)
                have HB4 := Aside0.mk (HBd.out.went (Went.sw0 hw4))
                clear h4 hw4
                go_wp2
                go_meet
                exact ⟨na, nb, ta, _, Sa, _, Wp, ps, HI5, ⟨by have := HQ.out; omega, by have := HQ.out; omega, by have := HQ.out; omega⟩, HP4, HB4⟩
          · rcases HKK.out with hp0 | hkp
            · have hc1 : decide ((0 : Int) < (ps.length : Int)) = false := decide_eq_false (by omega)
              have hc2 : ¬ 0 < ps.length := by omega
              have hc3 : ¬ (0 : Int) < (ps.length : Int) := by omega
              clear hp0
              go_wp2
              all_goals
                go_meet
                exact ⟨na, nb, ta, tb, Sa, Sb, Wp, ps, HI, ⟨by have := HQ.out; omega, by have := HQ.out; omega, by have := HQ.out; omega⟩, HPd, HBd⟩
            · have hc1 : decide ((0 : Int) < (ps.length : Int)) = true := decide_eq_true (by omega)
              have hc2 : 0 < ps.length := by omega
              have hc3 : (0 : Int) < (ps.length : Int) := by omega
              have HKL := Aside0.mk hkp
              obtain ⟨A', c', he, hcl, hrow⟩ := HPd.out.rw.2.reads
              injection he with e1 e2 e3
              subst e1 e3
              have hs1 := fun W => run_take83 A14 c14 ps.length kk (Nat.le_of_lt hkp) (by omega) W
              have hs2 := fun W => run_drop83 A14 c14 ps.length (kk + 1) hkp (by omega) W
              have hkw : wrap64 ((kk : Int) + 1) = (kk : Int) + 1 := by have := HQ.out; unfold wrap64; omega
              have hkw2 : IntKind.i64.wrap ((kk : Int) + 1) = (kk : Int) + 1 := IntWalk.i64_in _ (by have := HQ.out; omega)
              have HT := Aside0.mk (reads_take hrow kk (Nat.le_of_lt hkp))
              have HDr := Aside0.mk (reads_drop hrow (kk + 1) hkp hcl)
              have HWP := Aside0.mk (fun k (hk : Wp k) => HPd.out.lt k (.inr (.inr hk)))
              have HPS := Aside0.mk (show (0 + kk) * 48 ≤ 140737488355328 ∧ ((ps.take kk).length + (ps.length - (kk + 1))) * 48 ≤ 140737488355328 by rw [List.length_take]; have := HQ.out; omega)
              have HNE := Aside0.mk (fun k (hk : (Value.slice A14 ps.length c14).ownBlock = some k) => HPd.out.rw.1 k hk)
              obtain ⟨A', hA'⟩ : ∃ A', A' = (if c14 = kk + 1 then A14 else A14.map (·.add ((kk + 1) * 4))) := ⟨_, rfl⟩
              have hs2 : ∀ W : World, (Instr.slice 83 (.slice A14 ps.length c14) (some (.int .i64 ((kk : Int) + 1))) none none).run Try.prog W = .ok (.slice A' (ps.length - (kk + 1)) (c14 - (kk + 1))) W := fun W => by rw [hA']; exact hs2 W
              have HDr : Aside0 (ReadsRow (k87.M wd 0 fun k => Wp k ∧ some k ≠ (Value.slice A14 ps.length c14).ownBlock) 4 wd A' (ps.length - (kk + 1)) (ps.drop (kk + 1))) := ⟨by rw [hA']; exact HDr.out⟩
              clear hrow hcl hA' hkp; try clear e2
              go_upto_region 37 with fail
              have hB1 : Below wd.heap.size wd (wd.drew.alloc (.cells #[] 87)) := below_alloc (below_drew (Below.refl _ _)) _
              have HO1 : Aside0 (k87.R 87 (wd.drew.alloc (.cells #[] 87)) 0 (fun k => Wp k ∨ wd.heap.size ≤ k) (.slice (some ⟨wd.heap.size, 0, none⟩) 0 0) []) := ⟨fun k hk => .inr (Nat.le_of_eq (own0 hk).symm), [], ⟨rfl, .inr ⟨wd.heap.size, 0, #[], rfl, Nat.zero_le _, blk_new wd.drew _, Nat.le_refl _, by decide, rfl, rfl⟩⟩, Reps.none _ _⟩
              have HB1' := Aside0.mk hB1
              have HT1 := Aside0.mk (ReadsRow.imp_ HT.out hB1 (fun _ _ h => Kd.M_below h hB1))
              have HOK1 := Aside0.mk (fun k (hk : Wp k ∧ some k ≠ (Value.slice A14 ps.length c14).ownBlock) => (show (Wp k ∨ wd.heap.size ≤ k) ∧ some k ≠ (Value.slice (some ⟨wd.heap.size, 0, none⟩) 0 0).ownBlock from ⟨.inl hk.1, fun e => Nat.lt_irrefl _ ((own0 e.symm) ▸ HWP.out k hk.1)⟩))
              have HB1 := Aside0.mk hB1
              clear hB1
              refine start_ (n := 11) (S := fun w' => True) (ds := []) #[false, false, false, false, false, false, false, false, false, false, false] (by kernel_rfl) rfl rfl trivial (fun hHeld => ?_)
              refine pure_ (i := 1) (N := some 157) (v := ?_) (a' := ?_) #[false, true, false, false, false, false, false, false, false, false, false] rfl rfl (by kernel_rfl) (fun _ _ _ h => h) (Or.inl ⟨by rfl, ?_⟩) ?_ ?_
              rotate_left
              · intro w'
                go_simp
                with_reducible rfl
              rotate_left
              · simp only [Act.put, List.setIfInBounds_toArray, List.set_cons_zero, List.set_cons_succ, i64_w, i32_w]
                rfl
              refine pure_ (i := 2) (N := some 158) (v := ?_) (a' := ?_) #[false, true, true, false, false, false, false, false, false, false, false] rfl rfl (by kernel_rfl) (fun _ _ _ h => h) (Or.inl ⟨by rfl, ?_⟩) ?_ ?_
              rotate_left
              · intro w'
                go_simp
                with_reducible rfl
              rotate_left
              · simp only [Act.put, List.setIfInBounds_toArray, List.set_cons_zero, List.set_cons_succ, i64_w, i32_w]
                rfl
              refine pure_ (i := 3) (N := some 159) (v := ?_) (a' := ?_) #[false, true, true, true, false, false, false, false, false, false, false] rfl rfl (by kernel_rfl) (fun _ _ _ h => h) (Or.inl ⟨by rfl, ?_⟩) ?_ ?_
              rotate_left
              · intro w'
                go_simp
                with_reducible rfl
              rotate_left
              · simp only [Act.put, List.setIfInBounds_toArray, List.set_cons_zero, List.set_cons_succ, i64_w, i32_w]
                rfl
              refine pure_ (i := 5) (N := some 161) (v := ?_) (a' := ?_) #[false, true, true, true, false, true, false, false, false, false, false] rfl rfl (by kernel_rfl) (fun _ _ _ h => h) (Or.inl ⟨by rfl, ?_⟩) ?_ ?_
              rotate_left
              · intro w'
                go_simp
                with_reducible rfl
              rotate_left
              · simp only [Act.put, List.setIfInBounds_toArray, List.set_cons_zero, List.set_cons_succ, i64_w, i32_w]
                rfl
              refine pure_ (i := 6) (N := some 162) (v := ?_) (a' := ?_) #[false, true, true, true, false, true, true, false, false, false, false] rfl rfl (by kernel_rfl) (fun _ _ _ h => h) (Or.inl ⟨by rfl, ?_⟩) ?_ ?_
              rotate_left
              · intro w'
                go_simp
                with_reducible rfl
              rotate_left
              · simp only [Act.put, List.setIfInBounds_toArray, List.set_cons_zero, List.set_cons_succ, i64_w, i32_w]
                rfl
              refine pure_ (i := 7) (N := some 163) (v := ?_) (a' := ?_) #[false, true, true, true, false, true, true, true, false, false, false] rfl rfl (by kernel_rfl) (fun _ _ _ h => h) (Or.inl ⟨by rfl, ?_⟩) ?_ ?_
              rotate_left
              · intro w'
                go_simp
                with_reducible rfl
              rotate_left
              · simp only [Act.put, List.setIfInBounds_toArray, List.set_cons_zero, List.set_cons_succ, i64_w, i32_w]
                rfl
              refine pure_ (i := 8) (N := some 164) (v := ?_) (a' := ?_) #[false, true, true, true, false, true, true, true, true, false, false] rfl rfl (by kernel_rfl) (fun _ _ _ h => h) (Or.inl ⟨by rfl, ?_⟩) ?_ ?_
              rotate_left
              · intro w'
                go_simp
                with_reducible rfl
              rotate_left
              · simp only [Act.put, List.setIfInBounds_toArray, List.set_cons_zero, List.set_cons_succ, i64_w, i32_w]
                rfl
              refine one_ (i := 0) (N := some 156) #[true, true, true, true, false, true, true, true, true, false, false] rfl rfl (by kernel_rfl) (by decide) (fun K hK => ?_)
              refine value_ (w1 := ?_) (v := ?_) (by rfl) rfl ?_ ?_
              rotate_left 2
              · go_simp
                constructor
                · rfl
                · rfl
              refine hK.out _ _ trivial (fun hHeld => ?_)
              clear hK K
              refine norm_ (a' := ?_) ?_ ?_
              rotate_left
              · show Act.put _ (some 156) _ = _
                simp only [Act.put, List.setIfInBounds_toArray, List.set_cons_zero, List.set_cons_succ, i64_w, i32_w]
                rfl
              refine one_ (i := 4) (N := some 160) #[true, true, true, true, true, true, true, true, true, false, false] rfl rfl (by kernel_rfl) (by decide) (fun K hK => ?_)
              refine Kd.R_append_rows_step k87 (w0 := wd) 0 (by rfl) (.tmp 156) (.tmp 159) 83 87 (.agg #[.int .i64 0, .slice none 0 0, .int .i64 0, .bool false]) 48 (by rfl) Try.underlying83 info87' rfl (by decide) (by omega) (.slice (some ⟨wd.heap.size, 0, none⟩) 0 0) [] (ps.take kk) A14 kk c14 (fun k => Wp k ∨ wd.heap.size ≤ k) (fun k => Wp k ∧ some k ≠ (Value.slice A14 ps.length c14).ownBlock) (by rfl) (by rfl) HO1.out HT1.out (fun _ _ h => h) HOK1.out (fun k hk => .inr (Nat.le_trans HB1.out.size hk)) ⟨HB1.out.os, HB1.out.tape, HB1.out.output, HB1.out.size, fun k hk => by omega⟩ (Nat.zero_le _) HPS.out.1 ?_
              intro v3 w3 ho3 hb3 hg3 hat3
              have HO3 := Aside0.mk ho3
              have HB3 := Aside0.mk (below_row HB1.out hg3 (fun k hk => Nat.le_of_eq (own0 hk).symm))
              have HV3 := Aside0.mk (own_ge HB1.out.size hat3)
              have HDr3 := Aside0.mk (ReadsRow.imp_ HDr.out HB3.out (fun _ _ h => Kd.M_below h HB3.out))
              have HOK3 := Aside0.mk (fun k (hk : Wp k ∧ some k ≠ (Value.slice A14 ps.length c14).ownBlock) => (show (Wp k ∨ wd.heap.size ≤ k) ∧ some k ≠ v3.ownBlock from ⟨.inl hk.1, fun e => Nat.not_lt.2 (HV3.out k e.symm) (HWP.out k hk.1)⟩))
              clear ho3 hb3 hg3 hat3
              refine hK.out _ _ trivial (fun hHeld => ?_)
              clear hK K
              refine norm_ (a' := ?_) ?_ ?_
              rotate_left
              · show Act.put _ (some 160) _ = _
                simp only [Act.put, List.setIfInBounds_toArray, List.set_cons_zero, List.set_cons_succ, i64_w, i32_w]
                rfl
              refine one_ (i := 9) (N := some 165) #[true, true, true, true, true, true, true, true, true, true, false] rfl rfl (by kernel_rfl) (by decide) (fun K hK => ?_)
              refine Kd.R_append_rows_step k87 (w0 := wd) 0 (by rfl) (.tmp 160) (.tmp 164) 83 87 (.agg #[.int .i64 0, .slice none 0 0, .int .i64 0, .bool false]) 48 (by rfl) Try.underlying83 info87' rfl (by decide) (by omega) v3 (ps.take kk) (ps.drop (kk + 1)) A' (ps.length - (kk + 1)) (c14 - (kk + 1)) (fun k => Wp k ∨ wd.heap.size ≤ k) (fun k => Wp k ∧ some k ≠ (Value.slice A14 ps.length c14).ownBlock) (by rfl) (by rfl) HO3.out HDr3.out (fun _ _ h => h) HOK3.out (fun k hk => .inr (Nat.le_trans HB3.out.size hk)) ⟨HB3.out.os, HB3.out.tape, HB3.out.output, HB3.out.size, fun k hk => by omega⟩ (Nat.zero_le _) HPS.out.2 ?_
              intro v4 w4 ho4 hb4 hg4 hat4
              have HO4 := Aside0.mk ho4
              have HB4 := Aside0.mk (below_row HB3.out hg4 HV3.out)
              clear ho4 hb4 hg4 hat4
              refine hK.out _ _ trivial (fun hHeld => ?_)
              clear hK K
              refine norm_ (a' := ?_) ?_ ?_
              rotate_left
              · show Act.put _ (some 165) _ = _
                simp only [Act.put, List.setIfInBounds_toArray, List.set_cons_zero, List.set_cons_succ, i64_w, i32_w]
                rfl
              refine pure_ (i := 10) (N := some 14) (v := ?_) (a' := ?_) #[true, true, true, true, true, true, true, true, true, true, true] rfl rfl (by kernel_rfl) (fun _ _ _ h => h) (Or.inl ⟨by rfl, ?_⟩) ?_ ?_
              rotate_left
              · intro w'
                go_simp
                with_reducible rfl
              rotate_left
              · simp only [Act.put, List.setIfInBounds_toArray, List.set_cons_zero, List.set_cons_succ, i64_w, i32_w]
                rfl
              refine done_ (by kernel_rfl) ?_
              go_wp2
              go_meet
              have hA := HPd.out.setW (Fr.of_below HB4.out) HO4.out (fun k hk => hk)
              exact ⟨na, nb, ta, tb, Sa, Sb, _, _, ⟨HI.out.fewer (fun p hp => (List.mem_append.1 hp).elim List.mem_of_mem_take List.mem_of_mem_drop)⟩, ⟨by have := HQ.out; omega, by have := HQ.out; omega, by have := HQ.out; rw [List.length_append, List.length_take, List.length_drop]; omega⟩, ⟨hA.1⟩, ⟨HBd.out.went hA.2⟩⟩
        case rest =>
          obtain ⟨na', nb', ta', tb', Sa', Sb', Wp', ps', HI', HN', HP', HB'⟩ := hcut
          go_upto_region 38 with fail
          obtain ⟨Aa, ca, rfl⟩ := Kd.R_slice HP'.out.ra
          obtain ⟨Ab, cb, rfl⟩ := Kd.R_slice HP'.out.rb
          have HLla := Aside0.mk (show (la.length + ta'.got.length) * 24 ≤ 140737488355328 by
            have := congrArg List.length HI'.out.ba.all
            rw [List.length_append, List.length_take, wordsL_len] at this
            have := HN'.out; omega)
          have HLlb := Aside0.mk (show (lb.length + tb'.got.length) * 24 ≤ 140737488355328 by
            have := congrArg List.length HI'.out.ab.all
            rw [List.length_append, List.length_take, wordsL_len] at this
            have := HN'.out; omega)
          refine start_ (n := 7) (S := fun w' => w'.cell? ⟨b13, 0, none⟩ = some (.slice Aa la.length ca)) (ds := [6]) #[false, false, false, false, false, false, false] (by kernel_rfl) rfl rfl (blk_cell (blk_below HB'.out.x13.at_ (below_drew (Below.refl _ _))) 0) (fun hHeld => ?_)
          refine pure_ (i := 0) (N := some 166) (v := ?_) (a' := ?_) #[true, false, false, false, false, false, false] rfl rfl (by kernel_rfl) (fun _ _ _ h => h) (Or.inl ⟨by rfl, ?_⟩) ?_ ?_
          rotate_left
          · intro w'
            go_simp
            with_reducible rfl
          rotate_left
          · simp only [Act.put, List.setIfInBounds_toArray, List.set_cons_zero, List.set_cons_succ, i64_w, i32_w]
            rfl
          refine pure_ (i := 2) (N := some 168) (v := ?_) (a' := ?_) #[true, false, true, false, false, false, false] rfl rfl (by kernel_rfl) (fun _ _ _ h => h) (Or.inl ⟨by rfl, ?_⟩) ?_ ?_
          rotate_left
          · intro w'
            go_simp
            with_reducible rfl
          rotate_left
          · simp only [Act.put, List.setIfInBounds_toArray, List.set_cons_zero, List.set_cons_succ, i64_w, i32_w]
            rfl
          refine take_ (i := 1) (N := some 167) (v := ?_) (a' := ?_) #[true, true, true, false, false, false, false] rfl rfl (by kernel_rfl) (fun _ _ _ h => h) (Or.inl ⟨by rfl, ?_⟩) hHeld ?_ ?_
          rotate_left
          · intro w' s0
            go_simp
            with_reducible rfl
          rotate_left
          · simp only [Act.put, List.setIfInBounds_toArray, List.set_cons_zero, List.set_cons_succ, i64_w, i32_w]
            rfl
          refine one_ (i := 3) (N := some 169) #[true, true, true, true, false, false, false] rfl rfl (by kernel_rfl) (by decide) (fun K hK => ?_)
          refine goes_ Try.func21 (by kernel_rfl) rfl #[.pointer (some ⟨g, 0, none⟩)] (by rfl) rfl rfl (by simp only [List.map_toArray, List.map_cons, List.map_nil]; rfl) ?_
          with_reducible refine ((HP'.out.below (below_drew (Below.refl _ _))).got).mono ?_
          rintro e w3 ⟨A3, c3, rfl, Sa3, So, h3, hv3, hso3, hw3⟩
          refine ⟨_, rfl, ?_⟩
          obtain ⟨A3_, c3_, he3, -, hrow3⟩ := hv3.2.reads
          injection he3 with e31 e32 e33
          subst e31 e33
          clear e32
          have HP3 := Aside0.mk h3
          have HSO3 := Aside0.mk hso3
          have HRow3 := Aside0.mk hrow3
          have HV3 := Aside0.mk hv3
          have HF3 := Aside0.mk (show Below 0 wc w3 from ⟨hw3.fr.os, hw3.fr.tape, hw3.fr.output, hw3.fr.size, fun k hk => by omega⟩)
          have HB3 := Aside0.mk ((HB'.out.went (Went.of_below (below_drew (Below.refl _ _)))).went hw3)
          clear h3 hso3 hrow3 hv3 hw3
          refine hK.out _ _ (blk_cell HB3.out.x13.at_ 0) (fun hHeld => ?_)
          clear hK K
          refine norm_ (a' := ?_) ?_ ?_
          rotate_left
          · show Act.put _ (some 169) _ = _
            simp only [Act.put, List.setIfInBounds_toArray, List.set_cons_zero, List.set_cons_succ, i64_w, i32_w]
            rfl
          refine one_ (i := 4) (N := some 170) #[true, true, true, true, true, false, false] rfl rfl (by kernel_rfl) (by decide) (fun K hK => ?_)
          refine Kd.R_append_rows_step kM (w0 := wc) 0 (by rfl) (.tmp 167) (.tmp 169) 25 34 (.slice none 0 0) 24 (by rfl) Try.underlying25 info34' rfl (by decide) (by omega) (.slice Aa la.length ca) la ta'.got A3 ta'.got.length c3 (fun k => Ga k ∨ So k ∨ w3.heap.size ≤ k) _ (by rfl) (by rfl) (Kd.R_mono HP3.out.ra (fun _ h => .inl h)) HRow3.out (fun _ _ h => h) (fun k hk => ⟨.inr (.inl hk.1), fun e => (HSO3.out k hk.1).1 (.inr (.inl (HP3.out.ra.1 k e.symm)))⟩) (fun k hk => .inr (.inr hk)) HF3.out (Nat.zero_le _) (by have := HLla.out; omega) ?_
          intro v1 w4 ho hb1 hg hat
          obtain ⟨A4, c4, rfl⟩ := Kd.R_slice ho
          have h4 := HP3.out.addG HSO3.out (Fr.of_grown hg (fun k hk => HP3.out.ra.1 k hk)) ho (fun k hk => hk)
          have HP4 := Aside0.mk h4.1
          have HB4 := Aside0.mk (HB3.out.went h4.2)
          have hfz : w4.frozen? ⟨b13, 0, none⟩ = false := blk_frozen HB4.out.x13.at_ 0
          have hcz : w4.cell? ⟨b13, 0, none⟩ = some (.slice Aa la.length ca) := blk_cell HB4.out.x13.at_ 0
          clear ho hb1 hg hat h4
          refine hK.out _ _ (blk_cell HB4.out.x13.at_ 0) (fun hHeld => ?_)
          clear hK K
          refine norm_ (a' := ?_) ?_ ?_
          rotate_left
          · show Act.put _ (some 170) _ = _
            simp only [Act.put, List.setIfInBounds_toArray, List.set_cons_zero, List.set_cons_succ, i64_w, i32_w]
            rfl
          refine pure_ (i := 5) (N := some 171) (v := ?_) (a' := ?_) #[true, true, true, true, true, true, false] rfl rfl (by kernel_rfl) (fun _ _ _ h => h) (Or.inl ⟨by rfl, ?_⟩) ?_ ?_
          rotate_left
          · intro w'
            go_simp
            with_reducible rfl
          rotate_left
          · simp only [Act.put, List.setIfInBounds_toArray, List.set_cons_zero, List.set_cons_succ, i64_w, i32_w]
            rfl
          refine last_ (i := 6) (N := none) #[true, true, true, true, true, true, true] rfl rfl (by kernel_rfl) (by decide) (fun K hK => ?_)
          refine skip_ (w1 := ?_) (by rfl) rfl ?_ ?_
          rotate_left
          · go_simp
            rfl
          refine hK.out _ _ ?_
          clear hK K
          refine done_ (by kernel_rfl) ?_
          have hP4 := HP4.out
          rw [List.length_append] at hP4
          have hf5 : Fr (fun k => k = b13) w4 (w4.setCell ⟨b13, 0, none⟩ (.slice A4 (la.length + ta'.got.length) c4)) := Fr.setCell (S := fun k => k = b13) _ rfl _
          have hne := HB4.out.ne
          have hx13 := HB4.out.x13.put 0 (.slice A4 (la.length + ta'.got.length) c4) rfl
          have hP5 := hP4.far HB4.out.x13.far (by have := HB4.out.ge; omega) hf5
          have hB5 : Bx w _ _ b6 b7 b12 b13 na' nb' (.slice A4 (la.length + ta'.got.length) c4) (.slice Ab lb.length cb) := ⟨HB4.out.x6.other hf5 (by omega), HB4.out.x7.other hf5 (by omega), HB4.out.x12.other hf5 (by omega), hx13, hne, HB4.out.ge⟩
          obtain ⟨Ga5, HP5, HB5⟩ : ∃ Ga5, Aside0 (Pm w (w4.setCell ⟨b13, 0, none⟩ (.slice A4 (la.length + ta'.got.length) c4)) g g' Sa3 Sb' Ga5 Gb Wp' { ta' with got := [] } tb' (.slice A4 (la.length + ta'.got.length) c4) (.slice Ab lb.length cb) u14 (la ++ ta'.got) lb ps') ∧ Aside0 (Bx w (w4.setCell ⟨b13, 0, none⟩ (.slice A4 (la.length + ta'.got.length) c4)) (U5 Sa3 Sb' Ga5 Gb Wp') b6 b7 b12 b13 na' nb' (.slice A4 (la.length + ta'.got.length) c4) (.slice Ab lb.length cb)) := ⟨_, ⟨hP5⟩, ⟨hB5⟩⟩
          clear hP5 hB5
          clear hP4 hf5 hne hx13 HP4 HB4 HP3 HB3 HSO3 HF3 HRow3 HV3 hfz hcz
          generalize w4.setCell ⟨b13, 0, none⟩ (.slice A4 (la.length + ta'.got.length) c4) = w5 at HP5 HB5 ⊢
          go_upto_region 39 with fail
          refine start_ (n := 7) (S := fun w' => w'.cell? ⟨b13, 1, none⟩ = some (.slice Ab lb.length cb)) (ds := [6]) #[false, false, false, false, false, false, false] (by kernel_rfl) rfl rfl (blk_cell (blk_below HB5.out.x13.at_ (below_drew (Below.refl _ _))) 1) (fun hHeld => ?_)
          refine pure_ (i := 0) (N := some 172) (v := ?_) (a' := ?_) #[true, false, false, false, false, false, false] rfl rfl (by kernel_rfl) (fun _ _ _ h => h) (Or.inl ⟨by rfl, ?_⟩) ?_ ?_
          rotate_left
          · intro w'
            go_simp
            with_reducible rfl
          rotate_left
          · simp only [Act.put, List.setIfInBounds_toArray, List.set_cons_zero, List.set_cons_succ, i64_w, i32_w]
            rfl
          refine pure_ (i := 2) (N := some 174) (v := ?_) (a' := ?_) #[true, false, true, false, false, false, false] rfl rfl (by kernel_rfl) (fun _ _ _ h => h) (Or.inl ⟨by rfl, ?_⟩) ?_ ?_
          rotate_left
          · intro w'
            go_simp
            with_reducible rfl
          rotate_left
          · simp only [Act.put, List.setIfInBounds_toArray, List.set_cons_zero, List.set_cons_succ, i64_w, i32_w]
            rfl
          refine take_ (i := 1) (N := some 173) (v := ?_) (a' := ?_) #[true, true, true, false, false, false, false] rfl rfl (by kernel_rfl) (fun _ _ _ h => h) (Or.inl ⟨by rfl, ?_⟩) hHeld ?_ ?_
          rotate_left
          · intro w' s0
            go_simp
            with_reducible rfl
          rotate_left
          · simp only [Act.put, List.setIfInBounds_toArray, List.set_cons_zero, List.set_cons_succ, i64_w, i32_w]
            rfl
          refine one_ (i := 3) (N := some 175) #[true, true, true, true, false, false, false] rfl rfl (by kernel_rfl) (by decide) (fun K hK => ?_)
          refine goes_ Try.func21 (by kernel_rfl) rfl #[.pointer (some ⟨g', 0, none⟩)] (by rfl) rfl rfl (by simp only [List.map_toArray, List.map_cons, List.map_nil]; rfl) ?_
          with_reducible refine ((HP5.out.swap.below (below_drew (Below.refl _ _))).got).mono ?_
          rintro e w3 ⟨A3, c3, rfl, Sa3, So, h3, hv3, hso3, hw3⟩
          refine ⟨_, rfl, ?_⟩
          obtain ⟨A3_, c3_, he3, -, hrow3⟩ := hv3.2.reads
          injection he3 with e31 e32 e33
          subst e31 e33
          clear e32
          have HP3 := Aside0.mk h3
          have HSO3 := Aside0.mk hso3
          have HRow3 := Aside0.mk hrow3
          have HV3 := Aside0.mk hv3
          have HF3 := Aside0.mk (show Below 0 w5 w3 from ⟨hw3.fr.os, hw3.fr.tape, hw3.fr.output, hw3.fr.size, fun k hk => by omega⟩)
          have HB3 := Aside0.mk ((HB5.out.went (Went.of_below (below_drew (Below.refl _ _)))).went (Went.sw1 hw3))
          clear h3 hso3 hrow3 hv3 hw3
          refine hK.out _ _ (blk_cell HB3.out.x13.at_ 1) (fun hHeld => ?_)
          clear hK K
          refine norm_ (a' := ?_) ?_ ?_
          rotate_left
          · show Act.put _ (some 175) _ = _
            simp only [Act.put, List.setIfInBounds_toArray, List.set_cons_zero, List.set_cons_succ, i64_w, i32_w]
            rfl
          refine one_ (i := 4) (N := some 176) #[true, true, true, true, true, false, false] rfl rfl (by kernel_rfl) (by decide) (fun K hK => ?_)
          refine Kd.R_append_rows_step kM (w0 := w5) 0 (by rfl) (.tmp 173) (.tmp 175) 25 34 (.slice none 0 0) 24 (by rfl) Try.underlying25 info34' rfl (by decide) (by omega) (.slice Ab lb.length cb) lb tb'.got A3 tb'.got.length c3 (fun k => Gb k ∨ So k ∨ w3.heap.size ≤ k) _ (by rfl) (by rfl) (Kd.R_mono HP3.out.ra (fun _ h => .inl h)) HRow3.out (fun _ _ h => h) (fun k hk => ⟨.inr (.inl hk.1), fun e => (HSO3.out k hk.1).1 (.inr (.inl (HP3.out.ra.1 k e.symm)))⟩) (fun k hk => .inr (.inr hk)) HF3.out (Nat.zero_le _) (by have := HLlb.out; omega) ?_
          intro v1 w4 ho hb1 hg hat
          obtain ⟨A4, c4, rfl⟩ := Kd.R_slice ho
          have h4 := HP3.out.addG HSO3.out (Fr.of_grown hg (fun k hk => HP3.out.ra.1 k hk)) ho (fun k hk => hk)
          have HP4 := Aside0.mk h4.1
          have HB4 := Aside0.mk (HB3.out.went (Went.sw2 h4.2))
          have hfz : w4.frozen? ⟨b13, 1, none⟩ = false := blk_frozen HB4.out.x13.at_ 1
          have hcz : w4.cell? ⟨b13, 1, none⟩ = some (.slice Ab lb.length cb) := blk_cell HB4.out.x13.at_ 1
          clear ho hb1 hg hat h4
          refine hK.out _ _ (blk_cell HB4.out.x13.at_ 1) (fun hHeld => ?_)
          clear hK K
          refine norm_ (a' := ?_) ?_ ?_
          rotate_left
          · show Act.put _ (some 176) _ = _
            simp only [Act.put, List.setIfInBounds_toArray, List.set_cons_zero, List.set_cons_succ, i64_w, i32_w]
            rfl
          refine pure_ (i := 5) (N := some 177) (v := ?_) (a' := ?_) #[true, true, true, true, true, true, false] rfl rfl (by kernel_rfl) (fun _ _ _ h => h) (Or.inl ⟨by rfl, ?_⟩) ?_ ?_
          rotate_left
          · intro w'
            go_simp
            with_reducible rfl
          rotate_left
          · simp only [Act.put, List.setIfInBounds_toArray, List.set_cons_zero, List.set_cons_succ, i64_w, i32_w]
            rfl
          refine last_ (i := 6) (N := none) #[true, true, true, true, true, true, true] rfl rfl (by kernel_rfl) (by decide) (fun K hK => ?_)
          refine skip_ (w1 := ?_) (by rfl) rfl ?_ ?_
          rotate_left
          · go_simp
            rfl
          refine hK.out _ _ ?_
          clear hK K
          refine done_ (by kernel_rfl) ?_
          have hP4 := HP4.out.swap
          rw [List.length_append] at hP4
          have hf6 : Fr (fun k => k = b13) w4 (w4.setCell ⟨b13, 1, none⟩ (.slice A4 (lb.length + tb'.got.length) c4)) := Fr.setCell (S := fun k => k = b13) _ rfl _
          have hne := HB4.out.ne
          have hx13 := HB4.out.x13.put 1 (.slice A4 (lb.length + tb'.got.length) c4) rfl
          have hP6 := hP4.far HB4.out.x13.far (by have := HB4.out.ge; omega) hf6
          have hB6 : Bx w _ _ b6 b7 b12 b13 na' nb' _ (.slice A4 (lb.length + tb'.got.length) c4) := ⟨HB4.out.x6.other hf6 (by omega), HB4.out.x7.other hf6 (by omega), HB4.out.x12.other hf6 (by omega), hx13, hne, HB4.out.ge⟩
          have HP6 := Aside0.mk hP6
          have HB6 := Aside0.mk hB6
          clear hP4 hf6 hne hx13 HP4 HB4 HP3 HB3 HSO3 HF3 HRow3 HV3 hfz hcz hP6 hB6
          have HI6 := Aside0.mk ((HI'.out.got.swap.got.swap).later (show (k : Int) ≤ ((k + 1 : Nat) : Int) by omega))
          have hk1 : wrap64 ((k : Int) + 1) = (k : Int) + 1 := by unfold wrap64; omega
          have hk2 : IntKind.i64.wrap ((k : Int) + 1) = (k : Int) + 1 := IntWalk.i64_in _ (by omega)
          go_wp2
          go_roundw
          case rel => exact ⟨k + 1, na', nb', _, _, _, _, _, _, _, _, _, _, _, ps', by go_num, HI6, ⟨rfl, rfl, by have := HN'.out; omega, by have := HN'.out; omega, by have := HN'.out; omega, by omega⟩, HP6, HB6⟩
          case measure => simp [intOf]; omega
    · have hex : decide ((k : Int) < (deeds.length : Int)) = false ∧ ¬ (k : Int) < (deeds.length : Int) ∨ decide ((k : Int) < (deeds.length : Int)) = true ∧ (k : Int) < (deeds.length : Int) ∧ decide ((k : Int) < 120) = false ∧ ¬ (k : Int) < 120 ∧ (120 : Int) ≤ (k : Int) := by
        simp only [decide_eq_false_iff_not, decide_eq_true_eq]
        omega
      clear hlt
      have hne := HBX.out.ne
      have hn12 : b12 ≠ b6 := by omega
      have hn13 : b13 ≠ b6 := by omega
      have hn76 : b7 ≠ b6 := by omega
      have hn67 : b6 ≠ b7 := by omega
      obtain ⟨Aa, ca, rfl⟩ := Kd.R_slice HP.out.ra
      obtain ⟨Ab, cb, rfl⟩ := Kd.R_slice HP.out.rb
      rcases hex with ⟨h1, h1p⟩ | ⟨h1, h1p, h2, h2p, h2q⟩
      all_goals
        go_upto_region 40 with fail
        have hf6 : wr.frozen? ⟨b6, 0, none⟩ = false := blk_frozen HBX.out.x6.at_ 0
        have hf61 : wr.frozen? ⟨b6, 1, none⟩ = false := blk_frozen HBX.out.x6.at_ 1
        have hc6 : wr.cell? ⟨b6, 0, none⟩ = some (.int .i64 0) := blk_cell HBX.out.x6.at_ 0
        have hc61 : wr.cell? ⟨b6, 1, none⟩ = some (.int .i64 0) := blk_cell HBX.out.x6.at_ 1
        have hX7 := Aside0.mk (blk_far (blk_far HBX.out.x7.at_ (p := ⟨b6, 0, none⟩) hn76 (.int .i64 (na : Int))) (p := ⟨b6, 1, none⟩) hn76 (.int .i64 (nb : Int)))
        have hf7 : wr.frozen? ⟨b7, 0, none⟩ = false := blk_frozen HBX.out.x7.at_ 0
        have hf71 : wr.frozen? ⟨b7, 1, none⟩ = false := blk_frozen HBX.out.x7.at_ 1
        have hc7 : wr.cell? ⟨b7, 0, none⟩ = some (.slice none 0 0) := blk_cell HBX.out.x7.at_ 0
        have hc71 : wr.cell? ⟨b7, 1, none⟩ = some (.slice none 0 0) := blk_cell HBX.out.x7.at_ 1
        refine start_ (n := 8) (S := fun w' => w'.cell? ⟨b12, 0, none⟩ = some (.int .i64 (na : Int)) ∧ w'.cell? ⟨b12, 1, none⟩ = some (.int .i64 (nb : Int)) ∧ w'.cell? ⟨b13, 0, none⟩ = some (.slice Aa la.length ca) ∧ w'.cell? ⟨b13, 1, none⟩ = some (.slice Ab lb.length cb)) (ds := [7]) #[false, false, false, false, false, false, false, false] (by kernel_rfl) rfl rfl ⟨blk_cell (blk_below HBX.out.x12.at_ (below_drew (Below.refl _ _))) 0, blk_cell (blk_below HBX.out.x12.at_ (below_drew (Below.refl _ _))) 1, blk_cell (blk_below HBX.out.x13.at_ (below_drew (Below.refl _ _))) 0, blk_cell (blk_below HBX.out.x13.at_ (below_drew (Below.refl _ _))) 1⟩ (fun hHeld => ?_)
        refine pure_ (i := 0) (N := some 178) (v := ?_) (a' := ?_) #[true, false, false, false, false, false, false, false] rfl rfl (by kernel_rfl) (fun _ _ _ h => h) (Or.inl ⟨by rfl, ?_⟩) ?_ ?_
        rotate_left
        · intro w'
          go_simp
          with_reducible rfl
        rotate_left
        · simp only [Act.put, List.setIfInBounds_toArray, List.set_cons_zero, List.set_cons_succ, i64_w, i32_w]
          rfl
        refine pure_ (i := 1) (N := some 179) (v := ?_) (a' := ?_) #[true, true, false, false, false, false, false, false] rfl rfl (by kernel_rfl) (fun _ _ _ h => h) (Or.inl ⟨by rfl, ?_⟩) ?_ ?_
        rotate_left
        · intro w'
          go_simp
          with_reducible rfl
        rotate_left
        · simp only [Act.put, List.setIfInBounds_toArray, List.set_cons_zero, List.set_cons_succ, i64_w, i32_w]
          rfl
        refine pure_ (i := 4) (N := some 4) (v := ?_) (a' := ?_) #[true, true, false, false, true, false, false, false] rfl rfl (by kernel_rfl) (fun _ _ _ h => h) (Or.inl ⟨by rfl, ?_⟩) ?_ ?_
        rotate_left
        · intro w'
          go_simp
          with_reducible rfl
        rotate_left
        · simp only [Act.put, List.setIfInBounds_toArray, List.set_cons_zero, List.set_cons_succ, i64_w, i32_w]
          rfl
        refine pure_ (i := 5) (N := some 5) (v := ?_) (a' := ?_) #[true, true, false, false, true, true, false, false] rfl rfl (by kernel_rfl) (fun _ _ _ h => h) (Or.inl ⟨by rfl, ?_⟩) ?_ ?_
        rotate_left
        · intro w'
          go_simp
          with_reducible rfl
        rotate_left
        · simp only [Act.put, List.setIfInBounds_toArray, List.set_cons_zero, List.set_cons_succ, i64_w, i32_w]
          rfl
        refine take_ (i := 2) (N := some 180) (v := ?_) (a' := ?_) #[true, true, true, false, true, true, false, false] rfl rfl (by kernel_rfl) (fun _ _ _ h => h) (Or.inl ⟨by rfl, ?_⟩) hHeld ?_ ?_
        rotate_left
        · rintro w' ⟨s0, s1, s2, s3⟩
          go_simp
          with_reducible rfl
        rotate_left
        · simp only [Act.put, List.setIfInBounds_toArray, List.set_cons_zero, List.set_cons_succ, i64_w, i32_w]
          rfl
        refine take_ (i := 3) (N := some 181) (v := ?_) (a' := ?_) #[true, true, true, true, true, true, false, false] rfl rfl (by kernel_rfl) (fun _ _ _ h => h) (Or.inl ⟨by rfl, ?_⟩) hHeld ?_ ?_
        rotate_left
        · rintro w' ⟨s0, s1, s2, s3⟩
          go_simp
          with_reducible rfl
        rotate_left
        · simp only [Act.put, List.setIfInBounds_toArray, List.set_cons_zero, List.set_cons_succ, i64_w, i32_w]
          rfl
        refine one_ (i := 6) (N := none) #[true, true, true, true, true, true, true, false] rfl rfl (by kernel_rfl) (by decide) (fun K hK => ?_)
        refine skip_ (w1 := ?_) (by rfl) rfl ?_ ?_
        rotate_left
        · go_simp
          rfl
        refine hK.out _ _ ⟨blk_cell (blk_below (blk_far (blk_far HBX.out.x12.at_ (p := ⟨b6, 0, none⟩) hn12 (.int .i64 (na : Int))) (p := ⟨b6, 1, none⟩) hn12 (.int .i64 (nb : Int))) (below_drew (Below.refl _ _))) 0, blk_cell (blk_below (blk_far (blk_far HBX.out.x12.at_ (p := ⟨b6, 0, none⟩) hn12 (.int .i64 (na : Int))) (p := ⟨b6, 1, none⟩) hn12 (.int .i64 (nb : Int))) (below_drew (Below.refl _ _))) 1, blk_cell (blk_below (blk_far (blk_far HBX.out.x13.at_ (p := ⟨b6, 0, none⟩) hn13 (.int .i64 (na : Int))) (p := ⟨b6, 1, none⟩) hn13 (.int .i64 (nb : Int))) (below_drew (Below.refl _ _))) 0, blk_cell (blk_below (blk_far (blk_far HBX.out.x13.at_ (p := ⟨b6, 0, none⟩) hn13 (.int .i64 (na : Int))) (p := ⟨b6, 1, none⟩) hn13 (.int .i64 (nb : Int))) (below_drew (Below.refl _ _))) 1⟩ (fun hHeld => ?_)
        clear hK K
        refine last_ (i := 7) (N := none) #[true, true, true, true, true, true, true, true] rfl rfl (by kernel_rfl) (by decide) (fun K hK => ?_)
        refine skip_ (w1 := ?_) (by rfl) rfl ?_ ?_
        rotate_left
        · go_simp
          rfl
        refine hK.out _ _ ?_
        clear hK K
        refine done_ (by kernel_rfl) ?_
        have hge := HBX.out.ge
        have hfA : Fr (fun k => k = b6) wr ((wr.setCell ⟨b6, 0, none⟩ (.int .i64 (na : Int))).setCell ⟨b6, 1, none⟩ (.int .i64 (nb : Int))) := fr_set2 _ _ _ _ _ _
        have hPA := HP.out.far HBX.out.x6.far hge hfA
        have hx6 := blk_put (blk_put HBX.out.x6.at_ 0 (.int .i64 (na : Int)) rfl) 1 (.int .i64 (nb : Int)) rfl
        generalize (wr.setCell ⟨b6, 0, none⟩ (.int .i64 (na : Int))).setCell ⟨b6, 1, none⟩ (.int .i64 (nb : Int)) = wA at hfA hPA hx6 hX7 ⊢
        have hfB : Fr (fun k => k = b7) wA ((wA.setCell ⟨b7, 0, none⟩ (.slice Aa la.length ca)).setCell ⟨b7, 1, none⟩ (.slice Ab lb.length cb)).drew := (fr_set2 _ _ _ _ _ _).trans (Fr.drew (S := fun _ => False) _) (fun k h => h.elim)
        have hPB := hPA.far HBX.out.x7.far (by omega) hfB
        have hx6B := (hfB.block b6 (blk_lt hx6) hn67).trans hx6
        have hx7B := blk_below (blk_put (blk_put hX7.out 0 (.slice Aa la.length ca) rfl) 1 (.slice Ab lb.length cb) rfl) (below_drew (Below.refl _ _))
        generalize ((wA.setCell ⟨b7, 0, none⟩ (.slice Aa la.length ca)).setCell ⟨b7, 1, none⟩ (.slice Ab lb.length cb)).drew = wB at hPB hx6B hx7B ⊢
        have r0 : wB.cell? ⟨b6, 0, none⟩ = some (.int .i64 (na : Int)) := blk_cell hx6B 0
        have r1 : wB.cell? ⟨b6, 1, none⟩ = some (.int .i64 (nb : Int)) := blk_cell hx6B 1
        have r2 : wB.cell? ⟨b7, 0, none⟩ = some (.slice Aa la.length ca) := blk_cell hx7B 0
        have r3 : wB.cell? ⟨b7, 1, none⟩ = some (.slice Ab lb.length cb) := blk_cell hx7B 1
        have HPB := Aside0.mk hPB
        have HIB := Aside0.mk (HI.out.later (show (k : Int) ≤ 120 by have := HQ.out; omega))
        clear hfA hPA hx6 hX7 hfB hPB hx6B hx7B hf6 hf61 hc6 hc61 hf7 hf71 hc7 hc71 hHeld
        go_wp2
        exact bodyPost_ret (v := .tuple #[.pointer (some ⟨g, 0, none⟩), .pointer (some ⟨g', 0, none⟩), .agg #[.int .i64 (na : Int), .int .i64 (nb : Int)], .agg #[.slice Aa la.length ca, .slice Ab lb.length cb]]) (by simp [results, Try.results16, go_sem, *]) rfl
          ⟨M, A, HCB.out.1, HCB.out.2, g, g', na, nb, ta, tb, _, _, _, _, _, _, _, _, la, lb, ps, rfl, HIB.out, HQ.out.1, HQ.out.2.1, by have := HQ.out; omega, by have := HQ.out; omega, HPB.out⟩
end Go.Proofs.Yteeljnlhgaljaaa
