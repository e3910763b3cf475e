/- By hand: the words that an instruction reads. -/
import Derived.Test.YtgnplpmmadbbdaaDoorE1
import Derived.Test.YtgnplpmmadbbdaaDoorPx1

namespace Go.Proofs.YtgnplpmmadbbdaaDoor
open Go.RowKit Go.Proofs.YtgnplpmmadbbdaaDoorW.PrintWords Go.Proofs.YtgnplpmmadbbdaaDoor.P

/-- Which of an instruction's numbers a letter names. -/
def pickN (ch : UInt8) (a b c : Int) : Int := if ch = 97 then a else if ch = 98 then b else c
def readsStep (a b c : Int) (out : List Int) (ch : UInt8) : List Int := if out.contains (pickN ch a b c) then out else out ++ [pickN ch a b c]
def readsL (l : List UInt8) (a b c : Int) : List Int := l.foldl (readsStep a b c) []
theorem readsL_take (l : List UInt8) (k : Nat) (h : k < l.length) (a b c : Int) : readsL (l.take (k + 1)) a b c = readsStep a b c (readsL (l.take k) a b c) (l.getD k 0) := by
  have : l.take (k + 1) = l.take k ++ [l.getD k 0] := by rw [List.take_add_one]; simp [h, List.getD]
  rw [this, readsL, List.foldl_append]; rfl
theorem readsL_len (l : List UInt8) (a b c : Int) : (readsL l a b c).length ≤ l.length := by
  have : ∀ (l : List UInt8) (o : List Int), (l.foldl (readsStep a b c) o).length ≤ o.length + l.length := by
    intro l
    induction l with
    | nil => intro o; simp
    | cons x l ih =>
      intro o
      refine Nat.le_trans (ih _) ?_
      unfold readsStep
      split <;> simp <;> omega
  exact Nat.le_trans (this l []) (by simp)

theorem kR_letters (op : Int) : ∀ k, k < (kR op).size → (kR op).data.toList.getD k 0 = 97 ∨ (kR op).data.toList.getD k 0 = 98 ∨ (kR op).data.toList.getD k 0 = 99 := by
  unfold kR
  split
  · rename_i h
    have : ∀ i, i < 22 → ∀ k, k < (kreads i).size → (kreads i).data.toList.getD k 0 = 97 ∨ (kreads i).data.toList.getD k 0 = 98 ∨ (kreads i).data.toList.getD k 0 = 99 := by decide
    exact this _ (by omega)
  · intro k hk; simp [ByteArray.size] at hk
theorem kR_size (op : Int) : (kR op).size ≤ 2 := by
  unfold kR
  split
  · rename_i h
    have : ∀ i, i < 22 → (kreads i).size ≤ 2 := by decide
    exact this _ (by omega)
  · simp [ByteArray.size]

theorem index_some (l : List Int) (x : Int) (hl : l.length ≤ 4611686018427387904) : ∀ (d k i : Nat), l.length - i = d → d < k → i ≤ l.length →
    ∃ r, slices_Index_int_int.l0 k l x (l.length : Int) (i : Int) = some r ∧ (0 ≤ r ↔ x ∈ l.drop i) := by
  intro d
  induction d with
  | zero =>
    intro k i hd hk hi
    obtain ⟨k, rfl⟩ : ∃ m, k = m + 1 := ⟨k - 1, by omega⟩
    refine ⟨-1, by simp only [slices_Index_int_int.l0]; rw [if_neg (by omega)], ?_⟩
    rw [List.drop_eq_nil_of_le (by omega)]
    simp
  | succ d ih =>
    intro k i hd hk hi
    obtain ⟨k, rfl⟩ : ∃ m, k = m + 1 := ⟨k - 1, by omega⟩
    have hlt : i < l.length := by omega
    have hrd : rd l (i : Int) = l[i] := by simp [rd, List.getD, hlt]
    rw [List.drop_eq_getElem_cons hlt]
    simp only [slices_Index_int_int.l0]
    rw [if_pos (by omega), if_pos (by omega), if_pos (by omega), hrd]
    by_cases h : x = l[i]
    · rw [if_pos h]; exact ⟨i, rfl, fun _ => List.mem_cons.2 (.inl h), fun _ => by omega⟩
    · rw [if_neg h]
      obtain ⟨r, hr, h2⟩ := ih k (i + 1) (by omega) (by omega) (by omega)
      refine ⟨r, ?_, h2.trans ⟨fun z => List.mem_cons.2 (.inr z), fun z => (List.mem_cons.1 z).resolve_left h⟩⟩
      rw [show wrap64 ((i : Int) + 1) = ((i + 1 : Nat) : Int) from by unfold wrap64; omega]
      exact hr
theorem contains_some (l : List Int) (x : Int) (hl : l.length ≤ 4611686018427387904) : slices_Contains_int_int.f (l.length + 1) l x = some (l.contains x) := by
  obtain ⟨r, hr, h⟩ := index_some l x hl l.length (l.length + 1) 0 (by omega) (by omega) (by omega)
  have hr' : slices_Index_int_int.l0 (l.length + 1) l x (l.length : Int) 0 = some r := hr
  simp only [slices_Contains_int_int.f, slices_Index_int_int.f, hr', Option.bind_some, Option.some.injEq]
  rw [Bool.eq_iff_iff]
  simpa using h

theorem own_ne_row {α : Type} {d : Kd α} {e : Nat} {w : World} {base : Nat} {ok : Nat → Prop} {v : Value} {xs : List α} (h : d.R e w base ok v xs) {g t : Nat} {fr : Nat × Nat} {cells : Array Value} (hb : w.heap[g]? = some (.cells cells t fr)) (ht : e ≠ t) : some g ≠ v.ownBlock := by
  obtain ⟨_, inner, ho, _⟩ := h
  intro hg
  obtain ⟨c2, hc⟩ := own_typed ho g hg.symm
  rw [hb] at hc
  injection hc with hc
  injection hc with _ hc
  exact ht hc.symm
theorem bytes_cell {w X : World} {g : Nat} {e : TypeId} {s : ByteArray} {fr : Nat × Nat} (h : w.heap[g]? = some (.cells (Lib.bytesCells X e s) e fr)) (j : Nat) (hj : j < s.size) : w.cell? ⟨g, j, none⟩ = some (.int .u8 (s.data.toList.getD j 0).toNat) := by
  simp [World.cell?, h, Lib.bytesCells, Array.getElem?_append, List.getD, hj]

set_option maxRecDepth 100000 in
theorem reads_any (o a b c : Int) (w : World) (hk : KindsAt w) :
    Calls Tryd.prog 11 #[.agg #[.int .i64 o, .int .i64 a, .int .i64 b, .int .i64 c]] w fun e w' => ∃ v0_ : Value, e = .returned (v0_) ∧ Kd.R (Kd.int .i64) 3 w' w.heap.size (fun _ => True) v0_ (readsL (kR o).data.toList a b c) ∧ Below w.heap.size w w' := by
  have hK := Aside0.mk hk
  clear hk
  have hn := kR_size o
  have hlen : (kR o).data.toList.length = (kR o).size := rfl
  have kc := fun (w : World) (s : ByteArray) => Lib.run_convert_string_bytes (P := Tryd.prog) w 9 48 5 s Tryd.underlying9 Tryd.underlying48 Tryd.underlying5
  have HLen := Aside0.mk hlen
  have ix0 : ∀ W, (Instr.index 70 (.agg #[.int .i64 a, .int .i64 b, .int .i64 c]) (.int .u8 0)).run Tryd.prog W = .ok (.int .i64 a) W := fun _ => by kernel_rfl
  have ix1 : ∀ W, (Instr.index 70 (.agg #[.int .i64 a, .int .i64 b, .int .i64 c]) (.int .u8 1)).run Tryd.prog W = .ok (.int .i64 b) W := fun _ => by kernel_rfl
  have ix2 : ∀ W, (Instr.index 70 (.agg #[.int .i64 a, .int .i64 b, .int .i64 c]) (.int .u8 2)).run Tryd.prog W = .ok (.int .i64 c) W := fun _ => by kernel_rfl
  clear hlen
  go_enter Tryd.func11, Tryd.ntmps11
  go_wp2_with fail
  refine (code_find.calls _ _ _ _ _ _ _ rfl (hK.out.below (below_alloc (Below.refl _ _) _))).mono ?_
  rintro e w' ⟨rfl, hb⟩
  have hB : Aside0 (Below w.heap.size w w') := ⟨(below_alloc (Below.refl _ _) _).trans (hb.mono (by simp))⟩
  have hsz : w.heap.size < w'.heap.size := by have := hb.size; simp at this; omega
  have hbx : Aside0 (w'.heap[w.heap.size]? = some (.cells #[Value.int .i64 o, .int .i64 a, .int .i64 b, .int .i64 c] 24 (0, 0))) := ⟨blk_below (blk_new w _) hb⟩
  have hx0 : w'.cell? ⟨w.heap.size, 0, none⟩ = some (.int .i64 o) := blk_cell hbx.out 0
  clear hb
  go_wp2
  clear kc
  have hBx : Aside0 ((Lib.bytesWorld (w'.alloc (Obj.cells #[Value.string (kN o), Value.string (kH o), Value.string (kR o), Value.bool (kW o)] 67)) 5 (kR o)).heap[w.heap.size]? = some (.cells #[Value.int .i64 o, .int .i64 a, .int .i64 b, .int .i64 c] 24 (0, 0))) :=
    ⟨(Lib.bytesWorld_at_old _ _ _ _ (by simp; omega)).trans (blk_alloc hbx.out _)⟩
  have hBy := Aside0.mk (Lib.bytesWorld_at_new (w'.alloc (Obj.cells #[Value.string (kN o), Value.string (kH o), Value.string (kR o), Value.bool (kW o)] 67)) 5 (kR o))
  have hBW : Aside0 (Below w.heap.size w (Lib.bytesWorld (w'.alloc (Obj.cells #[Value.string (kN o), Value.string (kH o), Value.string (kR o), Value.bool (kW o)] 67)) 5 (kR o))) :=
    ⟨bytes_below (below_alloc hB.out _) (by simp; omega) _ _⟩
  clear hbx hx0 hB
  simp only [World.size_alloc] at hBy
  generalize Lib.bytesWorld (w'.alloc (Obj.cells #[Value.string (kN o), Value.string (kH o), Value.string (kR o), Value.bool (kW o)] 67)) 5 (kR o) = W at *
  generalize hG : w'.heap.size + 1 = G at *
  clear hG
  go_loopw [5, 19] (fun v i wr => ∃ k : Nat, k ≤ (kR o).size ∧ i = .int .i64 k ∧ Aside0 (Kd.R (Kd.int .i64) 3 wr w.heap.size (fun _ => True) v (readsL ((kR o).data.toList.take k) a b c)) ∧ Aside0 (Below w.heap.size w wr) ∧ Aside0 (wr.heap[w.heap.size]? = some (.cells #[Value.int .i64 o, .int .i64 a, .int .i64 b, .int .i64 c] 24 (0, 0))) ∧ Aside0 (wr.heap[G]? = W.heap[G]?)) (fun _ i _ => (kR o).size - (intOf i).toNat)
  case atStart => exact ⟨0, Nat.zero_le _, rfl, ⟨Kd.R_nil _ _ _ _ _⟩, hBW, hBx, ⟨rfl⟩⟩
  case round =>
    obtain ⟨k, hk, rfl, hR, hBr, hBxr, hByr⟩ := hrel
    by_cases hlt : k < (kR o).size
    · have hch := kR_letters o k hlt
      have hcell := bytes_cell (hByr.out.trans hBy.out) k hlt
      have hst := Aside0.mk (readsL_take (kR o).data.toList k (by rw [HLen.out]; exact hlt) a b c)
      have hB0 : w.heap.size < wr.heap.size := blk_lt hBxr.out
      have hx : ∀ j, wr.cell? ⟨w.heap.size, j, none⟩ = #[Value.int .i64 o, .int .i64 a, .int .i64 b, .int .i64 c][j]? := blk_cell hBxr.out
      have hx0 : wr.cell? ⟨w.heap.size, 0, none⟩ = some (.int .i64 o) := hx 0
      have hx1 : wr.cell? ⟨w.heap.size, 1, none⟩ = some (.int .i64 a) := hx 1
      have hx2 : wr.cell? ⟨w.heap.size, 2, none⟩ = some (.int .i64 b) := hx 2
      have hx3 : wr.cell? ⟨w.heap.size, 3, none⟩ = some (.int .i64 c) := hx 3
      clear hx
      obtain ⟨A, cp, rfl, hcp, hC⟩ := Kd.R_reads hR.out
      have hCp := Aside0.mk hcp
      have hCA := Aside0.mk hC
      clear hcp hC
      have hlen : (readsL ((kR o).data.toList.take k) a b c).length ≤ k := Nat.le_trans (readsL_len _ _ _ _) (by rw [List.length_take]; omega)
      generalize (kR o).data.toList.getD k 0 = ch at *
      generalize readsL ((kR o).data.toList.take k) a b c = out at *
      obtain ⟨n, hnm⟩ : ∃ n, n = pickN ch a b c := ⟨_, rfl⟩
      have hN := Aside0.mk hnm
      clear hnm
      have hcon := Aside0.mk (contains_some out n (by omega))
      have hstep := Aside0.mk (show readsStep a b c out ch = if out.contains n then out else out ++ [n] by unfold readsStep; rw [hN.out])
      cases hin : out.contains n
      · have hIn := Aside0.mk hin
        clear hin
        rcases hch with h | h | h
        all_goals
          subst h
          have hN2 := hN.out
          simp [pickN] at hN2
          subst hN2
          clear hN
          go_wp2_with fail
          refine (three_any _ _ _ _ _).mono ?_
          rintro e w1 ⟨rfl, hb1⟩
          have hC1 := Aside0.mk (Kd.C_below hCA.out hb1)
          have hcell1 := (hb1.cell (p := ⟨G, k, none⟩) (World.block_lt_of_cell? _ _ hcell)).trans hcell
          have hb1' := Aside0.mk hb1
          have hBr1 := Aside0.mk (below_then hBr.out hBr.out.size hb1)
          clear hb1 hcell
          go_wp2_with fail
          refine (slices_Contains_int_int.calls (out.length + 1) _ _ out _ _ _ hC1.out hCp.out (hcon.out.trans (congrArg some hIn.out))).mono ?_
          rintro e w2 ⟨rfl, ⟨nd, rfl⟩⟩
          go_wp2_with (at_builtin; refine Kd.R_append (Kd.int .i64) (w0 := w) w.heap.size rfl (.tmp 32) (.tmp 34) 27 3 (.int .i64 0) 8 rfl Tryd.underlying27 info3 rfl (by decide) (by omega) (.slice A out.length cp) out n [.int .i64 n] (fun _ => True) (fun _ => False) rfl rfl ?aP (fun _ hk => hk.elim) ?aF ?aO ?aB ?aS ?aL ?_; (case aP => exact rfl); (case aF => exact fun _ _ => trivial); (case aO => exact Kd.R_below hR.out (pw_below_drewN hb1'.out _)); (case aB => exact pw_below_drewN hBr1.out _); (case aS => exact hBr1.out.size); (case aL => omega); intro v1 w3 ho hb hg hat)
          go_roundw
          case rel =>
            refine ⟨k + 1, by omega, by go_num, ⟨?_⟩, ⟨hb⟩, ⟨?_⟩, ⟨?_⟩⟩
            · rw [hst.out, hstep.out, if_neg (by rw [hIn.out]; decide)]; exact ho
            · exact blk_grown (blk_drewN (blk_below hBxr.out hb1'.out) _) hg (own_ne_row hR.out hBxr.out (by decide))
            · exact (hg.block G (by have := blk_lt (blk_below (hByr.out.trans hBy.out) hb1'.out); simpa using this) (own_ne_row hR.out (hByr.out.trans hBy.out) (by decide))).trans ((blk_below (hByr.out.trans hBy.out) hb1'.out).trans hBy.out.symm)
          case measure => simp [intOf]; omega
      · have hIn := Aside0.mk hin
        clear hin
        rcases hch with h | h | h
        all_goals
          subst h
          have hN2 := hN.out
          simp [pickN] at hN2
          subst hN2
          clear hN
          go_wp2_with fail
          refine (three_any _ _ _ _ _).mono ?_
          rintro e w1 ⟨rfl, hb1⟩
          have hC1 := Aside0.mk (Kd.C_below hCA.out hb1)
          have hcell1 := (hb1.cell (p := ⟨G, k, none⟩) (World.block_lt_of_cell? _ _ hcell)).trans hcell
          have hb1' := Aside0.mk hb1
          have hBr1 := Aside0.mk (below_then hBr.out hBr.out.size hb1)
          clear hb1 hcell
          go_wp2_with fail
          refine (slices_Contains_int_int.calls (out.length + 1) _ _ out _ _ _ hC1.out hCp.out (hcon.out.trans (congrArg some hIn.out))).mono ?_
          rintro e w2 ⟨rfl, ⟨nd, rfl⟩⟩
          go_wp2
          go_roundw
          case rel =>
            refine ⟨k + 1, by omega, by go_num, ⟨?_⟩, ⟨pw_below_drewN hBr1.out _⟩, ⟨?_⟩, ⟨?_⟩⟩
            · rw [hst.out, hstep.out, if_pos hIn.out]; exact Kd.R_below hR.out (pw_below_drewN hb1'.out _)
            · exact blk_drewN (blk_below hBxr.out hb1'.out) _
            · exact (blk_drewN (blk_below (hByr.out.trans hBy.out) hb1'.out) _).trans hBy.out.symm
          case measure => simp [intOf]; omega
    · go_wp2
      go_ret
      exact ⟨_, rfl, by have h := hR.out; rwa [List.take_of_length_le (by rw [HLen.out]; omega)] at h, hBr.out⟩

def code_Instr_Reads.f (a0_0 a0_1 a0_2 a0_3 : Int) : Option (List Int) := some (readsL (kR a0_0).data.toList a0_1 a0_2 a0_3)
theorem code_Instr_Reads.calls (a0_0 a0_1 a0_2 a0_3 : Int) (r : List Int) (w : World) (h : code_Instr_Reads.f a0_0 a0_1 a0_2 a0_3 = some r) (hGl : KindsAt w) :
    Calls Tryd.prog 11 #[.agg #[.int .i64 a0_0, .int .i64 a0_1, .int .i64 a0_2, .int .i64 a0_3]] w fun e w' => ∃ v0_ : Value, e = .returned (v0_) ∧ Kd.R (Kd.int .i64) 3 w' w.heap.size (fun _ => True) v0_ r ∧ Below w.heap.size w w' := by
  obtain rfl := Option.some.inj h
  exact reads_any a0_0 a0_1 a0_2 a0_3 w hGl
end Go.Proofs.YtgnplpmmadbbdaaDoor
