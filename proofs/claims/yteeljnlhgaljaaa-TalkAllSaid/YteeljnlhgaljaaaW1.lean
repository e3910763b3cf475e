/- Kinds of what goes to and fro: a packet under way, a deed; elements of a row of one's own. -/
import Derived.Test.YteeljnlhgaljaaaV1
import Derived.Test.YteeljnlhgaljaaaM
namespace Go.Proofs.Yteeljnlhgaljaaa.P
set_option linter.unusedVariables false
set_option linter.unusedSimpArgs false
open Go.RowKit Go.Proofs.YteeljnlhgaljaaaW.PrintWords Go.Proofs.YteeljnlhgaljaaaW.PrintLast Go.Proofs.YteeljnlhgaljaaaW.PrintMore
/-! #### struct type 87 -/
structure S87 where
  f0 : S36
  f1 : Bool
def z87 : S87 := ⟨z36, false⟩
def k87 : Kd S87 := Kd.iso (Kd.pair k36 Kd.bool) (fun x : S87 => (x.f0, x.f1))
theorem k87_open {w : World} {x : S87} {cs : List Value} (h : k87.K w x cs) : ∃ A1 c1, cs = [.int .i64 x.f0.f0, .slice A1 x.f0.f1.length c1, .int .i64 x.f0.f2, .bool x.f1] ∧ x.f0.f1.length ≤ c1 ∧ (Kd.slice 5 (Kd.int .u8)).C w A1 x.f0.f1.length x.f0.f1 := by
  obtain ⟨_, _, rfl, s0, rfl⟩ := h
  obtain ⟨A1, c1, rfl, l1, g1⟩ := k36_open s0
  exact ⟨A1, c1, rfl, l1, g1⟩
theorem k87_openM {w : World} {base : Nat} {ok : Nat → Prop} {x : S87} {cs : List Value} (h : k87.M w base ok x cs) : ∃ v1, cs = [.int .i64 x.f0.f0, v1, .int .i64 x.f0.f2, .bool x.f1] ∧ (Kd.slice 5 (Kd.int .u8)).R 34 w base ok v1 x.f0.f1 := by
  obtain ⟨_, _, rfl, s0, rfl⟩ := h
  obtain ⟨v1, rfl, g1⟩ := k36_openM s0
  exact ⟨v1, rfl, g1⟩
theorem k87_mk (w : World) (x : S87) {A1 : Option Addr} {c1 : Nat} (l1 : x.f0.f1.length ≤ c1) (g1 : (Kd.slice 5 (Kd.int .u8)).C w A1 x.f0.f1.length x.f0.f1) : k87.K w x [.int .i64 x.f0.f0, .slice A1 x.f0.f1.length c1, .int .i64 x.f0.f2, .bool x.f1] := ⟨[.int .i64 x.f0.f0, .slice A1 x.f0.f1.length c1, .int .i64 x.f0.f2], [.bool x.f1], rfl, (k36_mk w x.f0 l1 g1), rfl⟩
theorem k87_mkM (w : World) (base : Nat) (ok : Nat → Prop) (x : S87) {v1 : Value} (g1 : (Kd.slice 5 (Kd.int .u8)).R 34 w base ok v1 x.f0.f1) : k87.M w base ok x [.int .i64 x.f0.f0, v1, .int .i64 x.f0.f2, .bool x.f1] := ⟨[.int .i64 x.f0.f0, v1, .int .i64 x.f0.f2], [.bool x.f1], rfl, (k36_mkM w base ok x.f0 g1), rfl⟩
theorem k87_openF {W : World} {ok : Nat → Prop} {x : S87} {cs : List Value} (h : Kd.FK k87 W ok x cs) : ∃ A1 c1, cs = [.int .i64 x.f0.f0, .slice A1 x.f0.f1.length c1, .int .i64 x.f0.f2, .bool x.f1] ∧ x.f0.f1.length ≤ c1 ∧ Kd.F (Kd.slice 5 (Kd.int .u8)) W ok A1 x.f0.f1.length x.f0.f1 := by
  obtain ⟨A1, c1, rfl, l1, _⟩ := k87_open (Kd.FK_now h)
  exact ⟨A1, c1, rfl, l1, (fun W' hW => by obtain ⟨A1_, c1_, he, l1_, g1_⟩ := k87_open (h W' hW); injection (Option.some.inj (show some (Value.slice A1 x.f0.f1.length c1) = some (Value.slice A1_ x.f0.f1.length c1_) from congrArg (fun l => l[1]?) he)) with ha_ _ _; rw [ha_]; exact g1_)⟩
theorem k87_mkF (W : World) (ok : Nat → Prop) (x : S87) {A1 : Option Addr} {c1 : Nat} (l1 : x.f0.f1.length ≤ c1) (g1 : Kd.F (Kd.slice 5 (Kd.int .u8)) W ok A1 x.f0.f1.length x.f0.f1) : Kd.FK k87 W ok x [.int .i64 x.f0.f0, .slice A1 x.f0.f1.length c1, .int .i64 x.f0.f2, .bool x.f1] := fun W2 hW => k87_mk W2 x l1 (g1 W2 hW)
def rd_T87 (xs : List S87) (i : Int) : S87 := xs.getD i.toNat z87
theorem at_T87 {w : World} {A : Option Addr} {n : Nat} {xs : List S87} (h : Kd.C k87 w A n xs) (i : Int) (h0 : 0 ≤ i) (h1 : i < n) : ∃ ad A1 c1, A = some ad ∧ w.cell? (ad.add (i.toNat * 4)) = some (.int .i64 (rd_T87 xs i).f0.f0) ∧ w.cell? ⟨(ad.add (i.toNat * 4)).block, (ad.add (i.toNat * 4)).off + 1, none⟩ = some (.slice A1 (rd_T87 xs i).f0.f1.length c1) ∧ w.cell? ⟨(ad.add (i.toNat * 4)).block, (ad.add (i.toNat * 4)).off + 2, none⟩ = some (.int .i64 (rd_T87 xs i).f0.f2) ∧ w.cell? ⟨(ad.add (i.toNat * 4)).block, (ad.add (i.toNat * 4)).off + 3, none⟩ = some (.bool (rd_T87 xs i).f1) ∧ (rd_T87 xs i).f0.f1.length ≤ c1 ∧ (Kd.slice 5 (Kd.int .u8)).C w A1 (rd_T87 xs i).f0.f1.length (rd_T87 xs i).f0.f1 := by
  obtain ⟨ad, c, e, _, hK, hc0⟩ := Kd.C_get h z87 i h0 h1
  have hc : ∀ j u, c[j]? = some u → w.cell? (ad.add (i.toNat * 4 + j)) = some u := hc0
  obtain ⟨A1, c1, rfl, l1, g1⟩ := k87_open hK
  exact ⟨ad, A1, c1, e, hc 0 _ rfl, by rw [← add_field _ _ 1 (by omega)]; exact hc 1 _ rfl, by rw [← add_field _ _ 2 (by omega)]; exact hc 2 _ rfl, by rw [← add_field _ _ 3 (by omega)]; exact hc 3 _ rfl, l1, g1⟩

/-! #### struct type 85 -/
structure S85 where
  f0 : Int
  f1 : Int
def z85 : S85 := ⟨(0 : Int), (0 : Int)⟩
def k85 : Kd S85 := Kd.iso (Kd.pair (Kd.int .i64) (Kd.int .i64)) (fun x : S85 => (x.f0, x.f1))
theorem k85_open {w : World} {x : S85} {cs : List Value} (h : k85.K w x cs) : cs = [.int .i64 x.f0, .int .i64 x.f1] := by
  obtain ⟨_, _, rfl, rfl, rfl⟩ := h
  exact rfl
theorem k85_openM {w : World} {base : Nat} {ok : Nat → Prop} {x : S85} {cs : List Value} (h : k85.M w base ok x cs) : cs = [.int .i64 x.f0, .int .i64 x.f1] := by
  obtain ⟨_, _, rfl, rfl, rfl⟩ := h
  exact rfl
theorem k85_mk (w : World) (x : S85)  : k85.K w x [.int .i64 x.f0, .int .i64 x.f1] := ⟨[.int .i64 x.f0], [.int .i64 x.f1], rfl, rfl, rfl⟩
theorem k85_mkM (w : World) (base : Nat) (ok : Nat → Prop) (x : S85)  : k85.M w base ok x [.int .i64 x.f0, .int .i64 x.f1] := ⟨[.int .i64 x.f0], [.int .i64 x.f1], rfl, rfl, rfl⟩
theorem k85_mkF (W : World) (ok : Nat → Prop) (x : S85) : Kd.FK k85 W ok x [.int .i64 x.f0, .int .i64 x.f1] := fun W2 _ => k85_mk W2 x
def rd_T85 (xs : List S85) (i : Int) : S85 := xs.getD i.toNat z85
theorem at_T85 {w : World} {A : Option Addr} {n : Nat} {xs : List S85} (h : Kd.C k85 w A n xs) (i : Int) (h0 : 0 ≤ i) (h1 : i < n) : ∃ ad , A = some ad ∧ w.cell? (ad.add (i.toNat * 2)) = some (.int .i64 (rd_T85 xs i).f0) ∧ w.cell? ⟨(ad.add (i.toNat * 2)).block, (ad.add (i.toNat * 2)).off + 1, none⟩ = some (.int .i64 (rd_T85 xs i).f1) := by
  obtain ⟨ad, c, e, _, hK, hc0⟩ := Kd.C_get h z85 i h0 h1
  have hc : ∀ j u, c[j]? = some u → w.cell? (ad.add (i.toNat * 2 + j)) = some u := hc0
  obtain rfl := k85_open hK
  exact ⟨ad, e, hc 0 _ rfl, by rw [← add_field _ _ 1 (by omega)]; exact hc 1 _ rfl⟩

end Go.Proofs.Yteeljnlhgaljaaa.P
namespace Go.Proofs.Yteeljnlhgaljaaa
open Go.RowKit Go.Proofs.YteeljnlhgaljaaaW.PrintWords Go.Proofs.YteeljnlhgaljaaaW.PrintLast Go.Proofs.Yteeljnlhgaljaaa.P
theorem info87' : (Try.prog.info? 87).map (fun i => (i.zero, i.size, i.bytes)) = some (some (.agg #[.int .i64 0, .slice none 0 0, .int .i64 0, .bool false]), 4, 48) := by kernel_rfl
section
variable {α : Type} {d : Kd α} {e : Nat} {w : World} {base : Nat} {ok : Nat → Prop} {v : Value} {xs : List α}
/-- An element of a row of one's own: its cells, and what they lead to. -/
theorem R_at (h : d.R e w base ok v xs) (i : Nat) (hi : i < xs.length) : ∃ b c cs, v = .slice (some ⟨b, 0, none⟩) xs.length c ∧ ok b ∧ d.M w base (fun k => ok k ∧ k ≠ b) xs[i] cs ∧ ∀ (j : Nat) u, cs[j]? = some u → w.cell? ⟨b, i * d.sz + j, none⟩ = some u := by
  obtain ⟨hok, inner, ⟨hlen, hown⟩, hrep⟩ := h
  rcases hown with ⟨hv, h0⟩ | ⟨g, cap, cur, rfl, hg0, hblk, hnc, hmx, hsz, htk⟩
  · omega
  · refine ⟨g, cap, (inner.drop (i * d.sz)).take d.sz, rfl, hok g rfl, d.M_mono (fun k hk => ⟨hk.1, fun e => hk.2 (by rw [e]; rfl)⟩) (hrep.2 i _ (List.getElem?_eq_getElem hi)), fun j u hu => ?_⟩
    have hj : j < d.sz := by
      have := (List.getElem?_eq_some_iff.1 hu).1
      rw [List.length_take] at this
      omega
    rw [List.getElem?_take_of_lt hj, List.getElem?_drop] at hu
    rw [blk_cell hblk]
    exact cur_at htk hu
/-- The first so many of a row that is read. -/
theorem reads_take {R : α → List Value → Prop} {size : Nat} {A : Option Addr} {n : Nat} (h : ReadsRow R size w A n xs) (m : Nat) (hm : m ≤ n) : ReadsRow R size w A m (xs.take m) := by
  have hl : (xs.take m).length = m := by rw [List.length_take]; have := h.1; omega
  refine ⟨hl, by have := h.2.1; omega, fun hp => ?_⟩
  obtain ⟨ad, e, hc⟩ := h.2.2 (by omega)
  refine ⟨ad, e, fun j p hj => hc j p ?_⟩
  rw [List.getElem?_take] at hj
  split at hj
  · exact hj
  · cases hj
theorem reads_drop {R : α → List Value → Prop} {size : Nat} {A : Option Addr} {n c : Nat} (h : ReadsRow R size w A n xs) (m : Nat) (hm : m ≤ n) (hc : n ≤ c) : ReadsRow R size w (if c = m then A else A.map (·.add (m * size))) (n - m) (xs.drop m) := by
  have hl : (xs.drop m).length = n - m := by rw [List.length_drop, h.1]
  refine ⟨hl, by have := h.2.1; omega, fun hp => ?_⟩
  obtain ⟨ad, e, hcc⟩ := h.2.2 (by omega)
  have hcm : ¬ c = m := by omega
  rw [if_neg hcm, e]
  refine ⟨ad.add (m * size), rfl, fun j p hj => ?_⟩
  rw [List.getElem?_drop] at hj
  obtain ⟨cc, h1, h2, h3⟩ := hcc (m + j) p hj
  refine ⟨cc, h1, h2, fun i u hu => ?_⟩
  rw [add_add, ← Nat.add_assoc, ← Nat.add_mul]
  exact h3 i u hu
end
end Go.Proofs.Yteeljnlhgaljaaa
