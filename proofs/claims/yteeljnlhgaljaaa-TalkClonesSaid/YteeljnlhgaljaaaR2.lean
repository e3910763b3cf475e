/- By hand: what the document's functions answer, told of the document's end as one value; the end that it stands for. -/
import Derived.Test.YteeljnlhgaljaaaR1
import Derived.Test.YteeljnlhgaljaaaHx
import Derived.Test.YteeljnlhgaljaaaPz
namespace Go.Proofs.Yteeljnlhgaljaaa
set_option linter.unusedVariables false
set_option linter.unusedSimpArgs false
open Go.RowKit Go.Proofs.YteeljnlhgaljaaaW.PrintWords Go.Proofs.YteeljnlhgaljaaaW.PrintLast Go.Proofs.YteeljnlhgaljaaaW.PrintMore Go.Proofs.Yteeljnlhgaljaaa.P

/-- The end that the document's value stands for. -/
def tkOf (r : Rf) : Tk := ⟨r.most, r.again, r.said.length, r.heard, r.out, r.took.length, r.said.drop r.heard.toNat, r.took.drop r.gave.toNat, r.last, r.went, r.owes⟩
/-- What holds of it behind n things that were done. -/
structure OkR (n : Nat) (r : Rf) : Prop where
  most : 1 ≤ r.most ∧ r.most ≤ 64
  again : 1 ≤ r.again ∧ r.again ≤ 1000
  heard : 0 ≤ r.heard ∧ r.heard ≤ r.out
  out : r.out ≤ r.said.length
  gave : 0 ≤ r.gave ∧ r.gave ≤ r.took.length
  said : r.said.length ≤ n
  took : r.took.length ≤ 64 * n
  last : 0 ≤ r.last ∧ r.last < 1099511627776
  msgs : ∀ m ∈ r.said, m.length ≤ 4096
/-- The rows that it leads to. -/
def Rv (w : World) (Ps : Nat → Prop) (r : Rf) (vs vt : Value) : Prop := Kd.V kM 34 w 0 Ps vs r.said ∧ Kd.V kM 34 w 0 Ps vt r.took
theorem V_any {w : World} {b b' : Nat} {Ps : Nat → Prop} {v : Value} {l : List (List Int)} (h : Kd.V kM 34 w b Ps v l) : Kd.V kM 34 w b' Ps v l := h
theorem Rv.below {w w' : World} {Ps : Nat → Prop} {r : Rf} {vs vt : Value} (h : Rv w Ps r vs vt) (hb : Below w.heap.size w w') : Rv w' Ps r vs vt := ⟨Kd.V_below h.1 hb, Kd.V_below h.2 hb⟩
theorem Rv.mono {w : World} {Ps Ps' : Nat → Prop} {r : Rf} {vs vt : Value} (h : Rv w Ps r vs vt) (hp : ∀ k, Ps k → Ps' k) : Rv w Ps' r vs vt := ⟨Kd.V_mono h.1 hp, Kd.V_mono h.2 hp⟩
theorem Rv.fr {w w' : World} {S Ps : Nat → Prop} {r : Rf} {vs vt : Value} (h : Rv w Ps r vs vt) (hf : Fr S w w') (hd : ∀ k, Ps k → ¬ S k) : Rv w' Ps r vs vt :=
  ⟨Kd.V_step h.1 (fun k hk hlt => hf.block k hlt (hd k hk)), Kd.V_step h.2 (fun k hk hlt => hf.block k hlt (hd k hk))⟩
theorem Rv.bound {w : World} {Ps : Nat → Prop} {r : Rf} {vs vt : Value} (h : Rv w Ps r vs vt) : Rv w (fun k => Ps k ∧ k < w.heap.size) r vs vt := ⟨Kd.V_bound h.1, Kd.V_bound h.2⟩
abbrev outs (r : Rf) (e : Int) : Int × Int × (List (List Int)) × Int × Int × (List (List Int)) × Int × Int × Bool × Bool × Int := (r.most, r.again, r.said, r.heard, r.out, r.took, r.gave, r.last, r.went, r.owes, e)
/-! ### Say -/
def sayE (r : Rf) (m : List Int) : Int := if 4096 < m.length then 5 else if r.most ≤ (r.said.length : Int) - r.heard then 8 else 0
def sayR (r : Rf) (m : List Int) : Rf := if 4096 < m.length then r else if r.most ≤ (r.said.length : Int) - r.heard then r else { r with said := r.said ++ [m] }
theorem say_f (n : Nat) (r : Rf) (m : List Int) (ok : OkR n r) (hn : n ≤ 80) : baizeref44_Say.f r.most r.again r.said r.heard r.out r.took r.gave r.last r.went r.owes m = some (outs (sayR r m) (sayE r m)) := by
  have h1 := ok.heard; have h2 := ok.out; have h3 := ok.said
  have hw : wrap64 ((r.said.length : Int) - r.heard) = (r.said.length : Int) - r.heard := by unfold wrap64; omega
  unfold baizeref44_Say.f sayR sayE
  rw [hw]
  by_cases c1 : 4096 < m.length
  · rw [if_pos (by omega), if_pos c1, if_pos c1]
  · rw [if_neg (by omega), if_neg c1, if_neg c1]
    by_cases c2 : r.most ≤ (r.said.length : Int) - r.heard
    · rw [if_pos c2, if_pos c2, if_pos c2]
    · rw [if_neg c2, if_neg c2, if_neg c2]
      simp only [Option.bind_some, List.length_nil, List.nil_append]
      rw [if_pos (by omega), if_pos (by omega), if_pos (by omega)]
theorem rsay_ok (n : Nat) (r : Rf) (m : List Int) (A : Option Addr) (c : Nat) (Ps : Nat → Prop) (vs vt : Value) (w : World) (ok : OkR n r) (hn : n ≤ 80) (hV : Rv w Ps r vs vt) (hm : Kd.C (Kd.int .u8) w A m.length m) (hc : m.length ≤ c) :
    Calls Try.prog 28 #[.agg (rfC r vs vt), .slice A m.length c] w fun e w' => ∃ r' vs' vt', e = .returned (.tuple #[.agg (rfC r' vs' vt'), .int .i64 (sayE r m)]) ∧ r' = sayR r m ∧ Rv w' (fun k => Ps k ∨ w.heap.size ≤ k) r' vs' vt' ∧ Below w.heap.size w w' := by
  obtain ⟨hs, ht⟩ := hV
  obtain ⟨As, cs, rfl⟩ := Kd.V_slice hs
  obtain ⟨At, ct, rfl⟩ := Kd.V_slice ht
  refine (baizeref44_Say.calls r.most r.again Ps As cs r.said r.heard r.out Ps At ct r.took r.gave r.last r.went r.owes A c m _ _ _ _ _ _ _ _ _ _ _ w (V_any hs) (V_any ht) hm hc (say_f n r m ok hn)).mono ?_
  rintro e w' ⟨v2, v5, rfl, h2, h5, hb⟩
  exact ⟨_, v2, v5, rfl, rfl, ⟨V_any (Kd.V_mono h2 (fun k hk => hk.elim (fun h => .inl (h.elim id id)) .inr)), V_any (Kd.V_mono h5 (fun k hk => hk.elim (fun h => .inl (h.elim id id)) .inr))⟩, hb⟩
/-! ### Got -/
def gotR (r : Rf) : Rf := { r with gave := r.took.length }
theorem got_f (n : Nat) (r : Rf) (ok : OkR n r) : baizeref44_Got.f r.most r.again r.said r.heard r.out r.took r.gave r.last r.went r.owes = some (r.most, r.again, r.said, r.heard, r.out, r.took, (r.took.length : Int), r.last, r.went, r.owes, r.took.drop r.gave.toNat) := by
  unfold baizeref44_Got.f
  rw [if_pos ok.gave.1, if_pos ok.gave.2]
theorem rgot_ok (n : Nat) (r : Rf) (Ps : Nat → Prop) (vs vt : Value) (w : World) (ok : OkR n r) (hV : Rv w Ps r vs vt) :
    Calls Try.prog 33 #[.agg (rfC r vs vt)] w fun e w' => ∃ r' vs' vt' A c, e = .returned (.tuple #[.agg (rfC r' vs' vt'), .slice A (r.took.drop r.gave.toNat).length c]) ∧ r' = gotR r ∧ Rv w' (fun k => Ps k ∨ w.heap.size ≤ k) r' vs' vt' ∧ Kd.V kM 34 w' 0 (fun k => Ps k ∨ w.heap.size ≤ k) (.slice A (r.took.drop r.gave.toNat).length c) (r.took.drop r.gave.toNat) ∧ Below w.heap.size w w' := by
  obtain ⟨hs, ht⟩ := hV
  obtain ⟨As, cs, rfl⟩ := Kd.V_slice hs
  obtain ⟨At, ct, rfl⟩ := Kd.V_slice ht
  refine (baizeref44_Got.calls r.most r.again Ps As cs r.said r.heard r.out Ps At ct r.took r.gave r.last r.went r.owes _ _ _ _ _ _ _ _ _ _ _ w (V_any hs) (V_any ht) (got_f n r ok)).mono ?_
  rintro e w' ⟨v2, v5, v10, rfl, h2, h5, h10, hb⟩
  have hp : ∀ k, ((Ps k ∨ Ps k) ∨ w.heap.size ≤ k) → (Ps k ∨ w.heap.size ≤ k) := fun k hk => hk.elim (fun h => .inl (h.elim id id)) .inr
  obtain ⟨A, c, rfl⟩ := Kd.V_slice h10
  exact ⟨gotR r, v2, v5, A, c, rfl, rfl, ⟨V_any (Kd.V_mono h2 hp), V_any (Kd.V_mono h5 hp)⟩, V_any (Kd.V_mono h10 hp), hb⟩
/-! ### Hear -/
def badR (r : Rf) (f h : Int) (l : List (List Int)) : Bool := badP f h l || decide ((r.said.length : Int) < h)
def hearE (r : Rf) (f h : Int) (l : List (List Int)) : Int := if badR r f h l = true then 2 else if (r.took.length : Int) < f then 20 else 0
def ackR (r : Rf) (h : Int) (l : List (List Int)) : Rf := { r with heard := mx r.heard h, out := mx r.out (mx r.heard h), owes := r.owes || decide (0 < l.length) }
def hearR (r : Rf) (f h : Int) (l : List (List Int)) : Rf := if badR r f h l = true then r else if (r.took.length : Int) < f then ackR r h l else { ackR r h l with took := r.took ++ l.drop ((r.took.length : Int) - f).toNat }
theorem rd1 (l : List (List Int)) (i : Nat) (hi : i < l.length) : rd_L1 l (i : Int) = l[i] := by simp [rd_L1, List.getD, hi]
theorem scan_f (K : Nat) (r : Rf) (f h : Int) (l : List (List Int)) (hl : l.length ≤ 64) : ∀ d i, i + d = l.length →
    baizeref44_Hear.l0 (d + 1 + K) (i : Int) r.most r.again r.said r.heard r.out r.took r.gave r.last r.went r.owes f l h = if (l.drop i).any longM = true then some (outs r 2) else baizeref44_Hear.j2 K r.most r.again r.said (mx r.heard h) (mx r.out (mx r.heard h)) r.took r.gave r.last r.went (r.owes || decide (0 < l.length)) f l h
  | 0, i, e => by
    obtain rfl : i = l.length := by omega
    rw [show 0 + 1 + K = K + 1 by omega, baizeref44_Hear.l0, if_neg (by omega)]
    simp only [List.drop_length, List.any_nil, Bool.false_eq_true, if_false]
    by_cases c : 0 < l.length
    · rw [if_pos (by omega), decide_eq_true c, Bool.or_true]
    · rw [if_neg (by omega), decide_eq_false c, Bool.or_false]
  | d + 1, i, e => by
    have hi : i < l.length := by omega
    rw [show d + 1 + 1 + K = (d + 1 + K) + 1 by omega, baizeref44_Hear.l0, if_pos (by omega), if_pos (by omega), rd1 l i hi, List.drop_eq_getElem_cons hi]
    simp only [List.any_cons, longM, Bool.or_eq_true, decide_eq_true_eq]
    have hw : wrap64 ((i : Int) + 1) = ((i + 1 : Nat) : Int) := by unfold wrap64; omega
    by_cases c : 4096 < l[i].length
    · rw [if_pos (by omega), if_pos (.inl c)]
    · rw [if_neg (by omega), hw, scan_f K r f h l hl d (i + 1) (by omega)]
      simp only [longM, c, false_or]
/-- What has been taken when so many were looked at. -/
def tookAt (t : List (List Int)) (f : Int) (l : List (List Int)) (i : Nat) : List (List Int) := t ++ (l.take i).drop ((t.length : Int) - f).toNat
theorem take_f (K : Nat) (r : Rf) (f h : Int) (l : List (List Int)) (hl : l.length ≤ 64) (hf : 0 ≤ f ∧ f ≤ r.took.length) (ht : r.took.length ≤ 1000000) (hm : ∀ m ∈ l, m.length ≤ 4096) : ∀ d i, i + d = l.length →
    baizeref44_Hear.l1 (d + 1 + K) (i : Int) r.most r.again r.said r.heard r.out (tookAt r.took f l i) r.gave r.last r.went r.owes f l h = some (outs { r with took := tookAt r.took f l l.length } 0)
  | 0, i, e => by
    obtain rfl : i = l.length := by omega
    rw [show 0 + 1 + K = K + 1 by omega, baizeref44_Hear.l1, if_neg (by omega)]
  | d + 1, i, e => by
    have hi : i < l.length := by omega
    obtain ⟨fn, rfl⟩ := Int.eq_ofNat_of_zero_le hf.1
    have hf2 : fn ≤ r.took.length := by have := hf.2; omega
    have hw : wrap64 ((i : Int) + 1) = ((i + 1 : Nat) : Int) := by unfold wrap64; omega
    have hw2 : wrap64 ((fn : Int) + (i : Int)) = ((fn + i : Nat) : Int) := by unfold wrap64; omega
    have hn : ((r.took.length : Int) - (fn : Int)).toNat = r.took.length - fn := by omega
    have hlen : (tookAt r.took fn l i).length = r.took.length + (i - (r.took.length - fn)) := by
      unfold tookAt
      rw [hn, List.length_append, List.length_drop, List.length_take]
      omega
    rw [show d + 1 + 1 + K = (d + 1 + K) + 1 by omega, baizeref44_Hear.l1, if_pos (by omega), hw, hw2, hlen]
    have htk : tookAt r.took fn l (i + 1) = if fn + i = r.took.length + (i - (r.took.length - fn)) then tookAt r.took fn l i ++ [l[i]] else tookAt r.took fn l i := by
      unfold tookAt
      rw [hn, List.take_succ_eq_append_getElem hi]
      split
      · rw [List.drop_append_of_le_length (by rw [List.length_take]; omega), List.append_assoc]
      · have h1 : (l.take i ++ [l[i]]).length ≤ r.took.length - fn := by simp; omega
        have h2 : (l.take i).length ≤ r.took.length - fn := by simp; omega
        rw [List.drop_eq_nil_of_le h1, List.drop_eq_nil_of_le h2]
    have ih := take_f K r fn h l hl hf ht hm d (i + 1) (by omega)
    rw [htk] at ih
    by_cases c : fn + i = r.took.length + (i - (r.took.length - fn))
    · rw [if_pos (by omega)]
      simp only [Option.bind_some, List.length_nil, List.nil_append]
      rw [if_pos c] at ih
      have hgl : (l[i]).length ≤ 4096 := hm _ (List.getElem_mem hi)
      rw [rd1 l i hi, if_pos (by omega), if_pos (by omega), if_pos (by omega), if_pos (by omega)]
      exact ih
    · rw [if_neg (by omega)]
      rw [if_neg c] at ih
      exact ih
theorem hear_f (n : Nat) (r : Rf) (f h : Int) (l : List (List Int)) (ok : OkR n r) (hn : n ≤ 80) : ∃ k, baizeref44_Hear.f k r.most r.again r.said r.heard r.out r.took r.gave r.last r.went r.owes f l h = some (outs (hearR r f h l) (hearE r f h l)) := by
  have ht := ok.took
  refine ⟨(l.length + 1 + ((l.length + 1 + 0) + 1)) + 1, ?_⟩
  unfold baizeref44_Hear.f hearR hearE badR badP
  by_cases c1 : f < 0
  · rw [if_pos c1]
    simp [baizeref44_Hear.j0, c1]
  rw [if_neg c1]
  by_cases c2 : h < 0
  · rw [if_pos c2]
    simp [baizeref44_Hear.j0, c2]
  rw [if_neg c2]
  by_cases c3 : 64 < l.length
  · rw [if_pos (by omega)]
    simp [baizeref44_Hear.j0, c3]
  rw [if_neg (by omega)]
  by_cases c4 : (r.said.length : Int) < h
  · simp [baizeref44_Hear.j0, c4]
  rw [decide_eq_false (by omega : ¬ h > (r.said.length : Int)), baizeref44_Hear.j0, if_neg (by simp)]
  have hs := scan_f ((l.length + 1 + 0) + 1) r f h l (by omega) l.length 0 (by omega)
  simp only [Int.natCast_zero, List.drop_zero] at hs
  rw [hs]
  by_cases c5 : l.any longM = true
  · simp [c5]
  · have hm : ∀ m ∈ l, m.length ≤ 4096 := by
      intro m hm
      by_cases h9 : m.length ≤ 4096
      · exact h9
      · exact absurd (List.any_eq_true.2 ⟨m, hm, by simp [longM]; omega⟩) c5
    rw [if_neg c5, baizeref44_Hear.j2]
    have hb : ¬ ((decide (f < 0) || decide (h < 0) || decide (64 < l.length) || l.any longM || false) = true) := by
      simp only [Bool.not_eq_true] at c5
      simp [c1, c2, c3, c4, c5]
    rw [if_neg hb, if_neg hb]
    by_cases c6 : (r.took.length : Int) < f
    · rw [if_pos (by omega), if_pos c6, if_pos c6]
      rfl
    · rw [if_neg (by omega), if_neg c6, if_neg c6]
      have h1 := take_f 0 (ackR r h l) f h l (by omega) ⟨by omega, by show f ≤ (r.took.length : Int); omega⟩ (by show r.took.length ≤ 1000000; omega) hm l.length 0 (by omega)
      have h0 : tookAt (ackR r h l).took f l 0 = r.took := by simp [tookAt, ackR]
      rw [h0] at h1
      have h2 : tookAt (ackR r h l).took f l l.length = r.took ++ l.drop ((r.took.length : Int) - f).toNat := by simp [tookAt, ackR]
      rw [h2] at h1
      exact h1
theorem rhear_ok (n : Nat) (r : Rf) (f h : Int) (l : List (List Int)) (A : Option Addr) (c : Nat) (Ps : Nat → Prop) (vs vt : Value) (w : World) (ok : OkR n r) (hn : n ≤ 80) (hV : Rv w Ps r vs vt) (hm : Kd.C kM w A l.length l) (hc : l.length ≤ c) :
    Calls Try.prog 32 #[.agg (rfC r vs vt), .agg #[.int .i64 f, .slice A l.length c, .int .i64 h]] w fun e w' => ∃ r' vs' vt', e = .returned (.tuple #[.agg (rfC r' vs' vt'), .int .i64 (hearE r f h l)]) ∧ r' = hearR r f h l ∧ Rv w' (fun k => Ps k ∨ w.heap.size ≤ k) r' vs' vt' ∧ Below w.heap.size w w' := by
  obtain ⟨hs, ht⟩ := hV
  obtain ⟨As, cs, rfl⟩ := Kd.V_slice hs
  obtain ⟨At, ct, rfl⟩ := Kd.V_slice ht
  obtain ⟨k, hk⟩ := hear_f n r f h l ok hn
  refine (baizeref44_Hear.calls k r.most r.again Ps As cs r.said r.heard r.out Ps At ct r.took r.gave r.last r.went r.owes f A c l h _ _ _ _ _ _ _ _ _ _ _ w (V_any hs) (V_any ht) hm hc hk).mono ?_
  rintro e w' ⟨v2, v5, rfl, h2, h5, hb⟩
  exact ⟨_, v2, v5, rfl, rfl, ⟨V_any (Kd.V_mono h2 (fun k hk => hk.elim (fun h => .inl (h.elim id id)) .inr)), V_any (Kd.V_mono h5 (fun k hk => hk.elim (fun h => .inl (h.elim id id)) .inr))⟩, hb⟩
/-! ### Tick -/
def tickR (r : Rf) (now : Int) : Rf := if rfDue r now = true then rfTicked r now else r
/-- What a tick tells: its first number, its messages, its count. -/
def tickL (r : Rf) (now : Int) : List (List Int) := if rfDue r now = true then r.said.drop r.heard.toNat else []
def tickF (r : Rf) (now : Int) : Int := if rfDue r now = true then r.heard else 0
def tickH (r : Rf) (now : Int) : Int := if rfDue r now = true then (r.took.length : Int) else 0
theorem rtick_is (n : Nat) (r : Rf) (now : Int) (Ps : Nat → Prop) (vs vt : Value) (w : World) (ok : OkR n r) (hn : n ≤ 80) (hnow : 0 ≤ now ∧ now < 1099511627776) (hV : Rv w Ps r vs vt) :
    Calls Try.prog 29 #[.agg (rfC r vs vt), .int .i64 now] w fun e w' => ∃ r' vs' vt' f h A c, e = .returned (.tuple #[.agg (rfC r' vs' vt'), .agg #[.int .i64 f, .slice A (tickL r now).length c, .int .i64 h], .bool (rfDue r now)]) ∧ (r' = tickR r now ∧ f = tickF r now ∧ h = tickH r now) ∧ Rv w' (fun k => Ps k ∨ w.heap.size ≤ k) r' vs' vt' ∧ Kd.V kM 34 w' 0 (fun k => Ps k ∨ w.heap.size ≤ k) (.slice A (tickL r now).length c) (tickL r now) ∧ Below w.heap.size w w' := by
  obtain ⟨hs, ht⟩ := hV
  obtain ⟨As, cs, rfl⟩ := Kd.V_slice hs
  obtain ⟨At, ct, rfl⟩ := Kd.V_slice ht
  have hl := ok.last; have h1 := ok.heard; have h2 := ok.out; have h3 := ok.said
  have hsv := Kd.V_at hs
  have hp : ∀ k, Ps k → (Ps k ∨ w.heap.size ≤ k) := fun k hk => .inl hk
  have hp2 : ∀ W : World, True := fun _ => trivial
  refine (rtick_ok r As At cs ct Ps now w hsv.2.2 hsv.2.1 h1.1 (by omega) ⟨hnow.1, by omega⟩ ⟨hl.1, by omega⟩ (by omega) (rfDue r now) rfl).mono ?_
  rintro e w' ⟨hb, hcase⟩
  have hst : ∀ r' : Rf, r'.said = r.said → r'.took = r.took → Rv w' (fun k => Ps k ∨ w.heap.size ≤ k) r' (.slice As r.said.length cs) (.slice At r.took.length ct) := fun r' e1 e2 => by
    refine ⟨?_, ?_⟩
    · rw [e1]; exact Kd.V_mono (Kd.V_below hs hb) hp
    · rw [e2]; exact Kd.V_mono (Kd.V_below ht hb) hp
  rcases hcase with ⟨hd, rfl⟩ | ⟨hd, A, c, rfl, hV⟩
  · have hL : tickL r now = [] := by simp [tickL, hd]
    refine ⟨r, _, _, 0, 0, none, 0, by rw [hL, hd]; rfl, ⟨by simp [tickR, hd], by simp [tickF, hd], by simp [tickH, hd]⟩, hst r rfl rfl, by rw [hL]; exact Kd.V_nil _ _ _ _ _, hb⟩
  · have hL : tickL r now = r.said.drop r.heard.toNat := by simp [tickL, hd]
    refine ⟨rfTicked r now, _, _, r.heard, r.took.length, A, c, by rw [hL, hd], ⟨by simp [tickR, hd], by simp [tickF, hd], by simp [tickH, hd]⟩, hst _ rfl rfl, by rw [hL]; exact hV, hb⟩

theorem tkOf_wait (n : Nat) (r : Rf) (ok : OkR n r) : ((tkOf r).wait.length : Int) = (r.said.length : Int) - r.heard := by
  have h1 := ok.heard; have h2 := ok.out
  show ((r.said.drop r.heard.toNat).length : Int) = _
  rw [List.length_drop]; omega
theorem tkOf_got (n : Nat) (r : Rf) (ok : OkR n r) : (tkOf r).got.length ≤ 64 * n := by
  have h1 := ok.took
  show (r.took.drop r.gave.toNat).length ≤ _
  rw [List.length_drop]; omega
/-! ### Say -/
theorem tkOf_say (n : Nat) (r : Rf) (m : List Int) (ok : OkR n r) : ({ tkOf r with wait := (tkOf r).wait ++ [m], said := (tkOf r).said + 1 } : Tk) = tkOf { r with said := r.said ++ [m] } := by
  have h1 := ok.heard; have h2 := ok.out
  simp only [tkOf, Tk.mk.injEq, true_and, and_true]
  refine ⟨by simp, ?_⟩
  rw [List.drop_append_of_le_length (by omega)]
theorem tsay_is (n : Nat) (g : Nat) (S : Nat → Prop) (r : Rf) (m : List Int) (A : Option Addr) (c : Nat) (w : World) (ok : OkR n r) (hn : n ≤ 80) (ht : IsTk w g S (tkOf r)) (hm : Kd.C (Kd.int .u8) w A m.length m) (hc : m.length ≤ c) :
    Calls Try.prog 22 #[.pointer (some ⟨g, 0, none⟩), .slice A m.length c] w fun e w' => ∃ S' : Nat → Prop, e = .returned (.int .i64 (sayE r m)) ∧ IsTk w' g S' (tkOf (sayR r m)) ∧ (∀ k, S' k → S k ∨ w.heap.size ≤ k) ∧ Fr S w w' := by
  have h3 := ok.said; have hw := tkOf_wait n r ok
  unfold sayE sayR
  by_cases c1 : 4096 < m.length
  · rw [if_pos c1, if_pos c1]
    refine (say_long g A m.length c w c1).mono ?_
    rintro e w' ⟨rfl, rfl⟩
    exact ⟨S, rfl, ht, fun k h => .inl h, Fr.refl _ _⟩
  rw [if_neg c1, if_neg c1]
  by_cases c2 : r.most ≤ (r.said.length : Int) - r.heard
  · rw [if_pos c2, if_pos c2]
    refine (say_full g S (tkOf r) A m.length c w ht (by omega) (by rw [hw]; exact c2)).mono ?_
    rintro e w' ⟨rfl, hb⟩
    exact ⟨S, rfl, ht.below hb, fun k h => .inl h, Fr.of_below hb⟩
  · rw [if_neg c2, if_neg c2]
    refine (say_ok g S (tkOf r) A c m w ht hm hc (by omega) (by rw [hw]; show _ < r.most; omega) ok.most.2 ⟨by show 0 ≤ (r.said.length : Int); omega, by show (r.said.length : Int) < _; omega⟩).mono ?_
    rintro e w' ⟨S', rfl, hk, hs, hf⟩
    exact ⟨S', rfl, tkOf_say n r m ok ▸ hk, hs, hf⟩
/-! ### Tick -/
theorem due_is (n : Nat) (r : Rf) (now : Int) (ok : OkR n r) : dueB (tkOf r) now = rfDue r now := by
  have h1 := ok.heard; have h2 := ok.out
  have he : (!(r.said.drop r.heard.toNat).isEmpty) = decide (r.heard < (r.said.length : Int)) := by
    by_cases c : r.heard < (r.said.length : Int)
    · rw [decide_eq_true c]
      have : (r.said.drop r.heard.toNat) ≠ [] := fun e => by
        have := congrArg List.length e
        rw [List.length_drop] at this
        simp at this
        omega
      simpa using this
    · rw [decide_eq_false c]
      have : (r.said.drop r.heard.toNat) = [] := List.drop_eq_nil_of_le (by omega)
      simp [this]
  show (decide (r.out < (r.said.length : Int)) || r.owes || (!(r.said.drop r.heard.toNat).isEmpty && r.went && decide (r.again ≤ now - r.last))) = _
  rw [he]
  unfold rfDue
  cases r.owes <;> simp
theorem ttick_is (n : Nat) (g : Nat) (S : Nat → Prop) (r : Rf) (now : Int) (w : World) (ok : OkR n r) (hn : n ≤ 80) (hnow : 0 ≤ now ∧ now < 1099511627776) (ht : IsTk w g S (tkOf r)) :
    Calls Try.prog 19 #[.pointer (some ⟨g, 0, none⟩), .int .i64 now] w fun e w' => ∃ (S' : Nat → Prop) (f h : Int) (A : Option Addr) (c : Nat), e = .returned (.tuple #[.agg #[.int .i64 f, .slice A (tickL r now).length c, .int .i64 h], .bool (rfDue r now)]) ∧ (f = tickF r now ∧ h = tickH r now) ∧ Kd.V kM 34 w' 0 (fun k => w.heap.size ≤ k ∧ k < w'.heap.size) (.slice A (tickL r now).length c) (tickL r now) ∧ IsTk w' g S' (tkOf (tickR r now)) ∧ (∀ k, S' k → S k ∨ w.heap.size ≤ k) ∧ Fr S w w' := by
  have h3 := ok.said; have hl := ok.last; have hw := tkOf_wait n r ok; have h1 := ok.heard
  have hd := due_is n r now ok
  cases hc : rfDue r now
  · have hL : tickL r now = [] := by simp [tickL, hc]
    refine (tick_no g S (tkOf r) now w ht ⟨hnow.1, by omega⟩ ⟨hl.1, by show r.last < _; omega⟩ (by rw [hd, hc])).mono ?_
    rintro e w' ⟨rfl, hb⟩
    exact ⟨S, 0, 0, none, 0, by rw [hL]; rfl, ⟨by simp [tickF, hc], by simp [tickH, hc]⟩, by rw [hL]; exact Kd.V_nil _ _ _ _ _, by simp only [tickR, hc]; exact ht.below hb, fun k h => .inl h, Fr.of_below hb⟩
  · have hL : tickL r now = r.said.drop r.heard.toNat := by simp [tickL, hc]
    refine (tick_yes g S (tkOf r) now w ht ⟨hnow.1, by omega⟩ ⟨hl.1, by show r.last < _; omega⟩ (by rw [hd, hc]) (by omega) (fun m hm => by have := ok.msgs m (List.mem_of_mem_drop hm); omega)).mono ?_
    rintro e w' ⟨v, rfl, hv, hk, hf⟩
    obtain ⟨A, c, rfl⟩ := Kd.R_slice hv
    refine ⟨fun k => S k ∧ k < w.heap.size, r.heard, r.took.length, A, c, by rw [hL]; rfl, ⟨by simp [tickF, hc], by simp [tickH, hc]⟩, by rw [hL]; exact Kd.N_V (Kd.R_N (Kd.R_mono (Kd.R_bound hv) (fun k hk => ⟨hk.2.1, hk.2.2.1⟩))), ?_, fun k h => .inl h.1, hf⟩
    have e1 : tickR r now = rfTicked r now := by simp [tickR, hc]
    rw [e1]
    exact hk
/-! ### Got -/
theorem tgot_is (g : Nat) (S : Nat → Prop) (r : Rf) (w : World) (ht : IsTk w g S (tkOf r)) :
    Calls Try.prog 21 #[.pointer (some ⟨g, 0, none⟩)] w fun e w' => ∃ (S' : Nat → Prop) (A : Option Addr) (c : Nat), e = .returned (.slice A (r.took.drop r.gave.toNat).length c) ∧ Kd.C kM w' A (r.took.drop r.gave.toNat).length (r.took.drop r.gave.toNat) ∧ (r.took.drop r.gave.toNat).length ≤ c ∧ IsTk w' g S' (tkOf (gotR r)) ∧ (∀ k, S' k → S k ∨ w.heap.size ≤ k) ∧ Fr S w w' := by
  refine (got_ok g S (tkOf r) w ht).mono ?_
  rintro e w' ⟨v, S', So, rfl, hk, ho, hs', hso, hf⟩
  obtain ⟨A, c, rfl⟩ := Kd.R_slice ho
  obtain ⟨A', c', e', hc', hread⟩ := Kd.R_reads ho
  injection e' with e1 e2 e3
  subst e1 e3
  refine ⟨S', A, c, rfl, hread, hc', ?_, fun k hk => .inl (hs' k hk).1, hf⟩
  have : ({ tkOf r with got := [] } : Tk) = tkOf (gotR r) := by simp [tkOf, gotR]
  exact this ▸ hk
/-! ### Hear -/
theorem tkOf_hear (n : Nat) (r : Rf) (f h : Int) (l : List (List Int)) (ok : OkR n r) (hb : badR r f h l = false) : heardT (tkOf r) f h l = tkOf (hearR r f h l) := by
  have h1 := ok.heard; have h2 := ok.out; have h3 := ok.gave
  simp only [badR, badP, Bool.or_eq_false_iff, decide_eq_false_iff_not] at hb
  obtain ⟨⟨⟨⟨b1, b2⟩, b3⟩, b4⟩, b5⟩ := hb
  have hack : owed (acked (tkOf r) h) l = tkOf (ackR r h l) := by
    by_cases c : 0 < h - r.heard
    · have e1 : mx r.heard h = h := if_pos (by omega)
      have e2 : (r.said.drop r.heard.toNat).drop (h - r.heard).toNat = r.said.drop h.toNat := by
        rw [List.drop_drop]; congr 1; omega
      show owed (if 0 < h - r.heard then _ else _) l = _
      rw [if_pos c]
      unfold owed ackR tkOf
      simp only [e1, e2]
      rfl
    · have e1 : mx r.heard h = r.heard := if_neg (by omega)
      have e2 : mx r.out r.heard = r.out := if_neg (by omega)
      show owed (if 0 < h - r.heard then _ else _) l = _
      rw [if_neg c]
      unfold owed ackR tkOf
      simp only [e1, e2]
  have hbad : ¬ badR r f h l = true := by
    simp [badR, badP, b1, b2, b3, b4, b5]
  unfold heardT hearR
  rw [hack, if_neg hbad]
  show (if (r.took.length : Int) < f then _ else _) = _
  by_cases c : (r.took.length : Int) < f
  · rw [if_pos c, if_pos c]
  · rw [if_neg c, if_neg c]
    unfold gotP
    show (if (r.took.length : Int) - f < l.length then _ else _) = _
    by_cases c2 : (r.took.length : Int) - f < l.length
    · rw [if_pos c2]
      unfold tkOf ackR
      simp only [Tk.mk.injEq, true_and, and_true]
      refine ⟨?_, ?_⟩
      · rw [List.length_append, List.length_drop]; omega
      · rw [List.drop_append_of_le_length (by omega)]
    · rw [if_neg c2]
      have : l.drop ((r.took.length : Int) - f).toNat = [] := List.drop_eq_nil_of_le (by omega)
      rw [this, List.append_nil]
      rfl
theorem thear_is (n : Nat) (g : Nat) (S : Nat → Prop) (r : Rf) (f h : Int) (l : List (List Int)) (A : Option Addr) (c : Nat) (w : World) (ok : OkR n r) (hn : n ≤ 80) (ht : IsTk w g S (tkOf r)) (hS : ∀ k, S k → k < w.heap.size) (hl : ∀ W, Fr S w W → Kd.C kM W A l.length l) (hc : l.length ≤ c) :
    Calls Try.prog 20 #[.pointer (some ⟨g, 0, none⟩), .agg #[.int .i64 f, .slice A l.length c, .int .i64 h]] w fun e w' => ∃ S' : Nat → Prop, e = .returned (.int .i64 (hearE r f h l)) ∧ IsTk w' g S' (tkOf (hearR r f h l)) ∧ (∀ k, S' k → S k ∨ w.heap.size ≤ k) ∧ Fr S w w' := by
  have hw := tkOf_wait n r ok; have h1 := ok.heard; have h2 := ok.out; have h3 := ok.said; have h4 := ok.took; have h5 := tkOf_got n r ok
  cases hb : badR r f h l
  · have hbad : ¬ badR r f h l = true := by simp [hb]
    have e1 : hearE r f h l = if (tkOf r).heard < f then 20 else 0 := by unfold hearE; rw [if_neg hbad]; rfl
    have hb' := hb
    simp only [badR, Bool.or_eq_false_iff, decide_eq_false_iff_not] at hb'
    obtain ⟨Sw, Sg, vw, vg, hK⟩ := ht
    rw [e1]
    refine (hear_is g S Sw Sg vw vg (tkOf r) f h A c l w hK hS hl hc hb'.1 (by show h ≤ (r.said.length : Int); omega) hw h1.1 (by show (r.said.length : Int) < _; omega) h2 (by show 0 ≤ r.out; omega) ⟨by show 0 ≤ (r.took.length : Int); omega, by show (r.took.length : Int) < _; omega⟩ (by omega) _ _ rfl (tkOf_hear n r f h l ok hb)).mono ?_
    rintro e w' ⟨S', rfl, hk, hs, hf⟩
    exact ⟨S', rfl, hk, hs, hf⟩
  · have e1 : hearE r f h l = 2 := by unfold hearE; rw [if_pos hb]
    have e2 : hearR r f h l = r := by unfold hearR; rw [if_pos hb]
    rw [e1, e2]
    cases hp : badP f h l
    · have : (r.said.length : Int) < h := by simpa [badR, hp] using hb
      refine (hear_much g S (tkOf r) f h A c l w ht (hl w (Fr.refl _ _)) hp this).mono ?_
      rintro e w' ⟨rfl, hb⟩
      exact ⟨S, rfl, ht.below hb, fun k h => .inl h, Fr.of_below hb⟩
    · refine (hear_bad g f h A c l w (hl w (Fr.refl _ _)) hp).mono ?_
      rintro e w' ⟨rfl, hb⟩
      exact ⟨S, rfl, ht.below hb, fun k h => .inl h, Fr.of_below hb⟩
/-! ### What holds goes on to hold -/
theorem OkR.more {n n' : Nat} {r : Rf} (h : OkR n r) (hn : n ≤ n') : OkR n' r := ⟨h.most, h.again, h.heard, h.out, h.gave, by have := h.said; omega, by have := h.took; omega, h.last, h.msgs⟩
theorem OkR.say {n : Nat} {r : Rf} (h : OkR n r) (m : List Int) : OkR (n + 1) (sayR r m) := by
  unfold sayR
  split
  · exact h.more (Nat.le_succ _)
  split
  · exact h.more (Nat.le_succ _)
  · refine ⟨h.most, h.again, h.heard, ?_, h.gave, ?_, by have := h.took; show r.took.length ≤ _; omega, h.last, fun x hx => ?_⟩
    · have := h.out
      show r.out ≤ ((r.said ++ [m]).length : Int)
      rw [List.length_append]; simp; omega
    · have := h.said
      show (r.said ++ [m]).length ≤ _
      rw [List.length_append]; simp; omega
    · rcases List.mem_append.1 hx with hx | hx
      · exact h.msgs x hx
      · obtain rfl := List.mem_singleton.1 hx; omega
theorem OkR.tick {n : Nat} {r : Rf} (h : OkR n r) (now : Int) (hnow : 0 ≤ now ∧ now < 1099511627776) : OkR (n + 1) (tickR r now) := by
  unfold tickR
  split
  · have h1 := h.heard; have h2 := h.out; have h3 := h.said; have h4 := h.took
    exact ⟨h.most, h.again, ⟨h1.1, by show r.heard ≤ (r.said.length : Int); omega⟩, Int.le_refl _, h.gave, by show r.said.length ≤ _; omega, by show r.took.length ≤ _; omega, hnow, h.msgs⟩
  · exact h.more (Nat.le_succ _)
theorem OkR.got {n : Nat} {r : Rf} (h : OkR n r) : OkR (n + 1) (gotR r) := by
  have h3 := h.said; have h4 := h.took
  exact ⟨h.most, h.again, h.heard, h.out, ⟨by show 0 ≤ (r.took.length : Int); omega, Int.le_refl _⟩, by show r.said.length ≤ _; omega, by show r.took.length ≤ _; omega, h.last, h.msgs⟩
theorem OkR.hear {n : Nat} {r : Rf} (h : OkR n r) (f hd : Int) (l : List (List Int)) : OkR (n + 1) (hearR r f hd l) := by
  have h1 := h.heard; have h2 := h.out; have h3 := h.said; have h4 := h.took; have h5 := h.gave
  unfold hearR
  by_cases c1 : badR r f hd l = true
  · rw [if_pos c1]
    exact h.more (Nat.le_succ _)
  · rw [if_neg c1]
    have hb : badR r f hd l = false := by simpa using c1
    simp only [badR, badP, Bool.or_eq_false_iff, decide_eq_false_iff_not] at hb
    obtain ⟨⟨⟨⟨b1, b2⟩, b3⟩, b4⟩, b5⟩ := hb
    have ha : OkR (n + 1) (ackR r hd l) := by
      refine ⟨h.most, h.again, ?_, ?_, h.gave, by show r.said.length ≤ _; omega, by show r.took.length ≤ _; omega, h.last, h.msgs⟩
      · show 0 ≤ mx r.heard hd ∧ mx r.heard hd ≤ mx r.out (mx r.heard hd)
        unfold mx
        split <;> split <;> omega
      · show mx r.out (mx r.heard hd) ≤ (r.said.length : Int)
        unfold mx
        split <;> split <;> omega
    split
    · exact ha
    · refine ⟨ha.most, ha.again, ha.heard, ha.out, ⟨h5.1, ?_⟩, ha.said, ?_, ha.last, ha.msgs⟩
      · show r.gave ≤ ((r.took ++ l.drop _).length : Int)
        rw [List.length_append]; omega
      · show (r.took ++ l.drop _).length ≤ _
        rw [List.length_append, List.length_drop]; omega

/-- The end g stands for r, the rows of the document's value r' lie beside; since ws only what is new, or S0's, was touched. -/
structure Mv (ws : World) (S0 Ps0 : Nat → Prop) (w : World) (g : Nat) (S Ps : Nat → Prop) (r r' : Rf) (vs vt : Value) : Prop where
  tk : IsTk w g S (tkOf r)
  rv : Rv w Ps r' vs vt
  dis : ∀ k, Ps k → ¬ S k
  ltS : ∀ k, S k → k < w.heap.size
  ltP : ∀ k, Ps k → k < w.heap.size
  nS : ∀ k, S k → S0 k ∨ ws.heap.size ≤ k
  nP : ∀ k, Ps k → Ps0 k ∨ ws.heap.size ≤ k
  fr : Fr S0 ws w
section
variable {ws w W : World} {S0 Ps0 S Ps S' : Nat → Prop} {g : Nat} {r r' r1 : Rf} {vs vt vs' vt' : Value}
theorem Mv.below (h : Mv ws S0 Ps0 w g S Ps r r' vs vt) (hb : Below w.heap.size w W) : Mv ws S0 Ps0 W g S Ps r r' vs vt :=
  ⟨h.tk.below hb, h.rv.below hb, h.dis, fun k hk => Nat.lt_of_lt_of_le (h.ltS k hk) hb.size, fun k hk => Nat.lt_of_lt_of_le (h.ltP k hk) hb.size, h.nS, h.nP, h.fr.trans (Fr.of_below (S := fun _ => False) hb) (fun k h => h.elim)⟩
/-- The document's value is another one, of the old rows and of new ones. -/
theorem Mv.ref (h : Mv ws S0 Ps0 w g S Ps r r' vs vt) (hb : Below w.heap.size w W) (hv : Rv W (fun k => Ps k ∨ w.heap.size ≤ k) r1 vs' vt') : Mv ws S0 Ps0 W g S (fun k => (Ps k ∨ w.heap.size ≤ k) ∧ k < W.heap.size) r r1 vs' vt' :=
  ⟨h.tk.below hb, hv.bound, fun k hk hs => hk.1.elim (fun h' => h.dis k h' hs) (fun h' => Nat.not_lt.2 h' (h.ltS k hs)), fun k hk => Nat.lt_of_lt_of_le (h.ltS k hk) hb.size, fun k hk => hk.2, h.nS, fun k hk => hk.1.elim (h.nP k) (fun h' => .inr (Nat.le_trans h.fr.size h')), h.fr.trans (Fr.of_below (S := fun _ => False) hb) (fun k h => h.elim)⟩
/-- The end has done something. -/
theorem Mv.talk (h : Mv ws S0 Ps0 w g S Ps r r' vs vt) (hk : IsTk W g S' (tkOf r1)) (hs : ∀ k, S' k → S k ∨ w.heap.size ≤ k) (hf : Fr S w W) : Mv ws S0 Ps0 W g (fun k => S' k ∧ k < W.heap.size) Ps r1 r' vs vt := by
  obtain ⟨Sw, Sg, vw, vg, hk⟩ := hk
  exact ⟨⟨_, _, _, _, hk.tight⟩, h.rv.fr hf h.dis, fun k hk hs' => (hs k hs'.1).elim (h.dis k hk) (fun h' => Nat.not_lt.2 h' (h.ltP k hk)), fun k hk => hk.2, fun k hk => Nat.lt_of_lt_of_le (h.ltP k hk) hf.size, fun k hk => (hs k hk.1).elim (h.nS k) (fun h' => .inr (Nat.le_trans h.fr.size h')), h.nP, h.fr.trans hf (fun k hk => h.nS k hk)⟩
/-- Another block is written. -/
theorem Mv.far (h : Mv ws S0 Ps0 w g S Ps r r' vs vt) {b : Nat} (hS : ¬ S b) (hP : ¬ Ps b) (hn : S0 b ∨ ws.heap.size ≤ b) (hf : Fr (fun k => k = b) w W) : Mv ws S0 Ps0 W g S Ps r r' vs vt :=
  ⟨h.tk.frame hf (fun k hk e => hS (e ▸ hk)), h.rv.fr hf (fun k hk e => hP (e ▸ hk)), h.dis, fun k hk => Nat.lt_of_lt_of_le (h.ltS k hk) hf.size, fun k hk => Nat.lt_of_lt_of_le (h.ltP k hk) hf.size, h.nS, h.nP, h.fr.trans hf (fun k hk => hk ▸ hn)⟩
end
/-- Ten cells of one block are written. -/
theorem fr_set10 (w : World) (b : Nat) (v0 v1 v2 v3 v4 v5 v6 v7 v8 v9 : Value) : Fr (fun k => k = b) w ((((((((((w.setCell ⟨b, 0, none⟩ v0).setCell ⟨b, 1, none⟩ v1).setCell ⟨b, 2, none⟩ v2).setCell ⟨b, 3, none⟩ v3).setCell ⟨b, 4, none⟩ v4).setCell ⟨b, 5, none⟩ v5).setCell ⟨b, 6, none⟩ v6).setCell ⟨b, 7, none⟩ v7).setCell ⟨b, 8, none⟩ v8).setCell ⟨b, 9, none⟩ v9) := by
  have st : ∀ (W : World) (i : Nat) (v : Value), Fr (fun k => k = b) w W → Fr (fun k => k = b) w (W.setCell ⟨b, i, none⟩ v) := fun W i v h => h.trans (Fr.setCell (S := fun k => k = b) W rfl v) (fun k e => .inl e)
  exact st _ _ _ (st _ _ _ (st _ _ _ (st _ _ _ (st _ _ _ (st _ _ _ (st _ _ _ (st _ _ _ (st _ _ _ (st _ _ _ (Fr.refl _ _))))))))))
theorem fr_set3 (w : World) (b : Nat) (v0 v1 v2 : Value) : Fr (fun k => k = b) w (((w.setCell ⟨b, 0, none⟩ v0).setCell ⟨b, 1, none⟩ v1).setCell ⟨b, 2, none⟩ v2) := by
  have st : ∀ (W : World) (i : Nat) (v : Value), Fr (fun k => k = b) w W → Fr (fun k => k = b) w (W.setCell ⟨b, i, none⟩ v) := fun W i v h => h.trans (Fr.setCell (S := fun k => k = b) W rfl v) (fun k e => .inl e)
  exact st _ _ _ (st _ _ _ (st _ _ _ (Fr.refl _ _)))
/-- A document's end that is laid. -/
theorem laid10 (w : World) (v0 v1 v2 v3 v4 v5 v6 v7 v8 v9 : Value) : Below w.heap.size w (((((((((((w.alloc (.cells #[.int .i64 0, .int .i64 0, .slice none 0 0, .int .i64 0, .int .i64 0, .slice none 0 0, .int .i64 0, .int .i64 0, .bool false, .bool false] 27)).setCell ⟨w.heap.size, 0, none⟩ v0).setCell ⟨w.heap.size, 1, none⟩ v1).setCell ⟨w.heap.size, 2, none⟩ v2).setCell ⟨w.heap.size, 3, none⟩ v3).setCell ⟨w.heap.size, 4, none⟩ v4).setCell ⟨w.heap.size, 5, none⟩ v5).setCell ⟨w.heap.size, 6, none⟩ v6).setCell ⟨w.heap.size, 7, none⟩ v7).setCell ⟨w.heap.size, 8, none⟩ v8).setCell ⟨w.heap.size, 9, none⟩ v9) ∧ (((((((((((w.alloc (.cells #[.int .i64 0, .int .i64 0, .slice none 0 0, .int .i64 0, .int .i64 0, .slice none 0 0, .int .i64 0, .int .i64 0, .bool false, .bool false] 27)).setCell ⟨w.heap.size, 0, none⟩ v0).setCell ⟨w.heap.size, 1, none⟩ v1).setCell ⟨w.heap.size, 2, none⟩ v2).setCell ⟨w.heap.size, 3, none⟩ v3).setCell ⟨w.heap.size, 4, none⟩ v4).setCell ⟨w.heap.size, 5, none⟩ v5).setCell ⟨w.heap.size, 6, none⟩ v6).setCell ⟨w.heap.size, 7, none⟩ v7).setCell ⟨w.heap.size, 8, none⟩ v8).setCell ⟨w.heap.size, 9, none⟩ v9).heap[w.heap.size]? = some (.cells #[v0, v1, v2, v3, v4, v5, v6, v7, v8, v9] 27 (0, 0)) :=
  ⟨Fr.below (below_alloc (Below.refl _ _) _) (below_alloc (Below.refl _ _) _).size (fr_set10 _ _ _ _ _ _ _ _ _ _ _ _) (fun k e => Nat.le_of_eq e.symm), put10 (blk_new w _) _ _ _ _ _ _ _ _ _ _⟩
/-- A number, cut to less than n. -/
def modN (x n : Int) : Int := wrap64 ((IntKind.u64.wrap x).tmod n)
theorem modN_in (x n : Int) (h : 0 < n) (h2 : n ≤ 1099511627776) : 0 ≤ modN x n ∧ modN x n < n := by
  have hu : 0 ≤ IntKind.u64.wrap x := Int.emod_nonneg x (by decide)
  have h3 := Int.tmod_nonneg n hu
  have h4 := Int.tmod_lt_of_pos (IntKind.u64.wrap x) h
  unfold modN
  generalize (IntKind.u64.wrap x).tmod n = z at *
  unfold wrap64
  omega
/-- What the document's end is behind one thing done. -/
def stepR (r : Rf) (K : Int) (m : List Int) (now f : Int) (l : List (List Int)) (h : Int) : Rf :=
  if modN K 4 = 0 then sayR r m else if modN K 4 = 1 then tickR r (modN now 1099511627776) else if modN K 4 = 2 then hearR r f h (l.take (mn (l.length : Int) 70).toNat) else gotR r
theorem OkR.step {n : Nat} {r : Rf} (ok : OkR n r) (K : Int) (m : List Int) (now f : Int) (l : List (List Int)) (h : Int) : OkR (n + 1) (stepR r K m now f l h) := by
  unfold stepR
  split
  · exact ok.say m
  split
  · exact ok.tick _ (modN_in now _ (by decide) (by decide))
  split
  · exact ok.hear f h _
  · exact ok.got
/-- The blocks of a call's own, that nothing else is. -/
theorem laid3 (w : World) (o4 o5 o6 : Array Value) (t4 t5 t6 : TypeId) : Below w.heap.size w (((w.alloc (.cells o4 t4)).alloc (.cells o5 t5)).alloc (.cells o6 t6)) ∧ (((w.alloc (.cells o4 t4)).alloc (.cells o5 t5)).alloc (.cells o6 t6)).heap[w.heap.size]? = some (.cells o4 t4 (0, 0)) ∧ (((w.alloc (.cells o4 t4)).alloc (.cells o5 t5)).alloc (.cells o6 t6)).heap[w.heap.size + 1]? = some (.cells o5 t5 (0, 0)) ∧ (((w.alloc (.cells o4 t4)).alloc (.cells o5 t5)).alloc (.cells o6 t6)).heap[w.heap.size + 1 + 1]? = some (.cells o6 t6 (0, 0)) := by
  refine ⟨below_alloc (below_alloc (below_alloc (Below.refl _ _) _) _) _, blk_alloc (blk_alloc (blk_new w _) _) _, blk_alloc ?_ _, ?_⟩
  · have := blk_new (w.alloc (.cells o4 t4)) (.cells o5 t5)
    simpa using this
  · have := blk_new ((w.alloc (.cells o4 t4)).alloc (.cells o5 t5)) (.cells o6 t6)
    simpa using this
theorem laid2 (w : World) (o4 o5 : Array Value) (t4 t5 : TypeId) : Below w.heap.size w ((w.alloc (.cells o4 t4)).alloc (.cells o5 t5)) ∧ ((w.alloc (.cells o4 t4)).alloc (.cells o5 t5)).heap[w.heap.size]? = some (.cells o4 t4 (0, 0)) ∧ ((w.alloc (.cells o4 t4)).alloc (.cells o5 t5)).heap[w.heap.size + 1]? = some (.cells o5 t5 (0, 0)) := by
  refine ⟨below_alloc (below_alloc (Below.refl _ _) _) _, blk_alloc (blk_new w _) _, ?_⟩
  have := blk_new (w.alloc (.cells o4 t4)) (.cells o5 t5)
  simpa using this
end Go.Proofs.Yteeljnlhgaljaaa
