/- Two ends side by side in memory, and packets under way. -/
import Derived.Test.YteeljnlhgaljaaaJ
namespace Go.Proofs.Yteeljnlhgaljaaa
set_option linter.unusedVariables false
set_option linter.unusedSimpArgs false
open Go.RowKit Go.Proofs.YteeljnlhgaljaaaW.PrintWords Go.Proofs.Yteeljnlhgaljaaa.P

theorem IsTk.tight {w : World} {g : Nat} {S : Nat → Prop} {t : Tk} (h : IsTk w g S t) : IsTk w g (fun k => S k ∧ k < w.heap.size) t := by
  obtain ⟨Sw, Sg, vw, vg, h⟩ := h
  exact ⟨_, _, vw, vg, h.tight⟩
theorem IsTk.mono {w : World} {g : Nat} {S S' : Nat → Prop} {t : Tk} (h : IsTk w g S t) (hs : ∀ k, S k → S' k) : IsTk w g S' t := by
  obtain ⟨Sw, Sg, vw, vg, h⟩ := h
  exact ⟨Sw, Sg, vw, vg, hs g h.own, fun k hk => ⟨hs k (h.inw k hk).1, (h.inw k hk).2⟩, fun k hk => ⟨hs k (h.ing k hk).1, (h.ing k hk).2⟩, h.blk, h.wait, h.got⟩
structure Two (w0 w : World) (ga gb : Nat) (Sa Sb : Nat → Prop) (ta tb : Tk) : Prop where
  a : IsTk w ga Sa ta
  b : IsTk w gb Sb tb
  dis : ∀ k, Sa k → ¬ Sb k
  lta : ∀ k, Sa k → k < w.heap.size
  ltb : ∀ k, Sb k → k < w.heap.size
  ge : ∀ k, Sa k ∨ Sb k → w0.heap.size ≤ k
  fr : Below w0.heap.size w0 w
theorem Two.swap {w0 w : World} {ga gb : Nat} {Sa Sb : Nat → Prop} {ta tb : Tk} (h : Two w0 w ga gb Sa Sb ta tb) : Two w0 w gb ga Sb Sa tb ta := ⟨h.b, h.a, fun k hk hk' => h.dis k hk' hk, h.ltb, h.lta, fun k hk => h.ge k hk.symm, h.fr⟩
/-- The one end has done something. -/
theorem Two.step {w0 w w' : World} {ga gb : Nat} {Sa Sb S' : Nat → Prop} {ta tb ta' : Tk} (h : Two w0 w ga gb Sa Sb ta tb) (hk : IsTk w' ga S' ta') (hs : ∀ k, S' k → Sa k ∨ w.heap.size ≤ k) (hf : Fr Sa w w') : Two w0 w' ga gb (fun k => S' k ∧ k < w'.heap.size) Sb ta' tb :=
  ⟨hk.tight, h.b.frame hf (fun k hk hk' => h.dis k hk' hk), fun k hk hb => (hs k hk.1).elim (fun h' => h.dis k h' hb) (fun h' => by have := h.ltb k hb; omega), fun k hk => hk.2, fun k hk => Nat.lt_of_lt_of_le (h.ltb k hk) hf.size, fun k hk => hk.elim (fun h1 => (hs k h1.1).elim (fun h2 => h.ge k (.inl h2)) (fun h2 => Nat.le_trans h.fr.size h2)) (fun h1 => h.ge k (.inr h1)), Fr.below h.fr h.fr.size hf (fun k hk => h.ge k (.inl hk))⟩
theorem Two.below {w0 w w' : World} {ga gb : Nat} {Sa Sb : Nat → Prop} {ta tb : Tk} (h : Two w0 w ga gb Sa Sb ta tb) (hb : Below w.heap.size w w') : Two w0 w' ga gb Sa Sb ta tb :=
  ⟨h.a.below hb, h.b.below hb, h.dis, fun k hk => Nat.lt_of_lt_of_le (h.lta k hk) hb.size, fun k hk => Nat.lt_of_lt_of_le (h.ltb k hk) hb.size, h.ge, below_then h.fr h.fr.size hb⟩
/-- Messages under way, in no memory of S's. -/
def Free (w : World) (S : Nat → Prop) (v : Value) (l : List (List Int)) : Prop := ∃ P : Nat → Prop, kM.R 34 w 0 P v l ∧ ∀ k, P k → ¬ S k ∧ k < w.heap.size
theorem Free.of_new {w w' : World} {S : Nat → Prop} {v : Value} {l : List (List Int)} (h : kM.R 34 w' w.heap.size (fun _ => True) v l) (hs : ∀ k, S k → k < w.heap.size) : Free w' S v l :=
  ⟨fun k => w.heap.size ≤ k ∧ k < w'.heap.size, Kd.R_lower (Kd.R_mono (Kd.R_bound h) (fun k hk => ⟨hk.2.1, hk.2.2.1⟩)) (Nat.zero_le _), fun k hk => ⟨fun h' => by have := hs k h'; omega, hk.2⟩⟩
/-- It stays, whatever S's blocks become; what S has grown by is not its. -/
theorem Free.step {w w' : World} {S S' : Nat → Prop} {v : Value} {l : List (List Int)} (h : Free w S v l) (hf : Fr S w w') (hs : ∀ k, S' k → S k ∨ w.heap.size ≤ k) : Free w' S' v l := by
  obtain ⟨P, hR, hP⟩ := h
  exact ⟨P, Kd.R_step hR (fun k hk hlt => hf.block k hlt (hP k hk).1), fun k hk => ⟨fun h' => (hs k h').elim (hP k hk).1 (fun h'' => by have := (hP k hk).2; omega), Nat.lt_of_lt_of_le (hP k hk).2 hf.size⟩⟩
theorem Free.reads {w : World} {S : Nat → Prop} {v : Value} {l : List (List Int)} (h : Free w S v l) : ∃ A c, v = .slice A l.length c ∧ l.length ≤ c ∧ ∀ W, Fr S w W → Kd.C kM W A l.length l := by
  obtain ⟨P, hR, hP⟩ := h
  obtain ⟨A, c, rfl, hc, _⟩ := Kd.R_reads hR
  exact ⟨A, c, rfl, hc, fun W hW => (Kd.R_reads' (Kd.R_step hR (fun k hk hlt => hW.block k hlt (hP k hk).1))).2.2⟩
theorem Free.mono {w : World} {S S' : Nat → Prop} {v : Value} {l : List (List Int)} (h : Free w S v l) (hs : ∀ k, S' k → S k) : Free w S' v l := by
  obtain ⟨P, hR, hP⟩ := h
  exact ⟨P, hR, fun k hk => ⟨fun h' => (hP k hk).1 (hs k h'), (hP k hk).2⟩⟩
end Go.Proofs.Yteeljnlhgaljaaa
