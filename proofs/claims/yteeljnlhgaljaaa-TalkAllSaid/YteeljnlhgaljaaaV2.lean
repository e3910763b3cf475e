/- The protocol of two ends, and packets under way: what stays true whatever is done. -/
import Derived.Test.YteeljnlhgaljaaaW1
namespace Go.Proofs.Yteeljnlhgaljaaa
set_option linter.unusedVariables false
set_option linter.unusedSimpArgs false
open Go.RowKit Go.Proofs.YteeljnlhgaljaaaW.PrintWords Go.Proofs.YteeljnlhgaljaaaW.PrintLast Go.Proofs.Yteeljnlhgaljaaa.P

theorem gotP_keep (t : Tk) (f : Int) (l : List (List Int)) : (gotP t f l).most = t.most ∧ (gotP t f l).again = t.again ∧ (gotP t f l).last = t.last ∧ (gotP t f l).went = t.went := by
  unfold gotP
  split
  · exact ⟨rfl, rfl, rfl, rfl⟩
  · exact ⟨rfl, rfl, rfl, rfl⟩
theorem acked_keep (t : Tk) (h : Int) : (acked t h).most = t.most ∧ (acked t h).again = t.again ∧ (acked t h).last = t.last ∧ (acked t h).went = t.went := by
  unfold acked
  split
  · exact ⟨rfl, rfl, rfl, rfl⟩
  · exact ⟨rfl, rfl, rfl, rfl⟩
structure Inv (x y : Int) (fb : Bool) (M A T : Int) (na nb : Nat) (ta tb : Tk) (la lb : List (List Int)) (ps : List S87) : Prop where
  ab : Dir x na ta tb.heard (lb ++ tb.got)
  ba : Dir y nb tb ta.heard (la ++ ta.got)
  pb : ∀ p ∈ ps, p.f1 = fb → Seg x na tb.heard ta.heard p.f0 ∧ ta.went = true
  pa : ∀ p ∈ ps, p.f1 = !fb → Seg y nb ta.heard tb.heard p.f0 ∧ tb.went = true
  ca : ta.most = M ∧ ta.again = A ∧ 0 ≤ ta.last ∧ ta.last ≤ T
  cb : tb.most = M ∧ tb.again = A ∧ 0 ≤ tb.last ∧ tb.last ≤ T
section
variable {x y : Int} {fb : Bool} {M A T T' : Int} {na nb : Nat} {ta tb : Tk} {la lb : List (List Int)} {ps ps' : List S87}
theorem Inv.swap (h : Inv x y fb M A T na nb ta tb la lb ps) : Inv y x (!fb) M A T nb na tb ta lb la ps :=
  ⟨h.ba, h.ab, h.pa, fun p hp e => h.pb p hp (by simpa using e), h.cb, h.ca⟩
theorem Inv.later (h : Inv x y fb M A T na nb ta tb la lb ps) (hT : T ≤ T') : Inv x y fb M A T' na nb ta tb la lb ps :=
  ⟨h.ab, h.ba, h.pb, h.pa, ⟨h.ca.1, h.ca.2.1, h.ca.2.2.1, Int.le_trans h.ca.2.2.2 hT⟩, ⟨h.cb.1, h.cb.2.1, h.cb.2.2.1, Int.le_trans h.cb.2.2.2 hT⟩⟩
theorem Inv.fewer (h : Inv x y fb M A T na nb ta tb la lb ps) (hs : ∀ p ∈ ps', p ∈ ps) : Inv x y fb M A T na nb ta tb la lb ps' :=
  ⟨h.ab, h.ba, fun p hp => h.pb p (hs p hp), fun p hp => h.pa p (hs p hp), h.ca, h.cb⟩
theorem Inv.heard0 (h : Inv x y fb M A T na nb ta tb la lb ps) : 0 ≤ ta.heard ∧ ta.heard ≤ nb := ⟨Int.le_trans h.ba.done0 h.ba.done, h.ba.heard⟩
theorem Inv.fit (h : Inv x y fb M A T na nb ta tb la lb ps) (ha : na < 1000000) (hb : nb < 1000000) : Fit ta := by
  have h1 := h.heard0
  refine ⟨h.ab.waits, h.ab.done0, by rw [h.ab.said]; omega, by rw [h.ab.said]; exact h.ab.gone, h.ab.gone0, ⟨h1.1, by omega⟩, ?_⟩
  have := congrArg List.length h.ba.all
  rw [List.length_append, List.length_take, wordsL_len] at this
  omega
theorem Inv.say (h : Inv x y fb M A T na nb ta tb la lb ps) (hw : (ta.wait.length : Int) < ta.most) : Inv x y fb M A T (na + 1) nb { ta with wait := ta.wait ++ [wordL x na], said := ta.said + 1 } tb la lb ps :=
  ⟨h.ab.say hw, h.ba, fun p hp e => ⟨(h.pb p hp e).1.mono (.inr rfl) (Int.le_refl _) (Int.le_refl _), (h.pb p hp e).2⟩, h.pa, h.ca, h.cb⟩
theorem Inv.tick (h : Inv x y fb M A T na nb ta tb la lb ps) (now : Int) (h0 : 0 ≤ now) (hT : T ≤ now) : Inv x y fb M A now na nb (ticked ta now) tb la lb (ps ++ [⟨⟨ta.done, ta.wait, ta.heard⟩, fb⟩]) := by
  refine ⟨h.ab.tick now, h.ba, ?_, ?_, ⟨h.ca.1, h.ca.2.1, h0, Int.le_refl _⟩, (h.later hT).cb⟩
  · intro p hp e
    refine ⟨?_, rfl⟩
    rcases List.mem_append.1 hp with hp | hp
    · exact (h.pb p hp e).1
    · rw [List.mem_singleton.1 hp]
      exact h.ab.packet h.heard0.1
  · intro p hp e
    rcases List.mem_append.1 hp with hp | hp
    · exact h.pa p hp e
    · rw [List.mem_singleton.1 hp] at e
      cases fb <;> cases e
theorem Inv.got (h : Inv x y fb M A T na nb ta tb la lb ps) : Inv x y fb M A T na nb { ta with got := [] } tb (la ++ ta.got) lb ps :=
  ⟨⟨h.ab.said, h.ab.done0, h.ab.wait, h.ab.done, h.ab.heard, h.ab.most, h.ab.most64, h.ab.gone, h.ab.gone0, h.ab.went, h.ab.all⟩, by simpa using h.ba, h.pb, h.pa, h.ca, h.cb⟩
/-- One hears a packet that is under way to it. -/
theorem Inv.hear (h : Inv x y fb M A T na nb ta tb la lb ps) (p : S36) (hp : Seg y nb ta.heard tb.heard p) (hw : tb.went = true) :
    ¬ ta.heard < p.f0 ∧ Inv x y fb M A T na nb (heardT ta p.f0 p.f2 p.f1) tb la lb ps := by
  have hn : ¬ ta.heard < p.f0 := by have := hp.le; omega
  refine ⟨hn, ?_⟩
  unfold heardT
  rw [if_neg hn]
  have hA := h.ab.ack p.f2 hp.h0 hp.hle
  obtain ⟨hB, hle⟩ := h.ba.hear hp (owed (acked ta p.f2) p.f1) (by unfold owed acked; split <;> rfl) la (by unfold owed acked; split <;> rfl) hw
  obtain ⟨hD, e1, e2, e3, e4⟩ : Dir x na (gotP (owed (acked ta p.f2) p.f1) p.f0 p.f1) tb.heard (lb ++ tb.got) ∧ (gotP (owed (acked ta p.f2) p.f1) p.f0 p.f1).most = ta.most ∧ (gotP (owed (acked ta p.f2) p.f1) p.f0 p.f1).again = ta.again ∧ (gotP (owed (acked ta p.f2) p.f1) p.f0 p.f1).last = ta.last ∧ (gotP (owed (acked ta p.f2) p.f1) p.f0 p.f1).went = ta.went := by
    have hO : Dir x na (owed (acked ta p.f2) p.f1) tb.heard (lb ++ tb.got) := hA.same rfl
    refine ⟨?_, ?_, ?_, ?_, ?_⟩
    · unfold gotP
      split
      · exact hO.same rfl
      · exact hO
    all_goals
      first | rw [(gotP_keep _ _ _).1] | rw [(gotP_keep _ _ _).2.1] | rw [(gotP_keep _ _ _).2.2.1] | rw [(gotP_keep _ _ _).2.2.2]
      unfold owed
      first | exact (acked_keep _ _).1 | exact (acked_keep _ _).2.1 | exact (acked_keep _ _).2.2.1 | exact (acked_keep _ _).2.2.2
  generalize gotP (owed (acked ta p.f2) p.f1) p.f0 p.f1 = t' at *
  refine ⟨hD, hB, fun q hq e => ⟨(h.pb q hq e).1.mono (.inl rfl) (Int.le_refl _) hle, by rw [e4]; exact (h.pb q hq e).2⟩, fun q hq e => ⟨(h.pa q hq e).1.mono (.inl rfl) hle (Int.le_refl _), (h.pa q hq e).2⟩, ?_, h.cb⟩
  rw [e1, e2, e3]
  exact h.ca
theorem Inv.badP (h : Inv x y fb M A T na nb ta tb la lb ps) (p : S36) (hp : Seg y nb ta.heard tb.heard p) : badP p.f0 p.f2 p.f1 = false := by
  simp only [Go.Proofs.Yteeljnlhgaljaaa.badP, Bool.or_eq_false_iff, decide_eq_false_iff_not, List.any_eq_false]
  refine ⟨⟨⟨by have := hp.f0; omega, by have := hp.h0; omega⟩, by have := hp.cap; omega⟩, fun m hm => ?_⟩
  have := hp.short m hm
  simp [longM]; omega
theorem Inv.ackd (h : Inv x y fb M A T na nb ta tb la lb ps) (p : S36) (hp : Seg y nb ta.heard tb.heard p) : p.f2 ≤ ta.said := by
  have := hp.hle; have := h.ab.heard; have := h.ab.said; omega
theorem Inv.init (M A : Int) (hM : 1 ≤ M ∧ M ≤ 64) (x y : Int) (fb : Bool) : Inv x y fb M A 0 0 0 (newTk M A) (newTk M A) [] [] [] := by
  refine ⟨⟨by simp, by simp, by simp [wordsL], by simp, by simp, by simp; omega, hM.2, by simp, by simp, by simp, by simp⟩, ⟨by simp, by simp, by simp [wordsL], by simp, by simp, by simp; omega, hM.2, by simp, by simp, by simp, by simp⟩, by simp, by simp, by simp, by simp⟩
/-- What was got at a time when nothing waits to be got. -/
theorem Inv.once (h : Inv x y fb M A T na nb ta tb la lb ps) (hg : ta.got = []) : la.length ≤ nb ∧ la = wordsL y la.length := by
  have h1 := h.heard0
  have ha := h.ba.all
  rw [hg, List.append_nil, wordsL_take y nb _ (by omega)] at ha
  have hl : la.length = ta.heard.toNat := by rw [ha, wordsL_len]
  exact ⟨by omega, by rw [hl]; exact ha⟩
end
end Go.Proofs.Yteeljnlhgaljaaa
