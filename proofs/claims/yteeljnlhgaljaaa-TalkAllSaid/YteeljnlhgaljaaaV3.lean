/- Once a packet comes through each way, twice, all is heard, and nobody waits: plain. -/
import Derived.Test.YteeljnlhgaljaaaV2
namespace Go.Proofs.Yteeljnlhgaljaaa
set_option linter.unusedVariables false
set_option linter.unusedSimpArgs false
open Go.RowKit Go.Proofs.YteeljnlhgaljaaaW.PrintWords Go.Proofs.YteeljnlhgaljaaaW.PrintLast Go.Proofs.Yteeljnlhgaljaaa.P

/-- One end ticks; if a packet goes out, it comes through. -/
structure Half (na nb : Nat) (ta tb ta' tb' : Tk) : Prop where
  heard : tb'.heard = na
  told : ta'.wait = [] ∨ tb'.owes = true
  stays : tb.wait = [] → tb'.wait = []
  wait : ta'.wait = ta.wait
  hears : ta'.heard = ta.heard
  acks : ta.owes = true → ta.heard = nb → tb'.wait = []
  last : tb'.last = tb.last
section
variable {x y : Int} {fb : Bool} {M A T now : Int} {na nb : Nat} {ta tb : Tk} {la lb : List (List Int)} {ps : List S87}
theorem Inv.quiet (h : Inv x y fb M A T na nb ta tb la lb ps) (hA : A ≤ 1000) (hT : ta.last + 1000 ≤ now) (hd : dueB ta now = false) : Half na nb ta tb ta tb := by
  simp only [dueB, Bool.or_eq_false_iff, Bool.and_eq_false_iff, decide_eq_false_iff_not, Bool.not_eq_false'] at hd
  obtain ⟨⟨h1, h2⟩, h3⟩ := hd
  have hs := h.ab.said
  have hg := h.ab.gone
  have hw : ta.wait = [] := by
    have hwl := h.ab.waits
    rcases h3 with (h3 | h3) | h3
    · exact List.isEmpty_iff.1 h3
    · obtain ⟨h4, h5⟩ := h.ab.went h3
      have h6 := h.ab.done; have h7 := h.ab.done0
      apply List.length_eq_zero_iff.1
      omega
    · have := h.ca
      omega
  have hh : tb.heard = na := by
    have hwl := h.ab.waits
    rw [hw] at hwl
    simp at hwl
    have h6 := h.ab.done; have h7 := h.ab.heard
    omega
  exact ⟨hh, .inl hw, id, rfl, rfl, fun h4 => (by rw [h2] at h4; cases h4), rfl⟩
theorem Inv.through (h : Inv x y fb M A T na nb ta tb la lb ps) (h0 : 0 ≤ now) (hT : T ≤ now) :
    Seg x na tb.heard ta.heard ⟨ta.done, ta.wait, ta.heard⟩ ∧ Inv x y fb M A now na nb (ticked ta now) (heardT tb ta.done ta.heard ta.wait) la lb ps ∧ Half na nb ta tb (ticked ta now) (heardT tb ta.done ta.heard ta.wait) := by
  have hp := h.ab.packet h.heard0.1
  have hI := ((h.tick now h0 hT).fewer (ps' := ps) (fun p hp => List.mem_append_left _ hp)).swap
  obtain ⟨hn, hI2⟩ := hI.hear ⟨ta.done, ta.wait, ta.heard⟩ hp rfl
  have hI3 : Inv x y fb M A now na nb (ticked ta now) (heardT tb ta.done ta.heard ta.wait) la lb ps := by
    have := hI2.swap
    simpa using this
  have hwl := h.ab.waits
  have hs := h.ab.said
  have hth : tb.heard = (owed (acked tb ta.heard) ta.wait).heard := by unfold owed acked; split <;> rfl
  have htw : (heardT tb ta.done ta.heard ta.wait).wait = (acked tb ta.heard).wait := by
    unfold heardT
    rw [if_neg hn]
    unfold gotP owed
    split <;> rfl
  have hto : (heardT tb ta.done ta.heard ta.wait).owes = ((acked tb ta.heard).owes || decide (0 < ta.wait.length)) := by
    unfold heardT
    rw [if_neg hn]
    unfold gotP owed
    split <;> rfl
  have hla : (heardT tb ta.done ta.heard ta.wait).last = tb.last := by
    unfold heardT
    rw [if_neg hn, (gotP_keep _ _ _).2.2.1]
    exact (acked_keep _ _).2.2.1
  refine ⟨hp, hI3, ⟨?_, ?_, ?_, rfl, rfl, ?_, hla⟩⟩
  · have h1 := hI3.ab.heard
    unfold heardT at h1 ⊢
    rw [if_neg hn] at h1 ⊢
    unfold gotP at h1 ⊢
    have h2 := h.ab.heard
    split
    · simp only []
      omega
    · rename_i hlt
      rw [← hth] at hlt ⊢
      omega
  · rw [hto]
    by_cases hw : 0 < ta.wait.length
    · right; simp [hw]
    · left
      exact List.length_eq_zero_iff.1 (by simp only []; omega)
  · intro hw
    rw [htw]
    unfold acked
    split
    · simp [hw]
    · exact hw
  · intro ho hh
    rw [htw]
    have hb := h.ba.waits
    have hbs := h.ba.said
    have hd := h.ba.done
    apply List.length_eq_zero_iff.1
    unfold acked
    split
    · simp only [List.length_drop]
      omega
    · rename_i hlt
      omega
end
/-- How far it is behind so many rounds. -/
structure Far (i na nb : Nat) (ta tb : Tk) : Prop where
  one : 1 ≤ i → ta.wait = [] ∧ (tb.wait = [] ∨ ta.owes = true) ∧ ta.heard = nb ∧ tb.heard = na
  two : 2 ≤ i → tb.wait = []
/-- A whole round. -/
theorem Far.next {i na nb : Nat} {ta tb ta' tb' ta'' tb'' : Tk} (h : Far i na nb ta tb) (h1 : Half na nb ta tb ta' tb') (h2 : Half nb na tb' ta' tb'' ta'') : Far (i + 1) na nb ta'' tb'' := by
  refine ⟨fun _ => ⟨?_, ?_, h2.heard, ?_⟩, fun hi => ?_⟩
  · rcases h1.told with hw | ho
    · exact h2.stays hw
    · exact h2.acks ho h1.heard
  · exact h2.told
  · rw [h2.hears]; exact h1.heard
  · obtain ⟨h3, h4, h5, h6⟩ := h.one (by omega)
    rw [h2.wait]
    rcases h4 with h4 | h4
    · exact h1.stays h4
    · exact h1.acks h4 h5
end Go.Proofs.Yteeljnlhgaljaaa
