/- An instruction that may be touches words alone that there are, and goes on within the instructions, or just behind the last one; it may be among more, with more words. -/
import Derived.Test.YtgnplpmmadbbdaaDoorL1
import Derived.OpenShut
namespace Go.Proofs.YtgnplpmmadbbdaaDoor
set_option linter.unusedVariables false
set_option linter.unusedSimpArgs false
open Go.RowKit Go.Proofs.YtgnplpmmadbbdaaDoorW.PrintWords Go.Proofs.YtgnplpmmadbbdaaDoor.P

/-- What an instruction that may be is like, operation by operation. -/
theorem fit_mono {ch : UInt8} {n s w s2 w2 : Int} (hs : s ≤ s2) (hw : w ≤ w2) (h : fitL ch n s w = true) : fitL ch n s2 w2 = true := by
  unfold fitL at *
  by_cases h1 : ch = 48
  · rw [if_pos h1] at *; exact h
  · rw [if_neg h1] at *
    by_cases h2 : ch = 119
    · rw [if_pos h2] at *; simp at *; omega
    · rw [if_neg h2] at *
      by_cases h3 : ch = 110
      · rw [if_pos h3] at *; exact h
      · rw [if_neg h3] at *; simp at *; omega
theorem right_mono {o a b c s w s2 w2 : Int} (hs : s ≤ s2) (hw : w ≤ w2) (h : rightB o a b c s w = true) : rightB o a b c s2 w2 = true := by
  unfold rightB at *
  simp only [Bool.and_eq_true] at *
  obtain ⟨⟨h1, ⟨h2, h3⟩, h4⟩, h5⟩ := h
  exact ⟨⟨h1, ⟨fit_mono hs hw h2, fit_mono hs hw h3⟩, fit_mono hs hw h4⟩, h5⟩

/-- A word that is read is one that a letter names. -/
theorem readsL_mem (l : List UInt8) (a b c x : Int) (h : x ∈ readsL l a b c) : ∃ ch ∈ l, x = pickN ch a b c := by
  have : ∀ (l : List UInt8) (out : List Int), x ∈ l.foldl (readsStep a b c) out → x ∈ out ∨ ∃ ch ∈ l, x = pickN ch a b c := by
    intro l
    induction l with
    | nil => intro out h; exact .inl h
    | cons ch l ih =>
      intro out h
      rcases ih _ h with h | ⟨ch2, h2, h3⟩
      · unfold readsStep at h
        split at h
        · exact .inl h
        · rcases List.mem_append.1 h with h | h
          · exact .inl h
          · exact .inr ⟨ch, by simp, by simpa using h⟩
      · exact .inr ⟨ch2, by simp [h2], h3⟩
  rcases this l [] h with h | h
  · cases h
  · exact h
/-- Which of the three a letter names is a word. -/
theorem reads_letters (o : Int) : ∀ ch ∈ (kR o).data.toList, (ch = 97 ∧ letter o 0 = 119) ∨ (ch = 98 ∧ letter o 1 = 119) ∨ (ch = 99 ∧ letter o 2 = 119) := by
  refine op_cases (p := fun o => ∀ ch ∈ (kR o).data.toList, (ch = 97 ∧ letter o 0 = 119) ∨ (ch = 98 ∧ letter o 1 = 119) ∨ (ch = 99 ∧ letter o 2 = 119)) (by decide) (fun op h => ?_) o
  unfold kR
  rw [if_neg (by omega)]
  intro ch h; cases h
theorem writes_letter : ∀ n : Fin 22, kW (n.val : Int) = true → letter (n.val : Int) 0 = 119 := by decide
theorem jumps_letter : ∀ n : Fin 22, 19 ≤ n.val → letter (n.val : Int) 0 = 112 := by decide
theorem words_of (o a b c s w : Int) (h : rightB o a b c s w = true) :
    (∀ n ∈ readsL (kR o).data.toList a b c, 0 ≤ n ∧ n < w) ∧ (kW o = true → 0 ≤ a ∧ a < w) ∧ (19 ≤ o → 0 ≤ a ∧ a < s) ∧ (0 ≤ o ∧ o < 22) := by
  have hio : isOp o = true := by
    cases hi : isOp o
    · rw [right_none hi] at h; cases h
    · rfl
  have hr := of_decide_eq_true hio
  unfold rightB at h
  simp only [Bool.and_eq_true] at h
  obtain ⟨⟨_, ⟨g1, g2⟩, g3⟩, _⟩ := h
  have w119 : ∀ {x : Int}, fitL 119 x s w = true → 0 ≤ x ∧ x < w := fun {x} hx => by simpa [fitL] using hx
  have p112 : ∀ {x : Int}, fitL 112 x s w = true → 0 ≤ x ∧ x < s := fun {x} hx => by simpa [fitL] using hx
  refine ⟨fun n hn => ?_, fun hk => ?_, fun hj => ?_, hr⟩
  · obtain ⟨ch, hch, rfl⟩ := readsL_mem _ _ _ _ _ hn
    rcases reads_letters o ch hch with ⟨rfl, e⟩ | ⟨rfl, e⟩ | ⟨rfl, e⟩
    · rw [e] at g1; exact w119 g1
    · rw [e] at g2; exact w119 g2
    · rw [e] at g3; exact w119 g3
  · have := writes_letter ⟨o.toNat, by omega⟩
    rw [show ((o.toNat : Nat) : Int) = o from by omega] at this
    rw [this hk] at g1; exact w119 g1
  · have := jumps_letter ⟨o.toNat, by omega⟩ (by show 19 ≤ o.toNat; omega)
    rw [show ((o.toNat : Nat) : Int) = o from by omega] at this
    rw [this] at g1; exact p112 g1

theorem within_l0 (x3 x4 n m o a b c : Int) (l : List Int) (hl : l.length ≤ 1000) (hin : ∀ x ∈ l, 0 ≤ x ∧ x < m) (r : Bool) (K : Nat)
    (hrest : ∀ k, K ≤ k → ((code_Instr_Writes.f o a b c).bind fun t216 => (if t216 < (-1) then (baizelaw14_CodeWithin.j2 k x3 x4 n m true o a b c) else (baizelaw14_CodeWithin.j2 k x3 x4 n m (decide (t216 ≥ m)) o a b c))) = some r) :
    ∀ (d k i : Nat), l.length - i = d → d + K < k → i ≤ l.length → baizelaw14_CodeWithin.l0 k x3 x4 n m l (l.length : Int) (i : Int) o a b c = some r := by
  intro d
  induction d with
  | zero =>
    intro k i hd hk hi
    obtain ⟨k, rfl⟩ : ∃ j, k = j + 1 := ⟨k - 1, by omega⟩
    simp only [baizelaw14_CodeWithin.l0]
    rw [if_neg (by omega)]
    exact hrest k (by omega)
  | succ d ih =>
    intro k i hd hk hi
    obtain ⟨k, rfl⟩ : ∃ j, k = j + 1 := ⟨k - 1, by omega⟩
    have h1 : i < l.length := by omega
    have hrd : rd l (i : Int) = l[i] := by simp [rd, List.getD, h1]
    have := hin l[i] (List.getElem_mem h1)
    simp only [baizelaw14_CodeWithin.l0]
    rw [if_pos (by omega), if_pos (by omega), if_pos (by omega), hrd, if_neg (by omega), if_neg (by omega), wrap64_nat i l.length h1 (by omega)]
    exact ih k (i + 1) (by omega) (by omega) (by omega)
theorem within_l1 (x3 n m at_ o a b c : Int) (l all : List Int) (hl : l.length ≤ 1000) (hin : ∀ x ∈ l, 0 ≤ x ∧ (x < n ∨ (x = n ∧ at_ = n - 1))) (hn : 0 ≤ n ∧ n ≤ 65536) (r : Bool)
    (hrest : (if (((all.length : Int) == 0) == (o == 0)) = true then (if (all.length : Int) ≤ 2 then ((code_Instr_Right.f o a b c (wrap64 (n + (wrap64 (x3)))) m).bind fun t221 => (if t221 = true then ((code_Instr_Right.f o a b c n (wrap64 (m + (wrap64 (x3))))).bind fun t222 => (some t222)) else (some false))) else (some false)) else (some false)) = some r) :
    ∀ (d k i : Nat), l.length - i = d → d < k → i ≤ l.length → baizelaw14_CodeWithin.l1 k x3 n m at_ all l (l.length : Int) (i : Int) o a b c = some r := by
  intro d
  induction d with
  | zero =>
    intro k i hd hk hi
    obtain ⟨k, rfl⟩ : ∃ j, k = j + 1 := ⟨k - 1, by omega⟩
    simp only [baizelaw14_CodeWithin.l1]
    rw [if_neg (by omega)]
    exact hrest
  | succ d ih =>
    intro k i hd hk hi
    obtain ⟨k, rfl⟩ : ∃ j, k = j + 1 := ⟨k - 1, by omega⟩
    have h1 : i < l.length := by omega
    have hrd : rd l (i : Int) = l[i] := by simp [rd, List.getD, h1]
    have := hin l[i] (List.getElem_mem h1)
    simp only [baizelaw14_CodeWithin.l1]
    rw [if_pos (by omega), if_pos (by omega), if_pos (by omega), hrd, if_neg (by omega), if_neg (by omega), wrap64_nat i l.length h1 (by omega)]
    have hi2 := ih k (i + 1) (by omega) (by omega) (by omega)
    by_cases he : l[i] = n
    · rw [if_pos he, if_pos (by unfold wrap64; omega)]; exact hi2
    · rw [if_neg he]; exact hi2

theorem next_is (o a b c t : Int) (k : Nat) (h0 : 0 ≤ o) (h1 : o < 22) (ht : 0 ≤ t) (ht2 : t < 65536) : ∃ l, code_Instr_Next.f (k + 1) o a b c t = some l ∧ l.length ≤ 2 ∧ (l = [] ↔ o = 0) ∧ ∀ x ∈ l, x = t + 1 ∨ (19 ≤ o ∧ x = a) := by
  have hw : wrap64 (t + 1) = t + 1 := by unfold wrap64; omega
  simp only [code_Instr_Next.f, code_find.f, Option.bind_some, isOp]
  rw [if_pos (by simp; omega)]
  simp only [code_Instr_Next.j0, hw]
  by_cases h2 : o = 0
  · subst h2; exact ⟨[], by simp, by simp, by simp, by simp⟩
  · rw [if_neg (by simpa using h2)]
    by_cases h3 : o = 19
    · rw [if_pos h3]; exact ⟨_, rfl, by simp, by simp [h2], by intro x hx; simp at hx; exact .inr ⟨by omega, hx⟩⟩
    · rw [if_neg h3]
      by_cases h4 : o = 20
      · rw [if_pos h4]; split
        · exact ⟨_, rfl, by simp, by simp [h2], by intro x hx; simp at hx; exact .inl hx⟩
        · exact ⟨_, rfl, by simp, by simp [h2], by intro x hx; simp at hx; exact hx.elim .inl (fun h => .inr ⟨by omega, h⟩)⟩
      · rw [if_neg h4]
        by_cases h5 : o = 21
        · rw [if_pos h5]; split
          · exact ⟨_, rfl, by simp, by simp [h2], by intro x hx; simp at hx; exact .inl hx⟩
          · exact ⟨_, rfl, by simp, by simp [h2], by intro x hx; simp at hx; exact hx.elim .inl (fun h => .inr ⟨by omega, h⟩)⟩
        · rw [if_neg h5]; exact ⟨_, rfl, by simp, by simp [h2], by intro x hx; simp at hx; exact .inl hx⟩

theorem u16_range {x : Int} (h : (Lit.int .u16 x).wf = true) : 0 ≤ x ∧ x < 65536 := by
  have := bounds_u16 h
  omega
theorem codeWithin_pure (o a b c n m more at_ : Int) (hn : 0 ≤ n ∧ n < 65536) (hm : 0 ≤ m ∧ m < 65536) (hmo : 0 ≤ more ∧ more < 65536) (hat : 0 ≤ at_ ∧ at_ < 65536) : ∃ k, baizelaw14_CodeWithin.f k o a b c n m more at_ = some true := by
  refine ⟨50, ?_⟩
  have wr : ∀ x : Int, 0 ≤ x → x < 1000000 → wrap64 x = x := fun x h1 h2 => by unfold wrap64; omega
  unfold baizelaw14_CodeWithin.f
  rw [known_some 50 (by decide), wr n (by omega) (by omega), wr m (by omega) (by omega)]
  simp only [Option.bind_some, if_true, code_Instr_Right.f]
  have dead : ∀ x : Bool, x = true → baizelaw14_CodeWithin.j0 50 more at_ n m x o a b c = some true := fun x hx => by
    simp only [baizelaw14_CodeWithin.j0]
    rw [hx, if_pos rfl, known_some 49 (by decide)]; rfl
  by_cases hr : rightB o a b c n m = true
  · rw [if_pos hr]
    by_cases hn0 : n = 0
    · exact dead _ (by simp [hn0])
    · obtain ⟨q1, q2, q3, q4⟩ := words_of o a b c n m hr
      have hnn : 0 < n := by omega
      have hmod : Int.tmod at_ n = at_ % n := Int.tmod_eq_emod_of_nonneg hat.1
      have hm1 := Int.emod_nonneg at_ hn0
      have hm2 := Int.emod_lt_of_pos at_ hnn
      simp only [baizelaw14_CodeWithin.j0]
      rw [if_neg (by simpa using hn0)]
      simp only [code_Instr_Reads.f, Option.bind_some]
      have hrl : (readsL (kR o).data.toList a b c).length ≤ 2 := Nat.le_trans (readsL_len _ _ _ _) (kR_size o)
      refine within_l0 more at_ n m o a b c _ (by omega) q1 true 10 (fun k hk => ?_) _ _ 0 rfl (by omega) (by omega)
      obtain ⟨k, rfl⟩ : ∃ j, k = j + 1 := ⟨k - 1, by omega⟩
      obtain ⟨k, rfl⟩ : ∃ j, k = j + 1 := ⟨k - 1, by omega⟩
      have hj2 : baizelaw14_CodeWithin.j2 (k + 1 + 1) more at_ n m false o a b c = some true := by
        simp only [baizelaw14_CodeWithin.j2]
        rw [if_neg (by decide), if_neg hn0, wr at_ (by omega) (by omega), hmod]
        obtain ⟨l, hl, hl2, hl3, hl4⟩ := next_is o a b c (at_ % n) k q4.1 q4.2 hm1 (by omega)
        rw [hl]
        simp only [Option.bind_some]
        refine within_l1 more n m (at_ % n) o a b c l l (by omega) (fun x hx => ?_) (by omega) true ?_ _ _ 0 rfl (by omega) (by omega)
        · rcases hl4 x hx with rfl | ⟨h19, rfl⟩
          · omega
          · have := q3 h19; omega
        · have hb : (((l.length : Int) == 0) == (o == 0)) = true := by
            by_cases ho : o = 0
            · simp [hl3.2 ho, ho]
            · have : l ≠ [] := fun e => ho (hl3.1 e)
              have : l.length ≠ 0 := fun e => this (List.length_eq_zero_iff.1 e)
              rw [show ((l.length : Int) == 0) = false by rw [beq_eq_false_iff_ne]; omega, show (o == 0) = false by rw [beq_eq_false_iff_ne]; exact ho]; rfl
          rw [if_pos hb, if_pos (by omega), wr more (by omega) (by omega), wr (n + more) (by omega) (by omega), wr (m + more) (by omega) (by omega)]
          simp only [code_Instr_Right.f, Option.bind_some, right_mono (show n ≤ n + more by omega) (Int.le_refl m) hr, if_true, right_mono (Int.le_refl n) (show m ≤ m + more by omega) hr]
      simp only [code_Instr_Writes.f, code_find.f, Option.bind_some]
      cases hk : kW o
      · simp only [Bool.false_eq_true, if_false, Option.bind_some]
        rw [if_neg (by omega), decide_eq_false (by omega)]; exact hj2
      · have := q2 hk
        simp only [if_true, Option.bind_some]
        rw [if_neg (by omega), decide_eq_false (by omega)]; exact hj2
  · rw [if_neg hr]
    exact dead _ rfl
end Go.Proofs.YtgnplpmmadbbdaaDoor
