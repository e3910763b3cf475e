/- The protocol: what one end said, the other one hears in order, each once: plain, with no program in sight. -/
import Derived.Test.YteeljnlhgaljaaaC2
namespace Go.Proofs.Yteeljnlhgaljaaa
set_option linter.unusedVariables false
set_option linter.unusedSimpArgs false
open Go.RowKit Go.Proofs.YteeljnlhgaljaaaW.PrintWords Go.Proofs.YteeljnlhgaljaaaW.PrintLast Go.Proofs.Yteeljnlhgaljaaa.P

theorem wordsL_drop_succ (x : Int) (n d : Nat) (h : d ≤ n) : (wordsL x (n + 1)).drop d = (wordsL x n).drop d ++ [wordL x n] := by
  rw [wordsL_succ, List.drop_append_of_le_length (by rw [wordsL_len]; exact h)]
theorem wordsL_take_succ (x : Int) (n d : Nat) (h : d ≤ n) : (wordsL x (n + 1)).take d = (wordsL x n).take d := by
  rw [wordsL_succ, List.take_append_of_le_length (by rw [wordsL_len]; exact h)]
theorem wordsL_take (x : Int) (n d : Nat) (h : d ≤ n) : (wordsL x n).take d = wordsL x d := by
  induction n with
  | zero => obtain rfl : d = 0 := by omega
            simp [wordsL]
  | succ n ih =>
    by_cases hd : d ≤ n
    · rw [wordsL_take_succ x n d hd, ih hd]
    · obtain rfl : d = n + 1 := by omega
      rw [List.take_of_length_le (by rw [wordsL_len]; omega)]
theorem wordsL_mem {x : Int} {n : Nat} {m : List Int} (h : m ∈ wordsL x n) : m.length = 3 := by
  simp only [wordsL, List.mem_map] at h
  obtain ⟨i, -, rfl⟩ := h
  rfl
/-- A packet that tells of the messages x of n, all of which up to its first are heard. -/
structure Seg (x : Int) (n : Nat) (rh sh : Int) (p : S36) : Prop where
  f0 : 0 ≤ p.f0
  le : p.f0 ≤ rh
  len : p.f0 + p.f1.length ≤ n
  seg : p.f1 = ((wordsL x n).drop p.f0.toNat).take p.f1.length
  cap : p.f1.length ≤ 64
  h0 : 0 ≤ p.f2
  hle : p.f2 ≤ sh
/-- From one end to the other: n messages said, rh heard, all: what was got. -/
structure Dir (x : Int) (n : Nat) (s : Tk) (rh : Int) (all : List (List Int)) : Prop where
  said : s.said = n
  done0 : 0 ≤ s.done
  wait : s.wait = (wordsL x n).drop s.done.toNat
  done : s.done ≤ rh
  heard : rh ≤ n
  most : (s.wait.length : Int) ≤ s.most
  most64 : s.most ≤ 64
  gone : s.gone ≤ n
  gone0 : 0 ≤ s.gone
  went : s.went = false → s.gone = 0 ∧ rh = 0
  all : all = (wordsL x n).take rh.toNat
section
variable {x : Int} {n : Nat} {s : Tk} {rh sh : Int} {all : List (List Int)} {p : S36}
theorem Dir.waits (h : Dir x n s rh all) : (s.wait.length : Int) = s.said - s.done := by
  have := h.done; have := h.heard; have := h.done0; have := h.said
  rw [h.wait, List.length_drop, wordsL_len]
  omega
theorem Dir.short (h : Dir x n s rh all) : ∀ m ∈ s.wait, m.length = 3 := by
  intro m hm
  rw [h.wait] at hm
  exact wordsL_mem (List.mem_of_mem_drop hm)
theorem Seg.mono (h : Seg x n rh sh p) {n' : Nat} {rh' sh' : Int} (h1 : n' = n ∨ n' = n + 1) (h2 : rh ≤ rh') (h3 : sh ≤ sh') : Seg x n' rh' sh' p := by
  refine ⟨h.f0, Int.le_trans h.le h2, by have := h.len; omega, ?_, h.cap, h.h0, Int.le_trans h.hle h3⟩
  rcases h1 with rfl | rfl
  · exact h.seg
  · have hl := h.len
    have h0 := h.f0
    have hd : p.f1.length ≤ ((wordsL x n).drop p.f0.toNat).length := by rw [List.length_drop, wordsL_len]; omega
    rw [wordsL_drop_succ x n _ (by omega), List.take_append_of_le_length hd]
    exact h.seg
theorem Seg.short (h : Seg x n rh sh p) : ∀ m ∈ p.f1, m.length = 3 := by
  intro m hm
  rw [h.seg] at hm
  exact wordsL_mem (List.mem_of_mem_drop (List.mem_of_mem_take hm))
theorem Dir.say (h : Dir x n s rh all) (hw : (s.wait.length : Int) < s.most) : Dir x (n + 1) { s with wait := s.wait ++ [wordL x n], said := s.said + 1 } rh all := by
  have h1 := h.done; have h2 := h.heard; have h3 := h.done0
  refine ⟨by simp [h.said], h.done0, ?_, h.done, by omega, by simp; omega, h.most64, by have := h.gone; simp; omega, h.gone0, h.went, ?_⟩
  · simp only []
    rw [wordsL_drop_succ x n _ (by omega), ← h.wait]
  · rw [wordsL_take_succ x n _ (by omega)]
    exact h.all
theorem Dir.tick (h : Dir x n s rh all) (now : Int) : Dir x n (ticked s now) rh all :=
  ⟨h.said, h.done0, h.wait, h.done, h.heard, h.most, h.most64, Int.le_of_eq h.said, by have := h.said; simp [this], by simp, h.all⟩
theorem Dir.packet (h : Dir x n s rh all) (h0 : 0 ≤ s.heard) : Seg x n rh s.heard ⟨s.done, s.wait, s.heard⟩ := by
  have hw := h.waits; have h1 := h.done; have h2 := h.heard; have h3 := h.done0; have h4 := h.most; have h5 := h.most64
  refine ⟨h.done0, h.done, by simp only []; have := h.said; omega, ?_, by simp only []; omega, h0, Int.le_refl _⟩
  simp only []
  rw [← h.wait, List.take_of_length_le (Nat.le_refl _)]
/-- Got: what came is handed out. -/
theorem Dir.same (h : Dir x n s rh all) {s' : Tk} (e : s' = { s with heard := s'.heard, got := s'.got, owes := s'.owes }) : Dir x n s' rh all := by
  rw [e]
  exact ⟨h.said, h.done0, h.wait, h.done, h.heard, h.most, h.most64, h.gone, h.gone0, h.went, h.all⟩
/-- The sender is told how many were heard. -/
theorem Dir.ack (h : Dir x n s rh all) (f2 : Int) (h0 : 0 ≤ f2) (hle : f2 ≤ rh) : Dir x n (acked s f2) rh all := by
  unfold acked
  have h1 := h.done; have h2 := h.heard; have h3 := h.done0
  split
  · rename_i hlt
    refine ⟨h.said, h0, ?_, hle, h.heard, ?_, h.most64, ?_, ?_, ?_, h.all⟩
    · simp only []
      rw [h.wait, List.drop_drop]
      congr 1
      omega
    · simp only [List.length_drop]
      have := h.most
      omega
    · simp only []
      have := h.gone
      split <;> omega
    · simp only []
      have := h.gone0
      split <;> omega
    · intro hw
      have := h.went hw
      omega
  · exact h
/-- The receiver hears. -/
theorem Dir.hear (h : Dir x n s rh all) (hp : Seg x n rh sh p) (r : Tk) (hr : r.heard = rh) (got : List (List Int)) (ha : got ++ r.got = all) (hwt : s.went = true) :
    Dir x n s (gotP r p.f0 p.f1).heard (got ++ (gotP r p.f0 p.f1).got) ∧ rh ≤ (gotP r p.f0 p.f1).heard := by
  unfold gotP
  subst hr
  have h1 := h.done; have h2 := h.heard; have h3 := h.done0; have h4 := hp.le; have h5 := hp.len; have h6 := hp.f0
  split
  · rename_i hlt
    refine ⟨⟨h.said, h.done0, h.wait, by simp only []; omega, hp.len, h.most, h.most64, h.gone, h.gone0, ?_, ?_⟩, by simp only []; omega⟩
    · intro hw
      rw [hwt] at hw
      cases hw
    · simp only []
      rw [← List.append_assoc, ha, h.all, hp.seg, List.length_take, List.length_drop, wordsL_len]
      have e1 : min p.f1.length (n - p.f0.toNat) = p.f1.length := by omega
      rw [e1, List.drop_take, List.drop_drop]
      have e2 : p.f0.toNat + (r.heard - p.f0).toNat = r.heard.toNat := by omega
      have e3 : (p.f0 + (p.f1.length : Int)).toNat = r.heard.toNat + (p.f1.length - (r.heard - p.f0).toNat) := by omega
      rw [e2, e3, List.take_add]
  · exact ⟨ha ▸ h, Int.le_refl _⟩
end
end Go.Proofs.Yteeljnlhgaljaaa
