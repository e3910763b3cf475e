/- By hand: two ends are the same just if the document's are; what is of bytes stays so. -/
import Derived.Test.YteeljnlhgaljaaaR6b
import Derived.Test.YteeljnlhgaljaaaR7
import Derived.Test.YteeljnlhgaljaaaC7
import Derived.Lib.Bytes
namespace Go.Proofs.Yteeljnlhgaljaaa
set_option linter.unusedVariables false
set_option linter.unusedSimpArgs false
open Go.RowKit Go.Proofs.YteeljnlhgaljaaaW.PrintWords Go.Proofs.YteeljnlhgaljaaaW.PrintLast Go.Proofs.YteeljnlhgaljaaaW.PrintMore Go.Proofs.Yteeljnlhgaljaaa.P

def ByteL (m : List Int) : Prop := ∀ b ∈ m, 0 ≤ b ∧ b < 256
theorem bytes_inj : ∀ (a b : List Int), ByteL a → ByteL b → (a.map fun n => UInt8.ofNat n.toNat) = (b.map fun n => UInt8.ofNat n.toNat) → a = b
  | [], [], _, _, _ => rfl
  | [], _ :: _, _, _, h => by simp at h
  | _ :: _, [], _, _, h => by simp at h
  | x :: a, y :: b, ha, hb, h => by
    simp only [List.map_cons, List.cons.injEq] at h
    have h1 := ha x (List.mem_cons_self)
    have h2 := hb y (List.mem_cons_self)
    have h3 := congrArg UInt8.toNat h.1
    simp only [UInt8.toNat_ofNat'] at h3
    rw [Nat.mod_eq_of_lt (by omega), Nat.mod_eq_of_lt (by omega)] at h3
    obtain rfl : x = y := by omega
    rw [bytes_inj a b (fun z hz => ha z (List.mem_cons_of_mem _ hz)) (fun z hz => hb z (List.mem_cons_of_mem _ hz)) h.2]
theorem tx_inj {a b : List Int} (ha : ByteL a) (hb : ByteL b) (h : tx a = tx b) : a = b := by
  unfold tx at h
  rw [Go.Lib.strOfNums_toList, Go.Lib.strOfNums_toList] at h
  exact bytes_inj a b ha hb h
theorem map_tx : ∀ (a b : List (List Int)), (∀ m ∈ a, ByteL m) → (∀ m ∈ b, ByteL m) → a.map tx = b.map tx → a = b
  | [], [], _, _, _ => rfl
  | [], _ :: _, _, _, h => by simp at h
  | _ :: _, [], _, _, h => by simp at h
  | x :: a, y :: b, ha, hb, h => by
    simp only [List.map_cons, List.cons.injEq] at h
    rw [tx_inj (ha x (List.mem_cons_self)) (hb y (List.mem_cons_self)) h.1, map_tx a b (fun z hz => ha z (List.mem_cons_of_mem _ hz)) (fun z hz => hb z (List.mem_cons_of_mem _ hz)) h.2]
theorem sameL_bytes {a b : List (List Int)} (ha : ∀ m ∈ a, ByteL m) (hb : ∀ m ∈ b, ByteL m) : sameL a b = decide (a = b) := by
  unfold sameL
  by_cases c : a = b
  · rw [c, decide_eq_true rfl, decide_eq_true rfl]
  · rw [decide_eq_false c, decide_eq_false (fun e => c (map_tx a b ha hb e))]
/-- All is of bytes; nothing that was taken is too long. -/
structure OkB (r : Rf) : Prop where
  said : ∀ m ∈ r.said, ByteL m
  took : ∀ m ∈ r.took, ByteL m ∧ m.length ≤ 4096
theorem okB0 (most again : Int) : OkB (rf0 most again) := ⟨by simp, by simp⟩
theorem OkB.step {r : Rf} (h : OkB r) (K : Int) (m : List Int) (now f : Int) (l : List (List Int)) (hd : Int) (hm : ByteL m) (hl : ∀ x ∈ l, ByteL x) : OkB (stepR r K m now f l hd) := by
  unfold stepR
  split
  · unfold sayR
    split
    · exact h
    split
    · exact h
    · exact ⟨fun x hx => (List.mem_append.1 hx).elim (h.said x) (fun h' => (List.mem_singleton.1 h') ▸ hm), h.took⟩
  split
  · unfold tickR
    split
    · exact ⟨h.said, h.took⟩
    · exact h
  split
  · unfold hearR
    by_cases c1 : badR r f hd (l.take (mn (l.length : Int) 70).toNat) = true
    · rw [if_pos c1]; exact h
    · rw [if_neg c1]
      split
      · exact ⟨h.said, h.took⟩
      · refine ⟨h.said, fun x hx => (List.mem_append.1 hx).elim (h.took x) (fun h' => ?_)⟩
        have hx2 := List.mem_of_mem_drop h'
        refine ⟨hl x (List.mem_of_mem_take hx2), ?_⟩
        have hb : badR r f hd (l.take (mn (l.length : Int) 70).toNat) = false := by simpa using c1
        simp only [badR, badP, Bool.or_eq_false_iff] at hb
        by_cases c : x.length ≤ 4096
        · exact c
        · have h9 : (l.take (mn (l.length : Int) 70).toNat).any longM = true := List.any_eq_true.2 ⟨x, hx2, decide_eq_true (by omega)⟩
          rw [hb.1.2] at h9
          cases h9
  · exact ⟨h.said, h.took⟩
theorem same_alike (a b : Rf) (ha : OkB a) (hb : OkB b) : sameT (tkOf a) (tkOf b) = alikeR a b := by
  have h1 : sameL (a.said.drop a.heard.toNat) (b.said.drop b.heard.toNat) = decide (a.said.drop a.heard.toNat = b.said.drop b.heard.toNat) := sameL_bytes (fun m h => ha.said m (List.mem_of_mem_drop h)) (fun m h => hb.said m (List.mem_of_mem_drop h))
  have h2 : sameL (a.took.drop a.gave.toNat) (b.took.drop b.gave.toNat) = decide (a.took.drop a.gave.toNat = b.took.drop b.gave.toNat) := sameL_bytes (fun m h => (ha.took m (List.mem_of_mem_drop h)).1) (fun m h => (hb.took m (List.mem_of_mem_drop h)).1)
  unfold alikeR
  rw [h1, h2]
  simp only [sameT, tkOf]
  ac_rfl
theorem sameT_symm (t u : Tk) : sameT t u = sameT u t := by
  have e : ∀ x y : Int, (x == y) = (y == x) := fun x y => by rw [Bool.eq_iff_iff, beq_iff_eq, beq_iff_eq]; exact ⟨Eq.symm, Eq.symm⟩
  have eb : ∀ x y : Bool, (x == y) = (y == x) := fun x y => by cases x <;> cases y <;> rfl
  have el : ∀ x y : List (List Int), decide (x = y) = decide (y = x) := fun x y => decide_eq_decide.2 ⟨Eq.symm, Eq.symm⟩
  unfold sameT
  rw [e t.most, e t.again, e t.said, e t.done, e t.gone, e t.heard, e t.last, eb t.went, eb t.owes, el t.wait, el t.got]
theorem waits_ok (n : Nat) (r : Rf) (ok : OkR n r) (hn : n ≤ 80) (okb : OkB r) : (tkOf r).wait.length < 1000000 ∧ (∀ m ∈ (tkOf r).wait, m.length < 140737488355328) ∧ (tkOf r).got.length < 1000000 ∧ ∀ m ∈ (tkOf r).got, m.length < 140737488355328 := by
  have h1 := tkOf_wait n r ok; have h2 := tkOf_got n r ok; have h3 := ok.said; have h4 := ok.heard
  refine ⟨by omega, fun m hm => ?_, by omega, fun m hm => ?_⟩
  · have := ok.msgs m (List.mem_of_mem_drop hm); omega
  · have := (okb.took m (List.mem_of_mem_drop hm)).2; omega
/-- Same of two ends that stand for two values. -/
theorem same_tk (n n' : Nat) (g g' : Nat) (S S' : Nat → Prop) (r x : Rf) (q : Bool) (hq : alikeR r x = q) (ok : OkR n r) (ok' : OkR n' x) (hn : n ≤ 80) (hn' : n' ≤ 80) (okb : OkB r) (okb' : OkB x) (w : World) (ht : IsTk w g S (tkOf r)) (hu : IsTk w g' S' (tkOf x)) :
    Calls Try.prog 26 #[.pointer (some ⟨g, 0, none⟩), .pointer (some ⟨g', 0, none⟩)] w fun e w' => e = .returned (.bool q) ∧ Drawn0 w w' := by
  obtain ⟨h1, h2, h3, h4⟩ := waits_ok n r ok hn okb
  have := same_ok g g' S S' (tkOf r) (tkOf x) w ht hu h1 h2 h3 h4
  rwa [same_alike r x okb okb', hq] at this
theorem same_kt (n n' : Nat) (g g' : Nat) (S S' : Nat → Prop) (r x : Rf) (q : Bool) (hq : alikeR r x = q) (ok : OkR n r) (ok' : OkR n' x) (hn : n ≤ 80) (hn' : n' ≤ 80) (okb : OkB r) (okb' : OkB x) (w : World) (ht : IsTk w g S (tkOf r)) (hu : IsTk w g' S' (tkOf x)) :
    Calls Try.prog 26 #[.pointer (some ⟨g', 0, none⟩), .pointer (some ⟨g, 0, none⟩)] w fun e w' => e = .returned (.bool q) ∧ Drawn0 w w' := by
  obtain ⟨h1, h2, h3, h4⟩ := waits_ok n' x ok' hn' okb'
  have := same_ok g' g S' S (tkOf x) (tkOf r) w hu ht h1 h2 h3 h4
  rwa [sameT_symm, same_alike r x okb okb', hq] at this
theorem alike_q (n n' : Nat) (a b : Rf) (q : Bool) (hq : alikeR a b = q) (Pa Pb : Nat → Prop) (As At As' At' : Option Addr) (cs ct cs' ct' : Nat) (w : World) (ha : Rv w Pa a (.slice As a.said.length cs) (.slice At a.took.length ct)) (hb : Rv w Pb b (.slice As' b.said.length cs') (.slice At' b.took.length ct')) (oka : OkR n a) (okb : OkR n' b) (hn : n ≤ 80) (hn' : n' ≤ 80) :
    Calls Try.prog 27 #[.agg (rfC a (.slice As a.said.length cs) (.slice At a.took.length ct)), .agg (rfC b (.slice As' b.said.length cs') (.slice At' b.took.length ct'))] w fun e w' => e = .returned (.bool q) ∧ Below w.heap.size w w' :=
  hq ▸ alike_ok n n' a b Pa Pb As At As' At' cs ct cs' ct' w ha hb oka okb hn hn'
end Go.Proofs.Yteeljnlhgaljaaa
