/- By hand: the first instruction that may not be (a closure, called for each). -/
import Derived.Test.YtgnplpmmadbbdaaDoorE4
namespace Go.Proofs.YtgnplpmmadbbdaaDoor
set_option linter.unusedSimpArgs false
set_option linter.unusedVariables false
open Go.RowKit Go.Proofs.YtgnplpmmadbbdaaDoorW.PrintWords Go.Proofs.YtgnplpmmadbbdaaDoor.P

def rightS (size words : Int) (x : S24) : Bool := rightB x.f0 x.f1 x.f2 x.f3 size words
/-- The first one of which something is so; -1: none. -/
def firstOf {α : Type} (p : α → Bool) (l : List α) : Int := match l.findIdx? p with | some i => (i : Int) | none => -1
theorem firstOf_at {α : Type} {p : α → Bool} {l : List α} {k : Nat} (hk : k < l.length) (h : ∀ j (hj : j < k), p (l[j]'(by omega)) = false) (h2 : p l[k] = true) : firstOf p l = k := by
  have : l.findIdx? p = some k := by
    rw [List.findIdx?_eq_some_iff_getElem]
    exact ⟨hk, h2, fun j hj => by simp [h j hj]⟩
  simp [firstOf, this]
theorem firstOf_none {α : Type} {p : α → Bool} {l : List α} (h : ∀ j (hj : j < l.length), p l[j] = false) : firstOf p l = -1 := by
  have : l.findIdx? p = none := by
    rw [List.findIdx?_eq_none_iff]
    intro x hx
    obtain ⟨j, hj, rfl⟩ := List.getElem_of_mem hx
    exact h j hj
  simp [firstOf, this]

theorem check1_any (x : S24) (b2 b3 : Nat) (A : Option Addr) (n c : Nat) (words : Int) (w : World) (hk : KindsAt w) (h2 : w.cell? ⟨b2, 0, none⟩ = some (.slice A n c)) (h3 : w.cell? ⟨b3, 0, none⟩ = some (.int .i64 words)) :
    Calls Tryd.prog 39 #[.agg #[.int .i64 x.f0, .int .i64 x.f1, .int .i64 x.f2, .int .i64 x.f3], .pointer (some ⟨b2, 0, none⟩), .pointer (some ⟨b3, 0, none⟩)] w fun e w' => e = .returned (.bool (!rightS n words x)) ∧ Below w.heap.size w w' := by
  have hK := Aside0.mk hk
  clear hk
  have l2 := World.block_lt_of_cell? w _ h2
  have l3 := World.block_lt_of_cell? w _ h3
  have hr : code_Instr_Right.f x.f0 x.f1 x.f2 x.f3 n words = some (rightS n words x) := rfl
  have HR := Aside0.mk hr
  clear hr
  go_enter Tryd.func39, Tryd.ntmps39
  go_wp2_with fail
  refine (code_Instr_Right.calls _ _ _ _ _ _ _ _ HR.out (hK.out.below (below_alloc (Below.refl _ _) _))).mono ?_
  rintro e w1 ⟨rfl, hb⟩
  have hB := Aside0.mk ((below_alloc (Below.refl w.heap.size w) _).trans (hb.mono (by simp)))
  clear hb
  go_wp2
  go_ret
  exact ⟨rfl, hB.out⟩

set_option maxHeartbeats 1000000 in
set_option maxRecDepth 100000 in
theorem indexFunc_any (l : List S24) (A : Option Addr) (c : Nat) (b2 b3 : Nat) (words : Int) (w : World) (hk : KindsAt w) (hl : Kd.C k24 w A l.length l) (h2 : w.cell? ⟨b2, 0, none⟩ = some (.slice A l.length c)) (h3 : w.cell? ⟨b3, 0, none⟩ = some (.int .i64 words)) :
    Calls Tryd.prog 38 #[.slice A l.length c, .func (.func 39) #[] #[.pointer (some ⟨b2, 0, none⟩), .pointer (some ⟨b3, 0, none⟩)]] w fun e w' => e = .returned (.int .i64 (firstOf (fun x => !rightS l.length words x) l)) ∧ Below w.heap.size w w' := by
  have hK := Aside0.mk hk
  have hL := Aside0.mk hl
  have hn : l.length ≤ 9223372036854775807 := hl.2.1
  have H2 := Aside0.mk h2
  have H3 := Aside0.mk h3
  clear hk hl h2 h3
  go_enter Tryd.func38, Tryd.ntmps38
  go_wp2
  go_loopw [8] (fun i wr => ∃ k : Nat, k ≤ l.length ∧ i = .int .i64 k ∧ Aside0 (∀ j (hj : j < l.length), j < k → rightS l.length words l[j] = true) ∧ Aside0 (Below w.heap.size w wr)) (fun i _ => l.length - (intOf i).toNat)
  case atStart => exact ⟨0, by omega, rfl, ⟨fun j hj h => by omega⟩, ⟨Below.refl _ _⟩⟩
  case round =>
    obtain ⟨k, hkl, rfl, hF, hBr⟩ := hrel
    by_cases hlt : k < l.length
    · have hC := Kd.C_below hL.out hBr.out
      obtain ⟨ad, rfl, c0, c1, c2, c3⟩ := at_T24 hC (k : Int) (by omega) (by omega)
      have hrd : rd_T24 l (k : Int) = l[k] := by simp [rd_T24, List.getD, hlt]
      rw [hrd] at c0 c1 c2 c3
      simp only [Int.toNat_natCast] at c0 c1 c2 c3
      have hcase : ∀ b : Bool, rightS l.length words l[k] = b → firstOf (fun x => !rightS l.length words x) l = firstOf (fun x => !rightS l.length words x) l := fun _ _ => rfl
      clear hcase hC hrd
      obtain ⟨x, hx⟩ : ∃ x, x = l[k] := ⟨_, rfl⟩
      rw [← hx] at c0 c1 c2 c3
      have HX := Aside0.mk hx
      clear hx
      have hc := Aside0.mk (fun (W : World) (hb : Below wr.heap.size wr W) => check1_any x b2 b3 _ l.length c words W (hK.out.below (below_then hBr.out hBr.out.size hb)) ((below_then hBr.out hBr.out.size hb).cell (World.block_lt_of_cell? w _ H2.out) |>.trans H2.out) ((below_then hBr.out hBr.out.size hb).cell (World.block_lt_of_cell? w _ H3.out) |>.trans H3.out))
      cases hb : rightS l.length words x
      all_goals
        have Hb := Aside0.mk hb
        clear hb
        go_wp2_with fail
        refine (hc.out _ (Below.refl _ _)).mono ?_
        rintro e w1 ⟨rfl, hb1⟩
        have hB1 := Aside0.mk (below_then hBr.out hBr.out.size hb1)
        clear hb1
        rw [Hb.out]
        go_wp2
      · go_ret
        exact ⟨congrArg (fun z => Ending.returned (Value.int .i64 z)) (firstOf_at hlt (fun j hj => by rw [hF.out j (by omega) hj]; rfl) (by rw [← HX.out, Hb.out]; rfl)).symm, hB1.out⟩
      · go_roundw
        case rel =>
          refine ⟨k + 1, by omega, by go_num, ⟨fun j hj h => ?_⟩, hB1⟩
          rcases (show j < k ∨ j = k by omega) with h' | rfl
          · exact hF.out j hj h'
          · rw [← HX.out]; exact Hb.out
        case measure => simp [intOf]; omega
    · go_wp2
      go_ret
      exact ⟨congrArg (fun z => Ending.returned (Value.int .i64 z)) (firstOf_none (fun j hj => by rw [hF.out j hj (by omega)]; rfl)).symm, hBr.out⟩

def checkP (l : List S24) (words : Int) : Int × Int :=
  if words < 1 ∨ 256 < words ∨ l.length = 0 ∨ 2048 < l.length then (-1, 2)
  else if 0 ≤ firstOf (fun x => !rightS l.length words x) l then (firstOf (fun x => !rightS l.length words x) l, 3) else (-1, 0)
def code_Check.f (l0 : List S24) (a1 : Int) : Option (Int × Int) := some (checkP l0 a1)
set_option maxHeartbeats 1000000 in
set_option maxRecDepth 100000 in
theorem code_Check.calls (A0 : Option Addr) (c0 : Nat) (l0 : List S24) (a1 : Int) (r1 r2 : Int) (w : World) (hr0 : Kd.C k24 w A0 l0.length l0) (hc0 : l0.length ≤ c0) (h : code_Check.f l0 a1 = some (r1, r2)) (hGl : KindsAt w) :
    Calls Tryd.prog 20 #[.slice A0 l0.length c0, .int .i64 a1] w fun e w' => e = .returned (.tuple #[.int .i64 r1, .int .i64 r2]) ∧ Below w.heap.size w w' := by
  have hR : checkP l0 a1 = (r1, r2) := Option.some.inj h
  have HR := Aside0.mk hR
  have hn : l0.length ≤ 9223372036854775807 := hr0.2.1
  have hK := Aside0.mk hGl
  have hL := Aside0.mk hr0
  clear hr0 hc0 h hR hGl
  have hmf : ∀ (fn : Fn) (first cap : Array Value) (w : World), (Instr.makeFunc fn first cap).run Tryd.prog w = .ok (.func fn first cap) w := fun _ _ _ _ => rfl
  have hbad : ∀ p : a1 < 1 ∨ 256 < a1 ∨ l0.length = 0 ∨ 2048 < l0.length, r1 = -1 ∧ r2 = 2 := fun p => by
    have := HR.out
    unfold checkP at this
    rw [if_pos p] at this
    exact ⟨(Prod.mk.inj this).1.symm, (Prod.mk.inj this).2.symm⟩
  have HBad := Aside0.mk hbad
  clear hbad
  by_cases h1 : a1 < 1
  · go_enter Tryd.func20, Tryd.ntmps20
    go_wp2
    go_ret2
    obtain ⟨rfl, rfl⟩ := HBad.out (.inl h1)
    exact ⟨rfl, below_alloc (below_alloc (Below.refl _ _) _) _⟩
  · by_cases h2 : 256 < a1
    · go_enter Tryd.func20, Tryd.ntmps20
      go_wp2
      go_ret2
      obtain ⟨rfl, rfl⟩ := HBad.out (.inr (.inl h2))
      exact ⟨rfl, below_alloc (below_alloc (Below.refl _ _) _) _⟩
    · by_cases h3 : l0.length = 0
      · have h3' : ((l0.length : Int) == 0) = true := by simp [h3]
        have H3 := Aside0.mk h3
        clear h3
        go_enter Tryd.func20, Tryd.ntmps20
        go_wp2
        go_ret2
        obtain ⟨rfl, rfl⟩ := HBad.out (.inr (.inr (.inl H3.out)))
        exact ⟨rfl, below_alloc (below_alloc (Below.refl _ _) _) _⟩
      · have h3' : ((l0.length : Int) == 0) = false := by rw [beq_eq_false_iff_ne]; omega
        by_cases h4 : 2048 < l0.length
        · go_enter Tryd.func20, Tryd.ntmps20
          go_wp2
          go_ret2
          obtain ⟨rfl, rfl⟩ := HBad.out (.inr (.inr (.inr h4)))
          exact ⟨rfl, below_alloc (below_alloc (Below.refl _ _) _) _⟩
        · have hR := HR.out
          unfold checkP at hR
          rw [if_neg (by omega)] at hR
          clear HR HBad
          have HR := Aside0.mk hR
          clear hR
          go_enter Tryd.func20, Tryd.ntmps20
          go_wp2_with fail
          refine (indexFunc_any l0 A0 c0 _ _ a1 _ (hK.out.below (below_alloc (below_alloc (Below.refl _ _) _) _)) (Kd.C_below hL.out (below_alloc (below_alloc (Below.refl _ _) _) _)) ?s1 ?s2).mono ?_
          case s1 => rw [World.cell?_alloc_past _ _ _ (by simp), World.cell?_alloc_at _ _ _ _ rfl]; rfl
          case s2 => rw [World.cell?_alloc_at _ _ _ _ (by simp)]; rfl
          rintro e w1 ⟨rfl, hb⟩
          have hB := Aside0.mk ((below_alloc (below_alloc (Below.refl w.heap.size w) (.cells #[.slice A0 l0.length c0] 43)) (.cells #[.int .i64 a1] 3)).trans (hb.mono (by simp; omega)))
          clear hb
          obtain ⟨z, hz⟩ : ∃ z, z = firstOf (fun x => !rightS l0.length a1 x) l0 := ⟨_, rfl⟩
          rw [← hz]
          have hR2 := HR.out
          rw [← hz] at hR2
          clear hz HR
          by_cases hz0 : 0 ≤ z
          · rw [if_pos hz0] at hR2
            obtain ⟨rfl, rfl⟩ := Prod.mk.inj hR2
            clear hR2
            go_wp2
            go_ret2
            exact ⟨rfl, hB.out⟩
          · rw [if_neg hz0] at hR2
            obtain ⟨rfl, rfl⟩ := Prod.mk.inj hR2
            clear hR2
            go_wp2
            go_ret2
            exact ⟨rfl, hB.out⟩
end Go.Proofs.YtgnplpmmadbbdaaDoor
