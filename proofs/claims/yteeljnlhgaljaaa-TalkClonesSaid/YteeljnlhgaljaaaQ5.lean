/- From an argument's reading to its data: kind by kind. -/
import Derived.Test.YteeljnlhgaljaaaWWords
import Derived.OpenShut
import Derived.ProofKit
import Derived.Deep.Slices
import Derived.Test.YteeljnlhgaljaaaPx0
import Derived.WideKeyPair
import Derived.Test.YteeljnlhgaljaaaR9
namespace Go.Proofs.Yteeljnlhgaljaaa
set_option linter.unusedVariables false
set_option linter.unusedSimpArgs false
open Go.RowKit Go.Proofs.YteeljnlhgaljaaaW.PrintWords Go.ChangeShapes Go.WideShapes

/-- What can be read as a type's data is of a kind. -/
def Opens (P : Program) (t : TypeId) {α : Type} (d : Kd α) (rng : α → Prop) : Prop :=
  ∀ {H : Type} (enc : TypeId × Value → H) (w : World) (sp : Nat → Bool) (held : Bool) (fuel : Nat) (cs : List Value) (x : DataW H × List MemPlace),
    DataW.trod enc P w 0 sp held fuel t cs = some x → ∃ a : α, d.K w a cs ∧ rng a

theorem opens_int {P : Program} {t : TypeId} {k : IntKind} (hu : P.underlying t = some (.int k)) : Opens P t (Kd.int k) (fun a => (Lit.int k a).wf = true) := by
  intro H enc w sp held fuel cs x h
  obtain ⟨n, rfl, _, hw⟩ := DataW.trod_int hu h
  exact ⟨n, rfl, hw⟩
theorem opens_bool {P : Program} {t : TypeId} (hu : P.underlying t = some .bool) : Opens P t Kd.bool (fun _ => True) := by
  intro H enc w sp held fuel cs x h
  obtain ⟨b, rfl, _⟩ := DataW.trod_bool hu h
  exact ⟨b, rfl, trivial⟩
theorem opens_string {P : Program} {t : TypeId} (hu : P.underlying t = some .string) : Opens P t Kd.string (fun s => s.size ≤ maxLen) := by
  intro H enc w sp held fuel cs x h
  obtain ⟨s, rfl, _, hs⟩ := DataW.trod_string hu h
  exact ⟨s, rfl, hs⟩
theorem opens_iso {P : Program} {t : TypeId} {α β : Type} {d : Kd α} {r : α → Prop} (h : Opens P t d r) (f : β → α) (g : α → β) (hfg : ∀ a, f (g a) = a) : Opens P t (Kd.iso d f) (fun b => r (f b)) := by
  intro H enc w sp held fuel cs x hx
  obtain ⟨a, hk, hr⟩ := h enc w sp held fuel cs x hx
  exact ⟨g a, by show d.K w (f (g a)) cs; rw [hfg]; exact hk, by show r (f (g a)); rw [hfg]; exact hr⟩
theorem opens_imp {P : Program} {t : TypeId} {α : Type} {d : Kd α} {r r' : α → Prop} (h : Opens P t d r) (hr : ∀ a, r a → r' a) : Opens P t d r' := by
  intro H enc w sp held fuel cs x hx
  obtain ⟨a, hk, h1⟩ := h enc w sp held fuel cs x hx
  exact ⟨a, hk, hr a h1⟩

theorem cells?_get {w : World} {a : Addr} : ∀ {n : Nat} {cs : List Value}, w.cells? 0 a n = some cs → cs.length = n ∧ ∀ i u, cs[i]? = some u → w.cell? (a.add i) = some u := by
  intro n cs h
  unfold World.cells? at h
  split at h
  · have hl := mapM_some_length h
    refine ⟨by simpa using hl, fun i u hi => ?_⟩
    have hi' : i < n := by
      have := (List.getElem?_eq_some_iff.1 hi).1
      rw [hl] at this
      simpa using this
    have := mapM_some_get h i i (by simp [hi'])
    rw [hi] at this
    exact this
  · cases h

theorem opens_slice {P : Program} {t e : TypeId} {α : Type} {d : Kd α} {r : α → Prop} (hu : P.underlying t = some (.slice e)) (hc : P.cellsOf e = d.sz) (h : Opens P e d r) :
    Opens P t (Kd.slice e d) (fun l => l.length ≤ maxLen ∧ ∀ a ∈ l, r a) := by
  intro H enc w sp held fuel cs x hx
  rcases DataW.trod_slice hu hx with ⟨rfl, _⟩ | ⟨a, len, cap, elems, rest, n, _, rfl, _, _, hl, hm, hlen, hel, _⟩
  · exact ⟨[], ⟨none, 0, rfl, Nat.le_refl _, Kd.C_nil d w⟩, Nat.zero_le _, fun a ha => by cases ha⟩
  · have hex : ∀ i, i < len → ∃ y : α, ∃ c, c.length = d.sz ∧ d.K w y c ∧ r y ∧ ∀ j u, c[j]? = some u → w.cell? (a.add (i * d.sz + j)) = some u := by
      intro i hi
      have h1 := hel i hi
      obtain ⟨z, hz⟩ : ∃ z, elems[i]? = some z := ⟨elems[i]'(by omega), by simp [hlen, hi]⟩
      rw [hz, Option.bind_eq_some_iff] at h1
      obtain ⟨c, hc1, hc2⟩ := h1
      rw [hc] at hc1
      obtain ⟨hcl, hcc⟩ := cells?_get hc1
      obtain ⟨y, hy, hr⟩ := h enc w sp held n c z hc2
      refine ⟨y, c, hcl, hy, hr, fun j u hj => ?_⟩
      rw [← Go.Deep.add_add]
      exact hcc j u hj
    classical
    let f : Nat → Option α := fun i => if hi : i < len then some (Classical.choose (hex i hi)) else none
    have hf : ∀ i (hi : i < len), f i = some (Classical.choose (hex i hi)) := fun i hi => by simp [f, hi]
    let xs : List α := (List.range len).filterMap f
    have hxs : xs = (List.range len).pmap (fun i hi => Classical.choose (hex i hi)) (fun i hi => List.mem_range.1 hi) := by
      have : ∀ (l : List Nat) (hl : ∀ i ∈ l, i < len), l.filterMap f = l.pmap (fun i hi => Classical.choose (hex i hi)) hl := by
        intro l
        induction l with
        | nil => intro _; rfl
        | cons i l ih => intro hl; rw [List.filterMap_cons, hf i (hl i (by simp)), List.pmap_cons, ih (fun j hj => hl j (by simp [hj]))]
      exact this _ _
    have hxl : xs.length = len := by rw [hxs]; simp
    have hget : ∀ i y, xs[i]? = some y → ∃ hi : i < len, y = Classical.choose (hex i hi) := by
      intro i y hy
      have hi : i < len := by have := (List.getElem?_eq_some_iff.1 hy).1; omega
      refine ⟨hi, ?_⟩
      rw [hxs] at hy
      simpa [List.getElem?_pmap, hi] using hy.symm
    refine ⟨xs, ⟨some a, cap, by rw [hxl], by omega, hxl ▸ rfl, by rw [hxl]; unfold maxLen at hm; omega, fun _ => ⟨a, rfl, fun j y hj => ?_⟩⟩, by rw [hxl]; omega, fun y hy => ?_⟩
    · obtain ⟨hi, rfl⟩ := hget j y hj
      obtain ⟨c, h1, h2, _, h4⟩ := Classical.choose_spec (hex j hi)
      exact ⟨c, h1, h2, h4⟩
    · obtain ⟨i, hi⟩ := List.getElem?_of_mem hy
      obtain ⟨hlt, rfl⟩ := hget i y hi
      obtain ⟨c, _, _, h3, _⟩ := Classical.choose_spec (hex i hlt)
      exact h3

/-- A struct's fields, one behind the other. -/
inductive FieldsOpen (P : Program) : List Field → Nat → {α : Type} → Kd α → (α → Prop) → Prop
  | one {f : Field} {off : Nat} {α : Type} {d : Kd α} {r : α → Prop} (h : Opens P f.type d r) (ho : f.offset = off) (hc : P.cellsOf f.type = d.sz) : FieldsOpen P [f] off d r
  | cons {f : Field} {fs : List Field} {off : Nat} {α β : Type} {d : Kd α} {r : α → Prop} {d2 : Kd β} {r2 : β → Prop} (h : Opens P f.type d r) (ho : f.offset = off) (hc : P.cellsOf f.type = d.sz)
      (h2 : FieldsOpen P fs (off + d.sz) d2 r2) : FieldsOpen P (f :: fs) off (Kd.pair d d2) (fun p => r p.1 ∧ r2 p.2)

theorem fields_open {P : Program} {fs : List Field} {off : Nat} {α : Type} {d : Kd α} {r : α → Prop} (h : FieldsOpen P fs off d r) {H : Type} (enc : TypeId × Value → H) (w : World) (sp : Nat → Bool) (held : Bool) (fuel : Nat) (cs : List Value)
    (hx : ∀ f ∈ fs, ∃ x, DataW.trod enc P w 0 sp held fuel f.type ((cs.drop f.offset).take (P.cellsOf f.type)) = some x) : ∃ a : α, d.K w a ((cs.drop off).take d.sz) ∧ r a := by
  induction h with
  | one h ho hc =>
    obtain ⟨x, hx⟩ := hx _ (List.mem_singleton.2 rfl)
    rw [ho, hc] at hx
    exact h enc w sp held fuel _ x hx
  | cons h ho hc _ ih =>
    rename_i f fs off α β d r d2 r2 h2
    obtain ⟨x, hx0⟩ := hx _ (List.mem_cons_self)
    rw [ho, hc] at hx0
    obtain ⟨a, ha, hra⟩ := h enc w sp held fuel _ x hx0
    obtain ⟨b, hb, hrb⟩ := ih (fun g hg => hx g (List.mem_cons_of_mem _ hg))
    refine ⟨(a, b), ⟨_, _, ?_, ha, hb⟩, hra, hrb⟩
    show (cs.drop off).take (d.sz + d2.sz) = _
    rw [List.take_add, List.drop_drop]
theorem opens_struct {P : Program} {t : TypeId} {fs : Array Field} {α : Type} {d : Kd α} {r : α → Prop} (hu : P.underlying t = some (.struct fs)) (hf : FieldsOpen P fs.toList 0 d r) (hc : P.cellsOf t = d.sz) : Opens P t d r := by
  intro H enc w sp held fuel cs x hx
  obtain ⟨xs, n, _, _, hl, hlen, hel⟩ := DataW.trod_struct hu hx
  obtain ⟨a, ha, hr⟩ := fields_open hf enc w sp held n cs (fun f hfm => by
    obtain ⟨i, hi⟩ := List.getElem?_of_mem hfm
    have hi' : fs[i]? = some f := by simpa using hi
    have hlt : i < xs.length := by
      have := (Array.getElem?_eq_some_iff.1 hi').1
      omega
    exact ⟨xs[i], (hel i f hi').trans (by simp [hlt])⟩)
  refine ⟨a, ?_, hr⟩
  rwa [List.drop_zero, List.take_of_length_le (by omega)] at ha
/-- An array of two. -/
theorem opens_arr2 {P : Program} {t e : TypeId} {α : Type} {d : Kd α} {r : α → Prop} (hu : P.underlying t = some (.array 2 e)) (h : Opens P e d r) (hc : P.cellsOf e = d.sz) (hc2 : P.cellsOf t = d.sz + d.sz) : Opens P t (Kd.pair d d) (fun p => r p.1 ∧ r p.2) := by
  intro H enc w sp held fuel cs x hx
  obtain ⟨xs, m, _, _, hl, hn, hel⟩ := DataW.trod_array hu hx
  have g : ∀ i, i < 2 → ∃ a, d.K w a ((cs.drop (i * d.sz)).take d.sz) ∧ r a := fun i hi => by
    have := hel i hi
    rw [hc] at this
    exact h enc w sp held m _ (xs[i]'(by omega)) (this.trans (by simp [hn, hi]))
  obtain ⟨a, ha, hra⟩ := g 0 (by decide)
  obtain ⟨b, hb, hrb⟩ := g 1 (by decide)
  refine ⟨(a, b), ⟨_, _, ?_, ha, hb⟩, hra, hrb⟩
  rw [Nat.zero_mul, List.drop_zero, Nat.one_mul, List.take_of_length_le (l := cs.drop d.sz) (by rw [List.length_drop]; omega), List.take_append_drop]

/-- An argument that is a slice. -/
theorem open_rows {P : Program} {t e : TypeId} {α : Type} {d : Kd α} {r : List α → Prop} (hu : P.underlying t = some (.slice e)) (ho : Opens P t (Kd.slice e d) r) {H : Type} {enc : TypeId × Value → H} {W : World} {rc : Reach} {base : Nat} {sp : Nat → Bool} {held : Bool} {v : Value} {dd : DataW H} {p : List MemPlace}
    (hv : Value.okWide P W rc base t v) (h : DataW.Trod enc P W 0 sp held t v dd p) : ∃ (A : Option Addr) (c : Nat) (l : List α), v = .slice A l.length c ∧ l.length ≤ c ∧ Kd.C d W A l.length l ∧ r l := by
  obtain ⟨a, len, cap, rfl⟩ := okWide_slice hu hv
  obtain ⟨fuel, hf⟩ := h
  obtain ⟨l, ⟨A, c, hcs, hl, hC⟩, hr⟩ := ho enc W sp held fuel _ _ hf
  simp [Value.cells] at hcs
  obtain ⟨rfl, rfl, rfl⟩ := hcs
  exact ⟨_, _, l, rfl, hl, hC, hr⟩
theorem o3 : Opens Try.prog 3 (Kd.int .i64) (fun a => (Lit.int .i64 a).wf = true) := opens_int Try.underlying3
theorem o5 : Opens Try.prog 5 (Kd.int .u8) (fun a => (Lit.int .u8 a).wf = true) := opens_int Try.underlying5
theorem o34 : Opens Try.prog 34 (Kd.slice 5 (Kd.int .u8)) (fun l => l.length ≤ maxLen ∧ ∀ a ∈ l, (Lit.int .u8 a).wf = true) := opens_slice Try.underlying34 (by kernel_rfl) o5
theorem o25 : Opens Try.prog 25 (Kd.slice 34 (Kd.slice 5 (Kd.int .u8))) (fun l => l.length ≤ maxLen ∧ ∀ m ∈ l, m.length ≤ maxLen) := opens_imp (opens_slice Try.underlying25 (by kernel_rfl) o34) (fun _ h => ⟨h.1, fun m hm => (h.2 m hm).1⟩)
theorem pair22 : WideMaps.ArrKey Try.prog 22 3 2 := ⟨Try.underlying22, by kernel_rfl, by kernel_rfl, by kernel_rfl⟩
theorem o52 : Opens Try.prog 52 (Kd.slice 3 (Kd.int .i64)) (fun l => l.length ≤ maxLen ∧ ∀ a ∈ l, (Lit.int .i64 a).wf = true) := opens_slice Try.underlying52 (by kernel_rfl) o3
theorem o36 : Opens Try.prog 36 P.k36 (fun _ => True) := opens_imp (opens_iso (opens_struct Try.underlying36 (.cons o3 rfl (by kernel_rfl) (.cons o25 rfl (by kernel_rfl) (.one o3 rfl (by kernel_rfl)))) (by kernel_rfl)) (fun x : P.S36 => (x.f0, x.f1, x.f2)) (fun x => ⟨x.1, x.2.1, x.2.2⟩) (fun _ => rfl)) (fun _ _ => trivial)
theorem o38 : Opens Try.prog 38 P.k38 (fun _ => True) := opens_imp (opens_iso (opens_struct Try.underlying38 (.cons o3 rfl (by kernel_rfl) (.cons o34 rfl (by kernel_rfl) (.cons o3 rfl (by kernel_rfl) (.one o36 rfl (by kernel_rfl))))) (by kernel_rfl)) (fun x : P.S38 => (x.f0, x.f1, x.f2, x.f3)) (fun x => ⟨x.1, x.2.1, x.2.2.1, x.2.2.2⟩) (fun _ => rfl)) (fun _ _ => trivial)
theorem o23 : Opens Try.prog 23 (Kd.slice 38 P.k38) (fun l => l.length ≤ maxLen) := opens_imp (opens_slice Try.underlying23 (by kernel_rfl) o38) (fun _ h => h.1)
theorem wf_byte {a : Int} (h : (Lit.int .u8 a).wf = true) : 0 ≤ a ∧ a < 256 := by
  simp only [Lit.wf, IntKind.min, IntKind.max, Bool.and_eq_true, decide_eq_true_eq] at h
  have h2 : 0 ≤ a ∧ a ≤ 255 := by simpa [IntKind.bits, IntKind.signed] using h
  omega
theorem o25b : Opens Try.prog 25 (Kd.slice 34 (Kd.slice 5 (Kd.int .u8))) (fun l => ∀ m ∈ l, ByteL m) := opens_imp (opens_slice Try.underlying25 (by kernel_rfl) o34) (fun _ h m hm a ha => wf_byte ((h.2 m hm).2 a ha))
theorem o34b : Opens Try.prog 34 (Kd.slice 5 (Kd.int .u8)) ByteL := opens_imp o34 (fun _ h a ha => wf_byte (h.2 a ha))
theorem o36b : Opens Try.prog 36 P.k36 (fun x => ∀ m ∈ x.f1, ByteL m) := opens_imp (opens_iso (opens_struct Try.underlying36 (.cons o3 rfl (by kernel_rfl) (.cons o25b rfl (by kernel_rfl) (.one o3 rfl (by kernel_rfl)))) (by kernel_rfl)) (fun x : P.S36 => (x.f0, x.f1, x.f2)) (fun x => ⟨x.1, x.2.1, x.2.2⟩) (fun _ => rfl)) (fun _ h => h.2.1)
theorem o38b : Opens Try.prog 38 P.k38 ByteOp := opens_imp (opens_iso (opens_struct Try.underlying38 (.cons o3 rfl (by kernel_rfl) (.cons o34b rfl (by kernel_rfl) (.cons o3 rfl (by kernel_rfl) (.one o36b rfl (by kernel_rfl))))) (by kernel_rfl)) (fun x : P.S38 => (x.f0, x.f1, x.f2, x.f3)) (fun x => ⟨x.1, x.2.1, x.2.2.1, x.2.2.2⟩) (fun _ => rfl)) (fun _ h => ⟨h.2.1, h.2.2.2⟩)
theorem o23b : Opens Try.prog 23 (Kd.slice 38 P.k38) (fun l => ∀ x ∈ l, ByteOp x) := opens_imp (opens_slice Try.underlying23 (by kernel_rfl) o38b) (fun _ h => h.2)
end Go.Proofs.Yteeljnlhgaljaaa
