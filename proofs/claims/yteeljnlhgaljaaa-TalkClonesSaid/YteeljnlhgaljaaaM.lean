/- What an end does beside another one, and beside packets under way. -/
import Derived.Test.YteeljnlhgaljaaaG
import Derived.Test.YteeljnlhgaljaaaN0
namespace Go.Proofs.Yteeljnlhgaljaaa
set_option linter.unusedVariables false
set_option linter.unusedSimpArgs false
open Go.RowKit Go.Proofs.YteeljnlhgaljaaaW.PrintWords Go.Proofs.YteeljnlhgaljaaaW.PrintLast Go.Proofs.Yteeljnlhgaljaaa.P

/-- All blocks of both. -/
def Un (Sa Sb : Nat → Prop) : Nat → Prop := fun k => Sa k ∨ Sb k
/-- Only U's blocks were touched; what U has grown by is new. -/
structure Went (U U' : Nat → Prop) (w w' : World) : Prop where
  fr : Fr U w w'
  new : ∀ k, U' k → U k ∨ w.heap.size ≤ k
theorem Went.of_below {U : Nat → Prop} {w w' : World} (h : Below w.heap.size w w') : Went U U w w' := ⟨Fr.of_below h, fun _ h => .inl h⟩
theorem Went.swap {Sa Sb Sa' Sb' : Nat → Prop} {w w' : World} (h : Went (Un Sa Sb) (Un Sa' Sb') w w') : Went (Un Sb Sa) (Un Sb' Sa') w w' :=
  ⟨h.fr.mono (fun k h => .inl h.symm), fun k hk => (h.new k hk.symm).imp Or.symm id⟩
theorem Free.went {U U' : Nat → Prop} {w w' : World} {v : Value} {l : List (List Int)} (h : Free w U v l) (hw : Went U U' w w') : Free w' U' v l := h.step hw.fr hw.new
theorem Free.swap {Sa Sb : Nat → Prop} {w : World} {v : Value} {l : List (List Int)} (h : Free w (Un Sa Sb) v l) : Free w (Un Sb Sa) v l := h.mono (fun _ h => h.symm)
theorem Free.take {S : Nat → Prop} {w : World} {A : Option Addr} {n c : Nat} {l : List (List Int)} (h : Free w S (.slice A n c) l) {m : Nat} (hm : m ≤ l.length) : Free w S (.slice A m c) (l.take m) := by
  obtain ⟨P, hR, hP⟩ := h
  exact ⟨P, Kd.R_take hR hm, hP⟩
/-- A block that is not U's. -/
structure Blk (w : World) (U : Nat → Prop) (b : Nat) (o : Obj) : Prop where
  at_ : w.heap[b]? = some o
  far : ¬ U b
theorem Blk.went {U U' : Nat → Prop} {w w' : World} {b : Nat} {o : Obj} (h : Blk w U b o) (hw : Went U U' w w') : Blk w' U' b o :=
  ⟨(hw.fr.block b (blk_lt h.at_) h.far).trans h.at_, fun h' => (hw.new b h').elim h.far (fun e => Nat.not_lt.2 e (blk_lt h.at_))⟩
section
variable {w0 w w' : World} {ga gb : Nat} {Sa Sb S' : Nat → Prop} {ta tb ta' : Tk}
theorem Two.went (h : Two w0 w ga gb Sa Sb ta tb) (hs : ∀ k, S' k → Sa k ∨ w.heap.size ≤ k) (hf : Fr Sa w w') : Went (Un Sa Sb) (Un (fun k => S' k ∧ k < w'.heap.size) Sb) w w' :=
  ⟨hf.mono (fun k h => .inl (.inl h)), fun k hk => hk.elim (fun h1 => (hs k h1.1).imp Or.inl id) (fun h1 => .inl (.inr h1))⟩
theorem Two.lt (h : Two w0 w ga gb Sa Sb ta tb) : ∀ k, Un Sa Sb k → k < w.heap.size := fun k hk => hk.elim (h.lta k) (h.ltb k)
theorem Two.box (h : Two w0 w ga gb Sa Sb ta tb) (cs : Array Value) (t : TypeId) : Blk (w.alloc (.cells cs t)) (Un Sa Sb) w.heap.size (.cells cs t (0, 0)) :=
  ⟨blk_new w _, fun hk => Nat.lt_irrefl _ (h.lt _ hk)⟩
theorem Two.say (h : Two w0 w ga gb Sa Sb ta tb) (A : Option Addr) (c : Nat) (m : List Int) (hm : Kd.C (Kd.int .u8) w A m.length m) (hc : m.length ≤ c) (hl : m.length ≤ 4096)
    (hf : (ta.wait.length : Int) < ta.most) (hmost : ta.most ≤ 64) (hs : 0 ≤ ta.said ∧ ta.said < 1000000) (ta' : Tk) (e' : { ta with wait := ta.wait ++ [m], said := ta.said + 1 } = ta') :
    Calls Try.prog 22 #[.pointer (some ⟨ga, 0, none⟩), .slice A m.length c] w fun e w' => e = .returned (.int .i64 0) ∧ ∃ Sa', Two w0 w' ga gb Sa' Sb ta' tb ∧ Went (Un Sa Sb) (Un Sa' Sb) w w' := by
  subst e'
  refine (say_ok ga Sa ta A c m w h.a hm hc hl hf hmost hs).mono ?_
  rintro e w' ⟨S', rfl, hk, hs', hf'⟩
  exact ⟨rfl, _, h.step hk hs' hf', h.went hs' hf'⟩
theorem Two.say_full (h : Two w0 w ga gb Sa Sb ta tb) (A : Option Addr) (n c : Nat) (hl : n ≤ 4096) (hf : ta.most ≤ (ta.wait.length : Int)) :
    Calls Try.prog 22 #[.pointer (some ⟨ga, 0, none⟩), .slice A n c] w fun e w' => e = .returned (.int .i64 8) ∧ Two w0 w' ga gb Sa Sb ta tb ∧ Went (Un Sa Sb) (Un Sa Sb) w w' := by
  refine (Go.Proofs.Yteeljnlhgaljaaa.say_full ga Sa ta A n c w h.a hl hf).mono ?_
  rintro e w' ⟨rfl, hb⟩
  exact ⟨rfl, h.below hb, Went.of_below hb⟩
theorem Two.tick_no (h : Two w0 w ga gb Sa Sb ta tb) (now : Int) (hn : 0 ≤ now ∧ now < 2199023255552) (hl : 0 ≤ ta.last ∧ ta.last < 2199023255552) (hd : dueB ta now = false) :
    Calls Try.prog 19 #[.pointer (some ⟨ga, 0, none⟩), .int .i64 now] w fun e w' => e = .returned (.tuple #[.agg #[.int .i64 0, .slice none 0 0, .int .i64 0], .bool false]) ∧ Two w0 w' ga gb Sa Sb ta tb ∧ Went (Un Sa Sb) (Un Sa Sb) w w' := by
  refine (Go.Proofs.Yteeljnlhgaljaaa.tick_no ga Sa ta now w h.a hn hl hd).mono ?_
  rintro e w' ⟨rfl, hb⟩
  exact ⟨rfl, h.below hb, Went.of_below hb⟩
theorem Two.tick_yes (h : Two w0 w ga gb Sa Sb ta tb) (now : Int) (hn : 0 ≤ now ∧ now < 2199023255552) (hl : 0 ≤ ta.last ∧ ta.last < 2199023255552) (hd : dueB ta now = true) (hwl : ta.wait.length < 1000000) (hwm : ∀ m ∈ ta.wait, m.length < 140737488355328) :
    Calls Try.prog 19 #[.pointer (some ⟨ga, 0, none⟩), .int .i64 now] w fun e w' => ∃ A c, e = .returned (.tuple #[.agg #[.int .i64 ta.done, .slice A ta.wait.length c, .int .i64 ta.heard], .bool true]) ∧ ∃ Sa', Two w0 w' ga gb Sa' Sb (ticked ta now) tb ∧ Went (Un Sa Sb) (Un Sa' Sb) w w' ∧ Free w' (Un Sa' Sb) (.slice A ta.wait.length c) ta.wait := by
  refine (Go.Proofs.Yteeljnlhgaljaaa.tick_yes ga Sa ta now w h.a hn hl hd hwl hwm).mono ?_
  rintro e w' ⟨v, rfl, hv, hk, hf⟩
  obtain ⟨A, c, rfl⟩ := Kd.R_slice hv
  exact ⟨A, c, rfl, _, h.step hk (fun k hk => .inl hk.1) hf, h.went (fun k hk => .inl hk.1) hf, Free.of_new hv (fun k hk => hk.elim (fun h' => h'.1.2) (h.ltb k))⟩
theorem Two.got (h : Two w0 w ga gb Sa Sb ta tb) :
    Calls Try.prog 21 #[.pointer (some ⟨ga, 0, none⟩)] w fun e w' => ∃ A c, e = .returned (.slice A ta.got.length c) ∧ ∃ Sa', Two w0 w' ga gb Sa' Sb { ta with got := [] } tb ∧ Went (Un Sa Sb) (Un Sa' Sb) w w' ∧ Free w' (Un Sa' Sb) (.slice A ta.got.length c) ta.got := by
  refine (got_ok ga Sa ta w h.a).mono ?_
  rintro e w' ⟨v, S', So, rfl, hk, ho, hs', hso, hf⟩
  obtain ⟨A, c, rfl⟩ := Kd.R_slice ho
  refine ⟨A, c, rfl, _, h.step hk (fun k hk => .inl (hs' k hk).1) hf, h.went (fun k hk => .inl (hs' k hk).1) hf, fun k => So k ∧ k < w'.heap.size, Kd.R_mono (Kd.R_bound ho) (fun k hk => ⟨hk.1, hk.2.2.1⟩), fun k hk => ⟨?_, hk.2⟩⟩
  rintro (h1 | h1)
  · exact (hs' k h1.1).2 hk.1
  · exact h.dis k (hso k hk.1) h1
theorem Two.idle (h : Two w0 w ga gb Sa Sb ta tb) {b : Bool} (hb : ta.wait.isEmpty = b) :
    Calls Try.prog 15 #[.pointer (some ⟨ga, 0, none⟩)] w fun e w' => e = .returned (.bool b) ∧ w = w' := idle_is ga Sa ta w h.a hb
/-- What an end is after a packet. -/
def heardT (t : Tk) (f h : Int) (l : List (List Int)) : Tk := if t.heard < f then owed (acked t h) l else gotP (owed (acked t h) l) f l
/-- The counts fit together. -/
structure Fit (t : Tk) : Prop where
  wait : (t.wait.length : Int) = t.said - t.done
  done : 0 ≤ t.done
  said : t.said < 1000000
  gone : t.gone ≤ t.said
  gone0 : 0 ≤ t.gone
  heard : 0 ≤ t.heard ∧ t.heard < 1000000
  got : t.got.length < 1000000
theorem Two.hear (h : Two w0 w ga gb Sa Sb ta tb) (f hd : Int) (A : Option Addr) (c n : Nat) (l : List (List Int)) (hn : l.length = n) (hF : Free w (Un Sa Sb) (.slice A n c) l) (hb : badP f hd l = false) (hs : hd ≤ ta.said) (fit : Fit ta) (r : Int) (ta' : Tk) (hr : (if ta.heard < f then (20 : Int) else 0) = r) (ht' : heardT ta f hd l = ta') :
    Calls Try.prog 20 #[.pointer (some ⟨ga, 0, none⟩), .agg #[.int .i64 f, .slice A n c, .int .i64 hd]] w fun e w' => e = .returned (.int .i64 r) ∧ ∃ Sa', Two w0 w' ga gb Sa' Sb ta' tb ∧ Went (Un Sa Sb) (Un Sa' Sb) w w' := by
  subst hn
  obtain ⟨Sw, Sg, vw, vg, hK⟩ := h.a
  obtain ⟨A', c', e', hc', hread⟩ := hF.reads
  obtain ⟨rfl, -, rfl⟩ : A = A' ∧ l.length = l.length ∧ c = c' := by injection e' with h1 h2 h3; exact ⟨h1, rfl, h3⟩
  refine (hear_is ga Sa Sw Sg vw vg ta f hd A c l w hK h.lta (fun W hW => hread W (hW.mono (fun k hk => .inl (.inl hk)))) hc' hb hs fit.wait fit.done fit.said fit.gone fit.gone0 fit.heard fit.got r ta' hr ht').mono ?_
  rintro e w' ⟨S', rfl, hk, hs', hf'⟩
  exact ⟨rfl, _, h.step hk hs' hf', h.went hs' hf'⟩
end
end Go.Proofs.Yteeljnlhgaljaaa
