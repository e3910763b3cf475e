/- Two ends, what was got at each, and what is under way, side by side in memory. -/
import Derived.Test.YteeljnlhgaljaaaV2
namespace Go.Proofs.Yteeljnlhgaljaaa
set_option linter.unusedVariables false
set_option linter.unusedSimpArgs false
open Go.RowKit Go.Proofs.YteeljnlhgaljaaaW.PrintWords Go.Proofs.YteeljnlhgaljaaaW.PrintLast Go.Proofs.Yteeljnlhgaljaaa.P

def U5 (Sa Sb Ga Gb Wp : Nat → Prop) : Nat → Prop := fun k => Un Sa Sb k ∨ Ga k ∨ Gb k ∨ Wp k
structure Pm (w0 w : World) (ga gb : Nat) (Sa Sb Ga Gb Wp : Nat → Prop) (ta tb : Tk) (va vb vw : Value) (la lb : List (List Int)) (ps : List S87) : Prop where
  two : Two w0 w ga gb Sa Sb ta tb
  ra : kM.R 34 w 0 Ga va la
  rb : kM.R 34 w 0 Gb vb lb
  rw : k87.R 87 w 0 Wp vw ps
  dGa : ∀ k, Ga k → ¬ Un Sa Sb k
  dGb : ∀ k, Gb k → ¬ Un Sa Sb k ∧ ¬ Ga k
  dW : ∀ k, Wp k → ¬ Un Sa Sb k ∧ ¬ Ga k ∧ ¬ Gb k
  lt : ∀ k, Ga k ∨ Gb k ∨ Wp k → k < w.heap.size
  ge : ∀ k, Ga k ∨ Gb k ∨ Wp k → w0.heap.size ≤ k
theorem Un.swap {Sa Sb : Nat → Prop} {k : Nat} (h : Un Sa Sb k) : Un Sb Sa k := Or.symm h
theorem U5.swap {Sa Sb Ga Gb Wp : Nat → Prop} {k : Nat} (h : U5 Sa Sb Ga Gb Wp k) : U5 Sb Sa Gb Ga Wp k := by
  rcases h with h | h | h | h
  · exact .inl h.swap
  · exact .inr (.inr (.inl h))
  · exact .inr (.inl h)
  · exact .inr (.inr (.inr h))
theorem Went.imp {U U' V V' : Nat → Prop} {w w' : World} (h : Went U U' w w') (h1 : ∀ k, U k → V k) (h2 : ∀ k, V' k → U' k) : Went V V' w w' :=
  ⟨h.fr.mono (fun k hk => .inl (h1 k hk)), fun k hk => (h.new k (h2 k hk)).imp (h1 k) id⟩
theorem Went.trans {U V X : Nat → Prop} {w w1 w2 : World} (h : Went U V w w1) (h' : Went V X w1 w2) : Went U X w w2 :=
  ⟨h.fr.trans h'.fr h.new, fun k hk => (h'.new k hk).elim (h.new k) (fun e => .inr (Nat.le_trans h.fr.size e))⟩
section
variable {w0 w w' : World} {ga gb : Nat} {Sa Sb Ga Gb Wp Sa' Sb' S' : Nat → Prop} {ta tb ta' tb' : Tk} {va vb vw va' vw' : Value} {la lb la' : List (List Int)} {ps ps' : List S87}
theorem Pm.swap (h : Pm w0 w ga gb Sa Sb Ga Gb Wp ta tb va vb vw la lb ps) : Pm w0 w gb ga Sb Sa Gb Ga Wp tb ta vb va vw lb la ps :=
  ⟨h.two.swap, h.rb, h.ra, h.rw, fun k hk hu => (h.dGb k hk).1 hu.swap, fun k hk => ⟨fun hu => h.dGa k hk hu.swap, fun hb => (h.dGb k hb).2 hk⟩, fun k hk => ⟨fun hu => (h.dW k hk).1 hu.swap, (h.dW k hk).2.2, (h.dW k hk).2.1⟩,
   fun k hk => h.lt k (by rcases hk with hk | hk | hk <;> simp [hk]), fun k hk => h.ge k (by rcases hk with hk | hk | hk <;> simp [hk])⟩
/-- The ends have done something. -/
theorem Pm.act (h : Pm w0 w ga gb Sa Sb Ga Gb Wp ta tb va vb vw la lb ps) (h' : Two w0 w' ga gb Sa' Sb' ta' tb') (hw : Went (Un Sa Sb) (Un Sa' Sb') w w') :
    Pm w0 w' ga gb Sa' Sb' Ga Gb Wp ta' tb' va vb vw la lb ps ∧ Went (U5 Sa Sb Ga Gb Wp) (U5 Sa' Sb' Ga Gb Wp) w w' := by
  have hnew : ∀ k, k < w.heap.size → ¬ Un Sa Sb k → ¬ Un Sa' Sb' k := fun k hlt hn hu => (hw.new k hu).elim hn (fun e => Nat.not_lt.2 e hlt)
  refine ⟨⟨h', Kd.R_step h.ra (fun k hk hlt => hw.fr.block k hlt (h.dGa k hk)), Kd.R_step h.rb (fun k hk hlt => hw.fr.block k hlt (h.dGb k hk).1), Kd.R_step h.rw (fun k hk hlt => hw.fr.block k hlt (h.dW k hk).1),
    fun k hk => hnew k (h.lt k (.inl hk)) (h.dGa k hk), fun k hk => ⟨hnew k (h.lt k (.inr (.inl hk))) (h.dGb k hk).1, (h.dGb k hk).2⟩, fun k hk => ⟨hnew k (h.lt k (.inr (.inr hk))) (h.dW k hk).1, (h.dW k hk).2⟩,
    fun k hk => Nat.lt_of_lt_of_le (h.lt k hk) hw.fr.size, h.ge⟩, ⟨hw.fr.mono (fun k hk => .inl (.inl hk)), fun k hk => ?_⟩⟩
  rcases hk with hk | hk
  · exact (hw.new k hk).imp .inl id
  · exact .inl (.inr hk)
theorem Pm.below (h : Pm w0 w ga gb Sa Sb Ga Gb Wp ta tb va vb vw la lb ps) (hb : Below w.heap.size w w') : Pm w0 w' ga gb Sa Sb Ga Gb Wp ta tb va vb vw la lb ps :=
  (h.act (h.two.below hb) (Went.of_below hb)).1
theorem Pm.ltU (h : Pm w0 w ga gb Sa Sb Ga Gb Wp ta tb va vb vw la lb ps) : ∀ k, U5 Sa Sb Ga Gb Wp k → k < w.heap.size := fun k hk => hk.elim (h.two.lt k) (h.lt k)
theorem Pm.geU (h : Pm w0 w ga gb Sa Sb Ga Gb Wp ta tb va vb vw la lb ps) : ∀ k, U5 Sa Sb Ga Gb Wp k → w0.heap.size ≤ k := fun k hk => hk.elim (h.two.ge k) (h.ge k)
/-- A block of none of these is written. -/
theorem Pm.far (h : Pm w0 w ga gb Sa Sb Ga Gb Wp ta tb va vb vw la lb ps) {b : Nat} (hb : ¬ U5 Sa Sb Ga Gb Wp b) (hge : w0.heap.size ≤ b) (hf : Fr (fun k => k = b) w w') : Pm w0 w' ga gb Sa Sb Ga Gb Wp ta tb va vb vw la lb ps := by
  have hn : ∀ k, U5 Sa Sb Ga Gb Wp k → ¬ k = b := fun k hk e => hb (e ▸ hk)
  exact ⟨⟨h.two.a.frame hf (fun k hk => hn k (.inl (.inl hk))), h.two.b.frame hf (fun k hk => hn k (.inl (.inr hk))), h.two.dis, fun k hk => Nat.lt_of_lt_of_le (h.two.lta k hk) hf.size, fun k hk => Nat.lt_of_lt_of_le (h.two.ltb k hk) hf.size, h.two.ge, Fr.below h.two.fr h.two.fr.size hf (fun k e => e ▸ hge)⟩,
    Kd.R_step h.ra (fun k hk hlt => hf.block k hlt (hn k (.inr (.inl hk)))), Kd.R_step h.rb (fun k hk hlt => hf.block k hlt (hn k (.inr (.inr (.inl hk))))), Kd.R_step h.rw (fun k hk hlt => hf.block k hlt (hn k (.inr (.inr (.inr hk))))),
    h.dGa, h.dGb, h.dW, fun k hk => Nat.lt_of_lt_of_le (h.lt k hk) hf.size, h.ge⟩
theorem Pm.say (h : Pm w0 w ga gb Sa Sb Ga Gb Wp ta tb va vb vw la lb ps) (A : Option Addr) (c : Nat) (m : List Int) (hm : Kd.C (Kd.int .u8) w A m.length m) (hc : m.length ≤ c) (hl : m.length ≤ 4096)
    (hf : (ta.wait.length : Int) < ta.most) (hmost : ta.most ≤ 64) (hs : 0 ≤ ta.said ∧ ta.said < 1000000) :
    Calls Try.prog 22 #[.pointer (some ⟨ga, 0, none⟩), .slice A m.length c] w fun e w' => e = .returned (.int .i64 0) ∧ ∃ Sa', Pm w0 w' ga gb Sa' Sb Ga Gb Wp { ta with wait := ta.wait ++ [m], said := ta.said + 1 } tb va vb vw la lb ps ∧ Went (U5 Sa Sb Ga Gb Wp) (U5 Sa' Sb Ga Gb Wp) w w' := by
  refine (h.two.say A c m hm hc hl hf hmost hs _ rfl).mono ?_
  rintro e w' ⟨rfl, Sa', h2, hw⟩
  exact ⟨rfl, Sa', h.act h2 hw⟩
theorem Pm.say_full (h : Pm w0 w ga gb Sa Sb Ga Gb Wp ta tb va vb vw la lb ps) (A : Option Addr) (n c : Nat) (hl : n ≤ 4096) (hf : ta.most ≤ (ta.wait.length : Int)) :
    Calls Try.prog 22 #[.pointer (some ⟨ga, 0, none⟩), .slice A n c] w fun e w' => e = .returned (.int .i64 8) ∧ Pm w0 w' ga gb Sa Sb Ga Gb Wp ta tb va vb vw la lb ps ∧ Went (U5 Sa Sb Ga Gb Wp) (U5 Sa Sb Ga Gb Wp) w w' := by
  refine (h.two.say_full A n c hl hf).mono ?_
  rintro e w' ⟨rfl, h2, hw⟩
  exact ⟨rfl, h.act h2 hw⟩
theorem Pm.tick_no (h : Pm w0 w ga gb Sa Sb Ga Gb Wp ta tb va vb vw la lb ps) (now : Int) (hn : 0 ≤ now ∧ now < 2199023255552) (hl : 0 ≤ ta.last ∧ ta.last < 2199023255552) (hd : dueB ta now = false) :
    Calls Try.prog 19 #[.pointer (some ⟨ga, 0, none⟩), .int .i64 now] w fun e w' => e = .returned (.tuple #[.agg #[.int .i64 0, .slice none 0 0, .int .i64 0], .bool false]) ∧ Pm w0 w' ga gb Sa Sb Ga Gb Wp ta tb va vb vw la lb ps ∧ Went (U5 Sa Sb Ga Gb Wp) (U5 Sa Sb Ga Gb Wp) w w' := by
  refine (h.two.tick_no now hn hl hd).mono ?_
  rintro e w' ⟨rfl, h2, hw⟩
  exact ⟨rfl, h.act h2 hw⟩
theorem Pm.tick_yes (h : Pm w0 w ga gb Sa Sb Ga Gb Wp ta tb va vb vw la lb ps) (now : Int) (hn : 0 ≤ now ∧ now < 2199023255552) (hl : 0 ≤ ta.last ∧ ta.last < 2199023255552) (hd : dueB ta now = true) (hwl : ta.wait.length < 1000000) (hwm : ∀ m ∈ ta.wait, m.length < 140737488355328) :
    Calls Try.prog 19 #[.pointer (some ⟨ga, 0, none⟩), .int .i64 now] w fun e w' => ∃ A c, e = .returned (.tuple #[.agg #[.int .i64 ta.done, .slice A ta.wait.length c, .int .i64 ta.heard], .bool true]) ∧ ∃ Sa', Pm w0 w' ga gb Sa' Sb Ga Gb Wp (ticked ta now) tb va vb vw la lb ps ∧ Went (U5 Sa Sb Ga Gb Wp) (U5 Sa' Sb Ga Gb Wp) w w' ∧ kM.R 34 w' 0 (fun k => w.heap.size ≤ k ∧ k < w'.heap.size) (.slice A ta.wait.length c) ta.wait ∧ ∀ k, U5 Sa' Sb Ga Gb Wp k → k < w.heap.size := by
  refine (Go.Proofs.Yteeljnlhgaljaaa.tick_yes ga Sa ta now w h.two.a hn hl hd hwl hwm).mono ?_
  rintro e w' ⟨v, rfl, hv, hk, hf⟩
  obtain ⟨A, c, rfl⟩ := Kd.R_slice hv
  have hs : ∀ k, (Sa k ∧ k < w.heap.size) → Sa k ∨ w.heap.size ≤ k := fun k hk => .inl hk.1
  obtain ⟨h1, h2⟩ := h.act (h.two.step hk hs hf) (h.two.went hs hf)
  refine ⟨A, c, rfl, _, h1, h2, Kd.R_lower (Kd.R_mono (Kd.R_bound hv) (fun k hk => ⟨hk.2.1, hk.2.2.1⟩)) (Nat.zero_le _), fun k hk => ?_⟩
  rcases hk with (hk | hk) | hk
  · exact hk.1.2
  · exact h.two.ltb k hk
  · exact h.lt k hk
/-- A packet under way: its cells, and that its messages are nobody's. -/
theorem Pm.says (h : Pm w0 w ga gb Sa Sb Ga Gb Wp ta tb va vb vw la lb ps) (i : Nat) (hi : i < ps.length) : ∃ ad c A c', vw = .slice (some ad) ps.length c ∧ w.cell? (ad.add (i * 4)) = some (.int .i64 ps[i].f0.f0) ∧ w.cell? ⟨(ad.add (i * 4)).block, (ad.add (i * 4)).off + 1, none⟩ = some (.slice A ps[i].f0.f1.length c') ∧ w.cell? ⟨(ad.add (i * 4)).block, (ad.add (i * 4)).off + 2, none⟩ = some (.int .i64 ps[i].f0.f2) ∧ w.cell? ⟨(ad.add (i * 4)).block, (ad.add (i * 4)).off + 3, none⟩ = some (.bool ps[i].f1) ∧ Free w (Un Sa Sb) (.slice A ps[i].f0.f1.length c') ps[i].f0.f1 := by
  obtain ⟨b, c, cs, rfl, hb, hM, hc⟩ := R_at h.rw i hi
  obtain ⟨v1, rfl, hR⟩ := k87_openM hM
  obtain ⟨A, c', rfl⟩ := Kd.R_slice hR
  have e : (⟨b, 0, none⟩ : Addr).add (i * 4) = ⟨b, i * 4, none⟩ := by
    unfold Addr.add
    split
    · rename_i h0; rw [h0]
    · simp
  have hc' : ∀ (j : Nat) u, ([.int .i64 ps[i].f0.f0, .slice A ps[i].f0.f1.length c', .int .i64 ps[i].f0.f2, .bool ps[i].f1] : List Value)[j]? = some u → w.cell? ⟨b, i * 4 + j, none⟩ = some u := hc
  refine ⟨⟨b, 0, none⟩, c, A, c', rfl, ?_, ?_, ?_, ?_, fun k => Wp k ∧ k < w.heap.size, Kd.R_mono (Kd.R_bound hR) (fun k hk => ⟨hk.1.1, hk.2.2.1⟩), fun k hk => ⟨(h.dW k hk.1).1, hk.2⟩⟩
  · rw [e]; exact hc' 0 _ rfl
  · rw [e]; exact hc' 1 _ rfl
  · rw [e]; exact hc' 2 _ rfl
  · rw [e]; exact hc' 3 _ rfl
theorem Pm.hear (h : Pm w0 w ga gb Sa Sb Ga Gb Wp ta tb va vb vw la lb ps) (f hd : Int) (A : Option Addr) (c : Nat) (l : List (List Int)) (hF : Free w (Un Sa Sb) (.slice A l.length c) l) (hb : badP f hd l = false) (hs : hd ≤ ta.said) (fit : Fit ta) (hr : ¬ ta.heard < f) :
    Calls Try.prog 20 #[.pointer (some ⟨ga, 0, none⟩), .agg #[.int .i64 f, .slice A l.length c, .int .i64 hd]] w fun e w' => e = .returned (.int .i64 0) ∧ ∃ Sa', Pm w0 w' ga gb Sa' Sb Ga Gb Wp (heardT ta f hd l) tb va vb vw la lb ps ∧ Went (U5 Sa Sb Ga Gb Wp) (U5 Sa' Sb Ga Gb Wp) w w' := by
  refine (h.two.hear f hd A c l.length l rfl hF hb hs fit 0 _ (if_neg hr) rfl).mono ?_
  rintro e w' ⟨rfl, Sa', h2, hw⟩
  exact ⟨rfl, Sa', h.act h2 hw⟩
theorem Pm.got (h : Pm w0 w ga gb Sa Sb Ga Gb Wp ta tb va vb vw la lb ps) :
    Calls Try.prog 21 #[.pointer (some ⟨ga, 0, none⟩)] w fun e w' => ∃ A c, e = .returned (.slice A ta.got.length c) ∧ ∃ Sa' So, Pm w0 w' ga gb Sa' Sb Ga Gb Wp { ta with got := [] } tb va vb vw la lb ps ∧ kM.R 34 w' 0 So (.slice A ta.got.length c) ta.got ∧ (∀ k, So k → ¬ U5 Sa' Sb Ga Gb Wp k ∧ k < w'.heap.size ∧ w0.heap.size ≤ k) ∧ Went (U5 Sa Sb Ga Gb Wp) (fun k => U5 Sa' Sb Ga Gb Wp k ∨ So k) w w' := by
  refine (got_ok ga Sa ta w h.two.a).mono ?_
  rintro e w' ⟨v, S', So, rfl, hk, ho, hs', hso, hf⟩
  obtain ⟨A, c, rfl⟩ := Kd.R_slice ho
  have hs : ∀ k, S' k → Sa k ∨ w.heap.size ≤ k := fun k hk => .inl (hs' k hk).1
  obtain ⟨h1, h2⟩ := h.act (h.two.step hk hs hf) (h.two.went hs hf)
  refine ⟨A, c, rfl, _, fun k => So k ∧ k < w'.heap.size, h1, Kd.R_mono (Kd.R_bound ho) (fun k hk => ⟨hk.1, hk.2.2.1⟩), fun k hk => ⟨?_, hk.2, h.two.ge k (.inl (hso k hk.1))⟩, ⟨h2.fr, fun k hk => ?_⟩⟩
  · have hS := hso k hk.1
    rintro ((h3 | h3) | h3 | h3 | h3)
    · exact (hs' k h3.1).2 hk.1
    · exact h.two.dis k hS h3
    · exact h.dGa k h3 (.inl hS)
    · exact (h.dGb k h3).1 (.inl hS)
    · exact (h.dW k h3).1 (.inl hS)
  · rcases hk with hk | hk
    · exact h2.new k hk
    · exact .inl (.inl (.inl (hso k hk.1)))
/-- What was got at the one end is more. -/
theorem Pm.addG (h : Pm w0 w ga gb Sa Sb Ga Gb Wp ta tb va vb vw la lb ps) {So Ga' : Nat → Prop} (hSo : ∀ k, So k → ¬ U5 Sa Sb Ga Gb Wp k ∧ k < w.heap.size ∧ w0.heap.size ≤ k) (hf : Fr Ga w w') (hR : kM.R 34 w' 0 Ga' va' la') (hs : ∀ k, Ga' k → Ga k ∨ So k ∨ w.heap.size ≤ k) :
    Pm w0 w' ga gb Sa Sb (fun k => Ga' k ∧ k < w'.heap.size) Gb Wp ta tb va' vb vw la' lb ps ∧ Went (fun k => U5 Sa Sb Ga Gb Wp k ∨ So k) (U5 Sa Sb (fun k => Ga' k ∧ k < w'.heap.size) Gb Wp) w w' := by
  have hnot : ∀ k, Ga' k → ∀ (X : Nat → Prop), (∀ k, X k → k < w.heap.size) → (∀ k, X k → U5 Sa Sb Ga Gb Wp k) → (∀ k, Ga k → ¬ X k) → ¬ X k := fun k hk X h1 h2 h3 hx => by
    rcases hs k hk with h4 | h4 | h4
    · exact h3 k h4 hx
    · exact (hSo k h4).1 (h2 k hx)
    · exact Nat.not_lt.2 h4 (h1 k hx)
  refine ⟨⟨⟨h.two.a.frame hf (fun k hk hg => h.dGa k hg (.inl hk)), h.two.b.frame hf (fun k hk hg => h.dGa k hg (.inr hk)), h.two.dis, fun k hk => Nat.lt_of_lt_of_le (h.two.lta k hk) hf.size, fun k hk => Nat.lt_of_lt_of_le (h.two.ltb k hk) hf.size, h.two.ge, Fr.below h.two.fr h.two.fr.size hf (fun k hk => h.ge k (.inl hk))⟩,
    Kd.R_mono (Kd.R_bound hR) (fun k hk => ⟨hk.1, hk.2.2.1⟩), Kd.R_step h.rb (fun k hk hlt => hf.block k hlt (h.dGb k hk).2), Kd.R_step h.rw (fun k hk hlt => hf.block k hlt (h.dW k hk).2.1),
    fun k hk => hnot k hk.1 (Un Sa Sb) h.two.lt (fun k hk => .inl hk) h.dGa, fun k hk => ⟨(h.dGb k hk).1, fun hg => hnot k hg.1 Gb (fun k hk => h.lt k (.inr (.inl hk))) (fun k hk => .inr (.inr (.inl hk))) (fun k h1 h2 => (h.dGb k h2).2 h1) hk⟩,
    fun k hk => ⟨(h.dW k hk).1, fun hg => hnot k hg.1 Wp (fun k hk => h.lt k (.inr (.inr hk))) (fun k hk => .inr (.inr (.inr hk))) (fun k h1 h2 => (h.dW k h2).2.1 h1) hk, (h.dW k hk).2.2⟩, fun k hk => ?_, fun k hk => ?_⟩, ⟨hf.mono (fun k hk => .inl (.inl (.inr (.inl hk)))), fun k hk => ?_⟩⟩
  · rcases hk with hk | hk
    · exact hk.2
    · exact Nat.lt_of_lt_of_le (h.lt k (.inr hk)) hf.size
  · rcases hk with hk | hk
    · rcases hs k hk.1 with h4 | h4 | h4
      · exact h.ge k (.inl h4)
      · exact (hSo k h4).2.2
      · exact Nat.le_trans h.two.fr.size h4
    · exact h.ge k (.inr hk)
  · rcases hk with hk | hk | hk
    · exact .inl (.inl (.inl hk))
    · rcases hs k hk.1 with h4 | h4 | h4
      · exact .inl (.inl (.inr (.inl h4)))
      · exact .inl (.inr h4)
      · exact .inr h4
    · exact .inl (.inl (.inr (.inr hk)))
/-- What is under way is another row. -/
theorem Pm.setW (h : Pm w0 w ga gb Sa Sb Ga Gb Wp ta tb va vb vw la lb ps) {Wp' : Nat → Prop} (hf : Fr Wp w w') (hR : k87.R 87 w' 0 Wp' vw' ps') (hs : ∀ k, Wp' k → Wp k ∨ w.heap.size ≤ k) :
    Pm w0 w' ga gb Sa Sb Ga Gb (fun k => Wp' k ∧ k < w'.heap.size) ta tb va vb vw' la lb ps' ∧ Went (U5 Sa Sb Ga Gb Wp) (U5 Sa Sb Ga Gb (fun k => Wp' k ∧ k < w'.heap.size)) w w' := by
  have hnot : ∀ k, Wp' k → ∀ (X : Nat → Prop), (∀ k, X k → k < w.heap.size) → (∀ k, Wp k → ¬ X k) → ¬ X k := fun k hk X h1 h3 hx => by
    rcases hs k hk with h4 | h4
    · exact h3 k h4 hx
    · exact Nat.not_lt.2 h4 (h1 k hx)
  refine ⟨⟨⟨h.two.a.frame hf (fun k hk hg => (h.dW k hg).1 (.inl hk)), h.two.b.frame hf (fun k hk hg => (h.dW k hg).1 (.inr hk)), h.two.dis, fun k hk => Nat.lt_of_lt_of_le (h.two.lta k hk) hf.size, fun k hk => Nat.lt_of_lt_of_le (h.two.ltb k hk) hf.size, h.two.ge, Fr.below h.two.fr h.two.fr.size hf (fun k hk => h.ge k (.inr (.inr hk)))⟩,
    Kd.R_step h.ra (fun k hk hlt => hf.block k hlt (fun hg => (h.dW k hg).2.1 hk)), Kd.R_step h.rb (fun k hk hlt => hf.block k hlt (fun hg => (h.dW k hg).2.2 hk)), Kd.R_mono (Kd.R_bound hR) (fun k hk => ⟨hk.1, hk.2.2.1⟩),
    h.dGa, h.dGb, fun k hk => ⟨hnot k hk.1 _ h.two.lt (fun k hk => (h.dW k hk).1), hnot k hk.1 _ (fun k hk => h.lt k (.inl hk)) (fun k hk => (h.dW k hk).2.1), hnot k hk.1 _ (fun k hk => h.lt k (.inr (.inl hk))) (fun k hk => (h.dW k hk).2.2)⟩, fun k hk => ?_, fun k hk => ?_⟩, ⟨hf.mono (fun k hk => .inl (.inr (.inr (.inr hk)))), fun k hk => ?_⟩⟩
  · rcases hk with hk | hk | hk
    · exact Nat.lt_of_lt_of_le (h.lt k (.inl hk)) hf.size
    · exact Nat.lt_of_lt_of_le (h.lt k (.inr (.inl hk))) hf.size
    · exact hk.2
  · rcases hk with hk | hk | hk
    · exact h.ge k (.inl hk)
    · exact h.ge k (.inr (.inl hk))
    · exact (hs k hk.1).elim (fun h4 => h.ge k (.inr (.inr h4))) (fun h4 => Nat.le_trans h.two.fr.size h4)
  · rcases hk with hk | hk | hk | hk
    · exact .inl (.inl hk)
    · exact .inl (.inr (.inl hk))
    · exact .inl (.inr (.inr (.inl hk)))
    · exact (hs k hk.1).imp (fun h4 => .inr (.inr (.inr h4))) id
/-- More is under way, in memory that is nobody's. -/
theorem Pm.addW (h : Pm w0 w ga gb Sa Sb Ga Gb Wp ta tb va vb vw la lb ps) {So Wp' : Nat → Prop} (hSo : ∀ k, So k → ¬ U5 Sa Sb Ga Gb Wp k ∧ k < w.heap.size ∧ w0.heap.size ≤ k) (hf : Fr Wp w w') (hR : k87.R 87 w' 0 Wp' vw' ps') (hs : ∀ k, Wp' k → Wp k ∨ So k ∨ w.heap.size ≤ k) :
    Pm w0 w' ga gb Sa Sb Ga Gb (fun k => Wp' k ∧ k < w'.heap.size) ta tb va vb vw' la lb ps' ∧ Went (fun k => U5 Sa Sb Ga Gb Wp k ∨ So k) (U5 Sa Sb Ga Gb (fun k => Wp' k ∧ k < w'.heap.size)) w w' := by
  have hnot : ∀ k, Wp' k → ∀ (X : Nat → Prop), (∀ k, X k → k < w.heap.size) → (∀ k, X k → U5 Sa Sb Ga Gb Wp k) → (∀ k, Wp k → ¬ X k) → ¬ X k := fun k hk X h1 h2 h3 hx => by
    rcases hs k hk with h4 | h4 | h4
    · exact h3 k h4 hx
    · exact (hSo k h4).1 (h2 k hx)
    · exact Nat.not_lt.2 h4 (h1 k hx)
  refine ⟨⟨⟨h.two.a.frame hf (fun k hk hg => (h.dW k hg).1 (.inl hk)), h.two.b.frame hf (fun k hk hg => (h.dW k hg).1 (.inr hk)), h.two.dis, fun k hk => Nat.lt_of_lt_of_le (h.two.lta k hk) hf.size, fun k hk => Nat.lt_of_lt_of_le (h.two.ltb k hk) hf.size, h.two.ge, Fr.below h.two.fr h.two.fr.size hf (fun k hk => h.ge k (.inr (.inr hk)))⟩,
    Kd.R_step h.ra (fun k hk hlt => hf.block k hlt (fun hg => (h.dW k hg).2.1 hk)), Kd.R_step h.rb (fun k hk hlt => hf.block k hlt (fun hg => (h.dW k hg).2.2 hk)), Kd.R_mono (Kd.R_bound hR) (fun k hk => ⟨hk.1, hk.2.2.1⟩),
    h.dGa, h.dGb, fun k hk => ⟨hnot k hk.1 _ h.two.lt (fun k hk => .inl hk) (fun k hk => (h.dW k hk).1), hnot k hk.1 _ (fun k hk => h.lt k (.inl hk)) (fun k hk => .inr (.inl hk)) (fun k hk => (h.dW k hk).2.1), hnot k hk.1 _ (fun k hk => h.lt k (.inr (.inl hk))) (fun k hk => .inr (.inr (.inl hk))) (fun k hk => (h.dW k hk).2.2)⟩, fun k hk => ?_, fun k hk => ?_⟩, ⟨hf.mono (fun k hk => .inl (.inl (.inr (.inr (.inr hk))))), fun k hk => ?_⟩⟩
  · rcases hk with hk | hk | hk
    · exact Nat.lt_of_lt_of_le (h.lt k (.inl hk)) hf.size
    · exact Nat.lt_of_lt_of_le (h.lt k (.inr (.inl hk))) hf.size
    · exact hk.2
  · rcases hk with hk | hk | hk
    · exact h.ge k (.inl hk)
    · exact h.ge k (.inr (.inl hk))
    · rcases hs k hk.1 with h4 | h4 | h4
      · exact h.ge k (.inr (.inr h4))
      · exact (hSo k h4).2.2
      · exact Nat.le_trans h.two.fr.size h4
  · rcases hk with hk | hk | hk | hk
    · exact .inl (.inl (.inl hk))
    · exact .inl (.inl (.inr (.inl hk)))
    · exact .inl (.inl (.inr (.inr (.inl hk))))
    · rcases hs k hk.1 with h4 | h4 | h4
      · exact .inl (.inl (.inr (.inr (.inr h4))))
      · exact .inl (.inr h4)
      · exact .inr h4
theorem Went.more {U U' : Nat → Prop} (h : Went U U' w w') : Went U (fun k => U' k ∨ (w.heap.size ≤ k ∧ k < w'.heap.size)) w w' := ⟨h.fr, fun k hk => hk.elim (h.new k) (fun e => .inr e.1)⟩
end
theorem Blk.put {w : World} {U : Nat → Prop} {b t : Nat} {cs cs' : Array Value} (h : Blk w U b (.cells cs t (0, 0))) (i : Nat) (v : Value) (e : cs.setIfInBounds i v = cs') : Blk (w.setCell ⟨b, i, none⟩ v) U b (.cells cs' t (0, 0)) := ⟨blk_put h.at_ i v e, h.far⟩
theorem Blk.other {w w' : World} {U : Nat → Prop} {b b' : Nat} {o : Obj} (h : Blk w U b o) (hf : Fr (fun k => k = b') w w') (hne : b ≠ b') : Blk w' U b o := ⟨(hf.block b (blk_lt h.at_) hne).trans h.at_, h.far⟩
end Go.Proofs.Yteeljnlhgaljaaa
