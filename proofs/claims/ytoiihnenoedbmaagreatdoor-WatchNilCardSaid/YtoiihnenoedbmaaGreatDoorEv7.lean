/- A part of the proof that the law WatchNil returns true for every input (its card: YtoiihnenoedbmaaGreatDoorMyCard): EvPhT, EvJoin, EvPhB, EvPhA, EvPhC, EvPhD, EvOut. Conditions: those of the given row alone. -/
import Derived.Test.YtoiihnenoedbmaaGreatDoorEv6
import Derived.Conc.FxEnd
/- The trace between a fork and a join. -/
namespace Go.Ev
open Go.Conc
open Go.ConcX (stA smA OfWg)
open Go.ConcN (RelBy)

structure PhT (Shun : Loc → Prop) (Wg j B d0 d1 : Nat) (rel : Option Nat) (t : Trace) : Prop where
  clean : ∀ said, ¬ Race said t
  k0 : ∀ i a, touchAt t i = some a → a.loc.isMemory = true → Knows t 0 i ∨ (Shun a.loc ∧ a.kind = .atomic) ∨ t.g? i = some j
  k1 : ∀ i a, touchAt t i = some a → a.loc.isMemory = true → Knows t j i ∨ (Shun a.loc ∧ a.kind = .atomic) ∨ (OfWg Wg a.loc ∧ a.kind ≠ .plain)
  wk : ∀ i a, touchAt t i = some a → t.g? i = some j → OfWg Wg a.loc → a.kind = .atomic ∨ Knows t 0 i
  over : ∀ i g, t.g? i = some g → g ≠ 0 → g ≠ j → t.counts i → ∃ k, t.g? k = some 0 ∧ HappensBefore t i k
  low : ∀ op ∈ t, op.act.low B
  deaf0 : Deaf t 0 = d0
  deaf1 : Deaf t j = d1
  rel : ∀ r, rel = some r → RelBy (stA Wg) t j r ∧ (∀ i, r < i → t.act? i ≠ some (.mark (.release (stA Wg)))) ∧ (∀ i a, r < i → t.g? i = some j → touchAt t i = some a → OfWg Wg a.loc)

section
variable {Shun : Loc → Prop} {Wg j B d0 d1 : Nat} {rel : Option Nat} {t : Trace}

theorem g?_of {t : Trace} {i : Nat} {op : MemOp} (h : t[i]? = some op) : t.g? i = some op.g := by simp [Trace.g?, h]
theorem g?_lt {t : Trace} {i g : Nat} (h : t.g? i = some g) : i < t.size := by
  obtain ⟨op, ho, _⟩ := Option.map_eq_some_iff.1 h
  exact lt_size_of_getElem? ho
theorem counts_touch {t : Trace} {i : Nat} (h : t.counts i) : ∃ a, touchAt t i = some a ∧ a.loc.isMemory = true := by
  obtain ⟨x, hx, hm, _⟩ := h
  exact ⟨x, hx, hm⟩

theorem over_app {u : Trace} (h : ∀ i g, t.g? i = some g → g ≠ 0 → g ≠ j → t.counts i → ∃ k, t.g? k = some 0 ∧ HappensBefore t i k) (hu : ∀ op ∈ u, op.g = 0 ∨ op.g = j ∨ op.act.touch? = none) :
    ∀ i g, (t ++ u).g? i = some g → g ≠ 0 → g ≠ j → (t ++ u).counts i → ∃ k, (t ++ u).g? k = some 0 ∧ HappensBefore (t ++ u) i k := by
  intro i g hg h0 hj hc
  obtain ⟨x, hx, _⟩ := hc
  obtain ⟨op, hop, hox⟩ := touch_of hx
  rcases getElem?_append_cases hop with ⟨hi, hop'⟩ | ⟨_, hopu⟩
  · obtain ⟨k, hk, hb⟩ := h i g (by rw [← hg]; simp [Trace.g?, getElem?_append_old hi]) h0 hj ((counts_old hi).1 ⟨x, hx, ‹_›⟩)
    have hkl := g?_lt hk
    exact ⟨k, by rw [g?_old hkl]; exact hk, hb_app u hb⟩
  · have hgo : op.g = g := by rw [g?_of hop] at hg; exact Option.some.inj hg
    rcases hu op hopu with h1 | h1 | h1
    · exact absurd (hgo.symm.trans h1) h0
    · exact absurd (hgo.symm.trans h1) hj
    · rw [h1] at hox; cases hox

/-- How the last limb goes on where others act. -/
theorem rel_other {u : Trace} {g : Nat} (h : ∀ r, rel = some r → RelBy (stA Wg) t j r ∧ (∀ i, r < i → t.act? i ≠ some (.mark (.release (stA Wg)))) ∧ (∀ i a, r < i → t.g? i = some j → touchAt t i = some a → OfWg Wg a.loc))
    (hu : ∀ op ∈ u, op.g = g) (hg : g ≠ j) (hr : ∀ op ∈ u, op.act ≠ .mark (.release (stA Wg))) :
    ∀ r, rel = some r → RelBy (stA Wg) (t ++ u) j r ∧ (∀ i, r < i → (t ++ u).act? i ≠ some (.mark (.release (stA Wg)))) ∧ (∀ i a, r < i → (t ++ u).g? i = some j → touchAt (t ++ u) i = some a → OfWg Wg a.loc) := by
  intro r hr'
  obtain ⟨h1, h2, h3⟩ := h r hr'
  refine ⟨h1.appOther hu hg, fun i hi ha => ?_, fun i a hi hgi ha => ?_⟩
  · obtain ⟨op, ho, hoa⟩ := Option.map_eq_some_iff.1 ha
    rcases getElem?_append_cases ho with ⟨hl, ho'⟩ | ⟨_, hou⟩
    · exact h2 i hi (by rw [act?_of ho', hoa])
    · exact hr op hou hoa
  · obtain ⟨op, ho, hoa⟩ := touch_of ha
    rcases getElem?_append_cases ho with ⟨hl, ho'⟩ | ⟨_, hou⟩
    · exact h3 i a hi (by rw [← hgi, g?_old hl]) (by rw [touchAt_of ho']; exact hoa)
    · have : op.g = j := by rw [g?_of ho] at hgi; exact Option.some.inj hgi
      exact absurd ((hu op hou).symm.trans this) hg

/-- The joiner's step. -/
theorem PhT.main (h : PhT Shun Wg j B d0 d1 rel t) (hj : j ≠ 0) {B' : Nat} (hB : B ≤ B') (hSW : ∀ l, Shun l → ¬ OfWg Wg l) {fn : FuncId} {pos : String} {es : Array Event}
    (hM : ∀ e ∈ es, ∀ x, (MemAct.ofEvent e).touch? = some x → OfWg Wg x.loc ∧ x.kind ≠ .plain) (hr : ∀ e ∈ es, e.loc ≠ .mark (.release (stA Wg))) (hl : ∀ e ∈ es, (MemAct.ofEvent e).low B') :
    PhT Shun Wg j B' (deafBehind d0 es) d1 rel (t ++ MemOp.ofEvents 0 fn pos es) := by
  have hu : ∀ op ∈ MemOp.ofEvents 0 fn pos es, op.g = 0 := fun op hop => by obtain ⟨e, _, rfl⟩ := Go.Conc.mem_ofEvents hop; rfl
  have hx : ∀ op ∈ MemOp.ofEvents 0 fn pos es, ∀ x, op.act.touch? = some x → OfWg Wg x.loc ∧ x.kind ≠ .plain := fun op hop x hx => by obtain ⟨e, he, rfl⟩ := Go.Conc.mem_ofEvents hop; exact hM e he x hx
  refine ⟨fun said => noRace_append (h.clean said) hu fun i a ha op hop b hb hc => ?_, fun i a ha hm => ?_, fun i a ha hm => ?_, fun i a ha hg ho => ?_, over_app h.over fun op hop => .inl (hu op hop), fun op hop => ?_, by rw [Deaf_own, h.deaf0], by rw [Deaf_other t (g' := 0) (Ne.symm hj) _ hu, h.deaf1], rel_other h.rel hu (Ne.symm hj) fun op hop => ?_⟩
  · obtain ⟨h1, h2⟩ := hx op hop b hb
    have ho : OfWg Wg a.loc := by rw [hc.1]; exact h1
    rcases h.k0 i a ha hc.2.1 with hk | ⟨hs, _⟩ | hg
    · exact hk
    · exact absurd ho (hSW _ hs)
    · rcases h.wk i a ha hg ho with hk | hk
      · obtain ⟨_, _, _, hcase⟩ := hc
        rw [hk] at hcase
        rcases hcase with x | x | ⟨_, x, _⟩
        · cases x
        · exact absurd x h2
        · cases x
      · exact hk
  · obtain ⟨x, hxo, hxa⟩ := touch_of ha
    rcases getElem?_append_cases hxo with ⟨hlt, hx'⟩ | ⟨_, hxu⟩
    · rcases h.k0 i a (by rw [touchAt_of hx']; exact hxa) hm with h1 | h1 | h1
      · exact .inl (h1.app _)
      · exact .inr (.inl h1)
      · exact .inr (.inr (by rw [g?_old hlt]; exact h1))
    · have := knows_own hxo
      rw [hu x hxu] at this
      exact .inl this
  · obtain ⟨x, hxo, hxa⟩ := touch_of ha
    rcases getElem?_append_cases hxo with ⟨_, hx'⟩ | ⟨_, hxu⟩
    · exact (h.k1 i a (by rw [touchAt_of hx']; exact hxa) hm).imp (·.app _) id
    · exact .inr (.inr (hx x hxu a hxa))
  · obtain ⟨x, hxo, hxa⟩ := touch_of ha
    rcases getElem?_append_cases hxo with ⟨hlt, hx'⟩ | ⟨_, hxu⟩
    · exact (h.wk i a (by rw [touchAt_of hx']; exact hxa) (by rw [← hg, g?_old hlt]) ho).imp id (·.app _)
    · have : x.g = j := by rw [g?_of hxo] at hg; exact Option.some.inj hg
      exact absurd (this.symm.trans (hu x hxu)) hj
  · rcases Array.mem_append.1 hop with hop | hop
    · exact MemAct.low_mono hB (h.low op hop)
    · obtain ⟨e, he, rfl⟩ := Go.Conc.mem_ofEvents hop; exact hl e he
  · obtain ⟨e, he, rfl⟩ := Go.Conc.mem_ofEvents hop
    exact fun ha => hr e he (ConcR.loc_of_ofEvent ha)

/-- A leaver's step. -/
theorem PhT.leaver (h : PhT Shun Wg j B d0 d1 rel t) {g : Nat} (h0 : g ≠ 0) (hj : g ≠ j) {fn : FuncId} {pos : String} {es : Array Event} (hm : ∀ e ∈ es, e.mute = true) : PhT Shun Wg j B d0 d1 rel (t ++ MemOp.ofEvents g fn pos es) := by
  have hu : ∀ op ∈ MemOp.ofEvents g fn pos es, op.g = g := fun op hop => by obtain ⟨e, _, rfl⟩ := Go.Conc.mem_ofEvents hop; rfl
  have hn : ∀ op ∈ MemOp.ofEvents g fn pos es, op.act.touch? = none := fun op hop => by obtain ⟨e, he, rfl⟩ := Go.Conc.mem_ofEvents hop; exact touch_mute (hm e he)
  have old : ∀ {i a}, touchAt (t ++ MemOp.ofEvents g fn pos es) i = some a → i < t.size ∧ touchAt t i = some a := fun {i a} ha => by
    obtain ⟨x, hxo, hxa⟩ := touch_of ha
    rcases getElem?_append_cases hxo with ⟨hlt, hx'⟩ | ⟨_, hxu⟩
    · exact ⟨hlt, by rw [touchAt_of hx']; exact hxa⟩
    · rw [hn x hxu] at hxa; cases hxa
  refine ⟨fun said => noRace_append (h.clean said) hu fun i a _ op hop b hb _ => (by rw [hn op hop] at hb; cases hb), fun i a ha hm' => ?_, fun i a ha hm' => ?_, fun i a ha hg ho => ?_, over_app h.over fun op hop => .inr (.inr (hn op hop)), fun op hop => ?_, by rw [Deaf_other t h0 _ hu, h.deaf0], by rw [Deaf_other t hj _ hu, h.deaf1], rel_other h.rel hu hj fun op hop => ?_⟩
  · obtain ⟨hlt, ha'⟩ := old ha
    rcases h.k0 i a ha' hm' with h1 | h1 | h1
    · exact .inl (h1.app _)
    · exact .inr (.inl h1)
    · exact .inr (.inr (by rw [g?_old hlt]; exact h1))
  · obtain ⟨hlt, ha'⟩ := old ha
    exact (h.k1 i a ha' hm').imp (·.app _) id
  · obtain ⟨hlt, ha'⟩ := old ha
    exact (h.wk i a ha' (by rw [← hg, g?_old hlt]) ho).imp id (·.app _)
  · rcases Array.mem_append.1 hop with hop | hop
    · exact h.low op hop
    · obtain ⟨e, he, rfl⟩ := Go.Conc.mem_ofEvents hop; exact low_mute (hm e he) B
  · obtain ⟨e, he, rfl⟩ := Go.Conc.mem_ofEvents hop
    intro ha
    have := hm e he
    have hl := ConcR.loc_of_ofEvent ha
    obtain ⟨loc, wr, sy⟩ := e
    simp only at hl
    subst hl
    cases this

/-- The worker's step. -/
theorem PhT.worker (h : PhT Shun Wg j B d0 d1 rel t) (hj : j ≠ 0) {B' : Nat} (hB : B ≤ B') (hSW : ∀ l, Shun l → ¬ OfWg Wg l) {fn : FuncId} {pos : String} {es : Array Event}
    (hW : ∀ e ∈ es, ∀ x, (MemAct.ofEvent e).touch? = some x → (¬ Shun x.loc ∧ ¬ OfWg Wg x.loc) ∨ (OfWg Wg x.loc ∧ x.kind = .atomic)) (hl : ∀ e ∈ es, (MemAct.ofEvent e).low B')
    {rel' : Option Nat} (hrel : ∀ r, rel' = some r → RelBy (stA Wg) (t ++ MemOp.ofEvents j fn pos es) j r ∧ (∀ i, r < i → (t ++ MemOp.ofEvents j fn pos es).act? i ≠ some (.mark (.release (stA Wg)))) ∧ (∀ i a, r < i → (t ++ MemOp.ofEvents j fn pos es).g? i = some j → touchAt (t ++ MemOp.ofEvents j fn pos es) i = some a → OfWg Wg a.loc)) :
    PhT Shun Wg j B' d0 (deafBehind d1 es) rel' (t ++ MemOp.ofEvents j fn pos es) := by
  have hu : ∀ op ∈ MemOp.ofEvents j fn pos es, op.g = j := fun op hop => by obtain ⟨e, _, rfl⟩ := Go.Conc.mem_ofEvents hop; rfl
  have hx : ∀ op ∈ MemOp.ofEvents j fn pos es, ∀ x, op.act.touch? = some x → (¬ Shun x.loc ∧ ¬ OfWg Wg x.loc) ∨ (OfWg Wg x.loc ∧ x.kind = .atomic) := fun op hop x hx => by obtain ⟨e, he, rfl⟩ := Go.Conc.mem_ofEvents hop; exact hW e he x hx
  refine ⟨fun said => noRace_append (h.clean said) hu fun i a ha op hop b hb hc => ?_, fun i a ha hm => ?_, fun i a ha hm => ?_, fun i a ha hg ho => ?_, over_app h.over fun op hop => .inr (.inl (hu op hop)), fun op hop => ?_, by rw [Deaf_other t hj _ hu, h.deaf0], by rw [Deaf_own, h.deaf1], hrel⟩
  · rcases h.k1 i a ha hc.2.1 with hk | ⟨hs, _⟩ | ⟨hw, hk⟩
    · exact hk
    · rw [hc.1] at hs
      rcases hx op hop b hb with ⟨h1, _⟩ | ⟨h1, _⟩
      · exact absurd hs h1
      · exact absurd h1 (hSW _ hs)
    · have hw' := hw
      rw [hc.1] at hw'
      rcases hx op hop b hb with ⟨_, h1⟩ | ⟨_, h1⟩
      · exact absurd hw' h1
      · obtain ⟨_, _, _, hcase⟩ := hc
        rw [h1] at hcase
        rcases hcase with x | x | ⟨_, _, x⟩
        · exact absurd x hk
        · cases x
        · cases x
  · obtain ⟨x, hxo, hxa⟩ := touch_of ha
    rcases getElem?_append_cases hxo with ⟨hlt, hx'⟩ | ⟨_, hxu⟩
    · rcases h.k0 i a (by rw [touchAt_of hx']; exact hxa) hm with h1 | h1 | h1
      · exact .inl (h1.app _)
      · exact .inr (.inl h1)
      · exact .inr (.inr (by rw [g?_old hlt]; exact h1))
    · exact .inr (.inr (by rw [g?_of hxo, hu x hxu]))
  · obtain ⟨x, hxo, hxa⟩ := touch_of ha
    rcases getElem?_append_cases hxo with ⟨_, hx'⟩ | ⟨_, hxu⟩
    · exact (h.k1 i a (by rw [touchAt_of hx']; exact hxa) hm).imp (·.app _) id
    · have := knows_own hxo
      rw [hu x hxu] at this
      exact .inl this
  · obtain ⟨x, hxo, hxa⟩ := touch_of ha
    rcases getElem?_append_cases hxo with ⟨hlt, hx'⟩ | ⟨_, hxu⟩
    · exact (h.wk i a (by rw [touchAt_of hx']; exact hxa) (by rw [← hg, g?_old hlt]) ho).imp id (·.app _)
    · rcases hx x hxu a hxa with ⟨_, h1⟩ | ⟨_, h1⟩
      · exact absurd ho h1
      · exact .inl h1
  · rcases Array.mem_append.1 hop with hop | hop
    · exact MemAct.low_mono hB (h.low op hop)
    · obtain ⟨e, he, rfl⟩ := Go.Conc.mem_ofEvents hop; exact hl e he

/-- The worker's steps behind its release: nothing that counts. -/
theorem PhT.tail (h : PhT Shun Wg j B d0 d1 rel t) (hj : j ≠ 0) (hSW : ∀ l, Shun l → ¬ OfWg Wg l) (hWB : Wg < B) {fn : FuncId} {pos : String} {es : Array Event}
    (hW : ∀ k e, es[k]? = some e → (MemAct.ofEvent e).touch? = none ∨ ((∃ off wr, e = ⟨.cell ⟨Wg, off, none⟩, wr, true⟩) ∧ 0 < deafBehind d1 (es.extract 0 k))) (hr : ∀ e ∈ es, e.loc ≠ .mark (.release (stA Wg))) (hl : ∀ e ∈ es, (MemAct.ofEvent e).low B) :
    PhT Shun Wg j B d0 (deafBehind d1 es) rel (t ++ MemOp.ofEvents j fn pos es) := by
  have hu : ∀ op ∈ MemOp.ofEvents j fn pos es, op.g = j := fun op hop => by obtain ⟨e, _, rfl⟩ := Go.Conc.mem_ofEvents hop; rfl
  have hm : ∀ e ∈ es, ∀ x, (MemAct.ofEvent e).touch? = some x → OfWg Wg x.loc ∧ x.kind = .atomic := fun e he x hx => by
    obtain ⟨k, hk⟩ := Array.mem_iff_getElem?.1 he
    rcases hW k e hk with h1 | ⟨⟨off, wr, rfl⟩, _⟩
    · rw [h1] at hx; cases hx
    · cases wr <;> simp [MemAct.ofEvent, MemAct.touch?] at hx <;> (subst hx; exact ⟨⟨_, rfl, rfl⟩, rfl⟩)
  refine h.worker hj (Nat.le_refl _) hSW (fun e he x hx => .inr (hm e he x hx)) hl fun r hr' => ?_
  obtain ⟨h1, h2, h3⟩ := h.rel r hr'
  refine ⟨h1.appOwn fn pos es fun k e hk => ?_, fun i hi ha => ?_, fun i a hi hgi ha => ?_⟩
  · rcases hW k e hk with h1 | ⟨⟨off, wr, rfl⟩, hd⟩
    · exact .inl h1
    · exact .inr ⟨⟨_, _, rfl⟩, by rw [h.deaf1]; exact hd⟩
  · obtain ⟨op, ho, hoa⟩ := Option.map_eq_some_iff.1 ha
    rcases getElem?_append_cases ho with ⟨hlt, ho'⟩ | ⟨_, hou⟩
    · exact h2 i hi (by rw [act?_of ho', hoa])
    · obtain ⟨e, he, rfl⟩ := Go.Conc.mem_ofEvents hou
      exact hr e he (ConcR.loc_of_ofEvent hoa)
  · obtain ⟨op, ho, hoa⟩ := touch_of ha
    rcases getElem?_append_cases ho with ⟨hlt, ho'⟩ | ⟨_, hou⟩
    · exact h3 i a hi (by rw [← hgi, g?_old hlt]) (by rw [touchAt_of ho']; exact hoa)
    · obtain ⟨e, he, rfl⟩ := Go.Conc.mem_ofEvents hou
      exact (hm e he a hoa).1

/-- The worker says its release. -/
theorem PhT.release (h : PhT Shun Wg j B d0 0 none t) (hj : j ≠ 0) (hSW : ∀ l, Shun l → ¬ OfWg Wg l) (hWB : Wg < B) {fn : FuncId} {pos : String} :
    PhT Shun Wg j B d0 0 (some t.size) (t ++ MemOp.ofEvents j fn pos #[mkE (.releaseMerge (stA Wg))]) := by
  have e1 : MemOp.ofEvents j fn pos #[mkE (.releaseMerge (stA Wg))] = #[{ g := j, fn, pos, act := .mark (.releaseMerge (stA Wg)) }] := by rw [ofEvents_eq]; simp [mkE, MemAct.ofEvent]
  have hlate : ∀ i op, t.size < i → (t ++ MemOp.ofEvents j fn pos #[mkE (.releaseMerge (stA Wg))])[i]? = some op → False := fun i op hi ho => by
    have := lt_size_of_getElem? ho
    rw [e1] at this
    simp at this; omega
  have e2 : deafBehind 0 #[mkE (.releaseMerge (stA Wg))] = 0 := rfl
  rw [← e2]
  refine (h.worker hj (Nat.le_refl _) hSW (rel' := some t.size) (fun e he x hx => ?_) (fun e he => ?_) fun r hr => ?_)
  · simp at he; subst he; simp [mkE, MemAct.ofEvent, MemAct.touch?] at hx
  · simp at he; subst he; exact hWB
  · cases hr
    refine ⟨ConcN.RelBy.new h.deaf1 fn pos, fun i hi ha => ?_, fun i a hi _ ha => ?_⟩
    · obtain ⟨op, ho, _⟩ := Option.map_eq_some_iff.1 ha
      exact hlate i op hi ho
    · obtain ⟨op, ho, _⟩ := touch_of ha
      exact (hlate i op hi ho).elim

/-- The fork. -/
theorem PhT.fork (h : PastD Shun B 0 t) (hj : j ≠ 0) (hdj : Deaf t j = 0) (hSW : ∀ l, Shun l → ¬ OfWg Wg l) (fn fn' : FuncId) (pos pos' : String) :
    PhT Shun Wg j B 0 0 none ((t.push { g := 0, fn, pos, act := .go j }).push { g := j, fn := fn', pos := pos', act := .start }) := by
  have e : (t.push { g := 0, fn, pos, act := .go j }).push { g := j, fn := fn', pos := pos', act := .start } = t ++ #[{ g := 0, fn, pos, act := .go j }, { g := j, fn := fn', pos := pos', act := .start }] := by
    apply Array.toList_inj.1; simp
  rw [e]
  have hx0 : (t ++ #[({ g := 0, fn, pos, act := .go j } : MemOp), { g := j, fn := fn', pos := pos', act := .start }])[t.size]? = some { g := 0, fn, pos, act := .go j } := by simp
  have hx1 : (t ++ #[({ g := 0, fn, pos, act := .go j } : MemOp), { g := j, fn := fn', pos := pos', act := .start }])[t.size + 1]? = some { g := j, fn := fn', pos := pos', act := .start } := by simp [Array.getElem?_append]
  have hd0 : Deaf (t ++ #[({ g := 0, fn, pos, act := .go j } : MemOp), { g := j, fn := fn', pos := pos', act := .start }]) 0 = 0 := by
    have := Deaf_append t 0 [({ g := 0, fn, pos, act := .go j } : MemOp), { g := j, fn := fn', pos := pos', act := .start }]
    simp only [List.foldl_cons, List.foldl_nil, deafStep] at this
    rw [h.hears] at this; exact this
  have hd1 : Deaf (t ++ #[({ g := 0, fn, pos, act := .go j } : MemOp), { g := j, fn := fn', pos := pos', act := .start }]) j = 0 := by
    have := Deaf_append t j [({ g := 0, fn, pos, act := .go j } : MemOp), { g := j, fn := fn', pos := pos', act := .start }]
    simp only [List.foldl_cons, List.foldl_nil, deafStep] at this
    rw [hdj] at this; exact this
  have hn : ∀ op ∈ (#[({ g := 0, fn, pos, act := .go j } : MemOp), { g := j, fn := fn', pos := pos', act := .start }] : Trace), op.act.touch? = none := fun op hop => by
    simp at hop; rcases hop with rfl | rfl <;> rfl
  have old : ∀ {i a}, touchAt (t ++ #[({ g := 0, fn, pos, act := .go j } : MemOp), { g := j, fn := fn', pos := pos', act := .start }]) i = some a → i < t.size ∧ touchAt t i = some a := fun {i a} ha => by
    obtain ⟨x, hxo, hxa⟩ := touch_of ha
    rcases getElem?_append_cases hxo with ⟨hlt, hx'⟩ | ⟨_, hxu⟩
    · exact ⟨hlt, by rw [touchAt_of hx']; exact hxa⟩
    · rw [hn x hxu] at hxa; cases hxa
  -- no race: nothing is touched
  have hclean : ∀ said, ¬ Race said (t ++ #[({ g := 0, fn, pos, act := .go j } : MemOp), { g := j, fn := fn', pos := pos', act := .start }]) := by
    intro said
    rintro ⟨i, k, hik, ⟨a, b, ha, hb, hc⟩, n1, n2⟩
    obtain ⟨hi, ha'⟩ := old ha
    obtain ⟨hk, hb'⟩ := old hb
    exact h.clean said ⟨i, k, hik, ⟨a, b, ha', hb', hc⟩, fun x => n1 (hb_app _ x), fun x => n2 (hb_app _ x)⟩
  have heard0 : (t ++ #[({ g := 0, fn, pos, act := .go j } : MemOp), { g := j, fn := fn', pos := pos', act := .start }]).heard t.size := ⟨0, by rw [g?_of hx0], by rw [deaf_old (Nat.le_refl _)]; exact h.hears⟩
  have heard1 : (t ++ #[({ g := 0, fn, pos, act := .go j } : MemOp), { g := j, fn := fn', pos := pos', act := .start }]).heard (t.size + 1) := by
    refine ⟨j, by rw [g?_of hx1], ?_⟩
    rw [deaf_succ hx0]
    simp only [deafStep]
    rw [deaf_old (Nat.le_refl _)]
    exact hdj
  have edge : HappensBefore (t ++ #[({ g := 0, fn, pos, act := .go j } : MemOp), { g := j, fn := fn', pos := pos', act := .start }]) t.size (t.size + 1) :=
    .single (.inr ⟨.spawn (child := j) (by rw [act?_of hx0]) (by rw [act?_of hx1]) (by rw [g?_of hx1]), heard0, heard1⟩)
  refine ⟨hclean, fun i a ha hm => ?_, fun i a ha hm => ?_, fun i a ha hg ho => ?_, over_app (fun i g hg h0 _ hc => h.over i g hg h0 hc) fun op hop => .inr (.inr (hn op hop)), fun op hop => ?_, hd0, hd1, fun r hr => by cases hr⟩
  · obtain ⟨hlt, ha'⟩ := old ha
    rcases h.known i a ha' hm with h1 | h1
    · exact .inl (h1.app _)
    · exact .inr (.inl h1)
  · obtain ⟨hlt, ha'⟩ := old ha
    rcases h.known i a ha' hm with h1 | h1
    · left
      refine ⟨t.size + 1, _, hx1, rfl, ?_⟩
      have hk := h1.hb_new (Nat.le_refl _) hx0 rfl
      exact .inr (hk.trans edge)
    · exact .inr (.inl h1)
  · obtain ⟨hlt, ha'⟩ := old ha
    have hm : a.loc.isMemory = true := by obtain ⟨p, hp, _⟩ := ho; rw [hp]; rfl
    rcases h.known i a ha' hm with h1 | h1
    · exact .inr (h1.app _)
    · exact absurd ho (hSW _ h1.1)
  · rcases Array.mem_append.1 hop with hop | hop
    · exact h.seen op hop
    · simp at hop; rcases hop with rfl | rfl <;> trivial

/-- The joiner's acquire: all is handed over. -/
theorem PhT.acquire (h : PhT Shun Wg j B 0 d1 rel t) {r : Nat} (hrel : rel = some r) (hj : j ≠ 0) (hWB : Wg < B) {fn : FuncId} {pos : String} :
    PastD (fun l => Shun l ∨ OfWg Wg l) B 0 (t ++ MemOp.ofEvents 0 fn pos #[mkE (.acquire (stA Wg))]) := by
  obtain ⟨hr, hno, hlate⟩ := h.rel r hrel
  have e1 : MemOp.ofEvents 0 fn pos #[mkE (.acquire (stA Wg))] = #[{ g := 0, fn, pos, act := .mark (.acquire (stA Wg)) }] := by rw [ofEvents_eq]; simp [mkE, MemAct.ofEvent]
  have hd0 : Deaf (t ++ MemOp.ofEvents 0 fn pos #[mkE (.acquire (stA Wg))]) 0 = 0 := by rw [Deaf_own, h.deaf0]; rfl
  rw [e1] at hd0 ⊢
  have hq : (t ++ #[({ g := 0, fn, pos, act := .mark (.acquire (stA Wg)) } : MemOp)])[t.size]? = some { g := 0, fn, pos, act := .mark (.acquire (stA Wg)) } := by simp
  have hu : ∀ op ∈ (#[({ g := 0, fn, pos, act := .mark (.acquire (stA Wg)) } : MemOp)] : Trace), op.g = 0 := fun op hop => by simp at hop; subst hop; rfl
  have hn : ∀ op ∈ (#[({ g := 0, fn, pos, act := .mark (.acquire (stA Wg)) } : MemOp)] : Trace), op.act.touch? = none := fun op hop => by simp at hop; subst hop; rfl
  have hrl : r < t.size := lt_of_act? hr.act
  have hq' : (t ++ #[({ g := 0, fn, pos, act := .mark (.acquire (stA Wg)) } : MemOp)]).heard t.size := ⟨0, by rw [g?_of hq], by rw [deaf_old (Nat.le_refl _)]; exact h.deaf0⟩
  have edge : HappensBefore (t ++ #[({ g := 0, fn, pos, act := .mark (.acquire (stA Wg)) } : MemOp)]) r t.size :=
    .single (.inr ⟨.marked hrl (.inr (by rw [act?_old hrl]; exact hr.act)) (by rw [act?_of hq]) (fun k h1 h2 => by rw [act?_old h2]; exact hno k h1), (heard_old hrl).2 hr.heard, hq'⟩)
  have upto : ∀ i, t.g? i = some j → i ≤ r → HappensBefore (t ++ #[({ g := 0, fn, pos, act := .mark (.acquire (stA Wg)) } : MemOp)]) i t.size := fun i hgi hle => by
    rcases Nat.lt_or_ge i r with hlt | hge
    · have := g?_lt hgi
      exact .trans (.single (.inl ⟨hlt, j, by rw [g?_old this]; exact hgi, by rw [g?_old hrl]; exact hr.g⟩)) edge
    · obtain rfl : i = r := by omega
      exact edge
  have old : ∀ {i a}, touchAt (t ++ #[({ g := 0, fn, pos, act := .mark (.acquire (stA Wg)) } : MemOp)]) i = some a → i < t.size ∧ touchAt t i = some a := fun {i a} ha => by
    obtain ⟨x, hxo, hxa⟩ := touch_of ha
    rcases getElem?_append_cases hxo with ⟨hlt, hx'⟩ | ⟨_, hxu⟩
    · exact ⟨hlt, by rw [touchAt_of hx']; exact hxa⟩
    · rw [hn x hxu] at hxa; cases hxa
  refine ⟨fun said => noRace_append (h.clean said) hu fun i a _ op hop b hb _ => (by rw [hn op hop] at hb; cases hb), fun i a ha hm => ?_, fun i g hg h0 hc => ?_, hd0, fun op hop => ?_⟩
  · obtain ⟨hlt, ha'⟩ := old ha
    rcases h.k0 i a ha' hm with h1 | ⟨h1, h2⟩ | hg
    · exact .inl (h1.app _)
    · exact .inr ⟨.inl h1, h2⟩
    · rcases Nat.lt_or_ge r i with hlt | hle
      · have hnc := hr.after i hlt hg
        have hk : a.kind = .atomic := by
          by_cases hk : a.kind = .atomic
          · exact hk
          · exact absurd ⟨a, ha', hm, .inl hk⟩ hnc
        exact .inr ⟨.inr (hlate i a hlt hg ha'), hk⟩
      · exact .inl ⟨t.size, _, hq, rfl, .inr (upto i hg hle)⟩
  · obtain ⟨x, hx, hmem, hcn⟩ := hc
    obtain ⟨hlt, hx'⟩ := old hx
    have hg' : t.g? i = some g := by rw [← hg, g?_old hlt]
    have hc' : t.counts i := (counts_old hlt).1 ⟨x, hx, hmem, hcn⟩
    by_cases hgj : g = j
    · subst hgj
      rcases Nat.lt_or_ge r i with hl | hle
      · exact absurd hc' (hr.after i hl hg')
      · exact ⟨t.size, by rw [g?_of hq], upto i hg' hle⟩
    · obtain ⟨k, hk, hb⟩ := h.over i g hg' h0 hgj hc'
      exact ⟨k, by rw [g?_old (g?_lt hk)]; exact hk, hb_app _ hb⟩
  · rcases Array.mem_append.1 hop with hop | hop
    · exact h.low op hop
    · simp at hop; subst hop; exact hWB
end
end Go.Ev
/- Between a fork and a join: the joiner's steps. -/
namespace Go.Ev
open Go.Conc
open Go.ConcX (WgAt wgBlock stA smA KK OfWg)
open Go.ConcN (sumTo sumTo_upd upd_same)

/-- What the joiner lists, but for its acquire. -/
def JEv (Wg : Nat) (e : Event) : Prop := MEv Wg e ∨ ∃ a wr, e = ⟨.cell a, wr, true⟩ ∧ a.block = Wg

section
variable {Wg : Nat} {e : Event}
theorem jev_rd : JEv Wg (rdA (stA Wg)) := .inr ⟨_, _, rfl, rfl⟩
theorem jev_wr : JEv Wg (wrA (stA Wg)) := .inr ⟨_, _, rfl, rfl⟩
theorem jev_sem : ∀ e ∈ semEvents (smA Wg), JEv Wg e := fun e he => by
  simp [semEvents] at he
  rcases he with rfl | rfl | rfl | rfl
  · exact .inl (.inr (.inl rfl))
  · exact .inr ⟨_, _, rfl, rfl⟩
  · exact .inr ⟨_, _, rfl, rfl⟩
  · exact .inl (.inr (.inr (.inl rfl)))
theorem jev_touch (h : JEv Wg e) {x : Touch} (hx : (MemAct.ofEvent e).touch? = some x) : OfWg Wg x.loc ∧ x.kind ≠ .plain := by
  rcases h with (h | rfl | rfl | rfl) | ⟨a, wr, rfl, ha⟩
  · obtain ⟨loc, wr, sy⟩ := e
    simp only at h
    subst h
    simp [MemAct.ofEvent, MemAct.touch?] at hx
  · simp [mkE, MemAct.ofEvent, MemAct.touch?] at hx
  · simp [mkE, MemAct.ofEvent, MemAct.touch?] at hx
  · simp [mkE, MemAct.ofEvent, MemAct.touch?] at hx
    subst hx
    exact ⟨⟨_, rfl, rfl⟩, by simp⟩
  · simp [MemAct.ofEvent, MemAct.touch?] at hx
    subst hx
    exact ⟨⟨_, rfl, ha⟩, by simp⟩
theorem jev_low (h : JEv Wg e) {B : Nat} (hB : Wg < B) : (MemAct.ofEvent e).low B := by
  rcases h with (h | rfl | rfl | rfl) | ⟨a, wr, rfl, ha⟩
  · obtain ⟨loc, wr, sy⟩ := e
    simp only at h
    subst h
    trivial
  · trivial
  · trivial
  · exact hB
  · show a.block < B
    omega
theorem jev_norel (h : JEv Wg e) : e.loc ≠ .mark (.release (stA Wg)) := by
  rcases h with (h | rfl | rfl | rfl) | ⟨a, wr, rfl, ha⟩
  · rw [h]; simp
  · simp [mkE]
  · simp [mkE]
  · simp [mkE]
  · simp
end

/-- The world, but for the group's block. -/
structure JRel (Wg : Nat) (w w' : World) : Prop where
  size : w'.heap.size = w.heap.size
  block : ∀ b, b ≠ Wg → w'.heap[b]? = w.heap[b]?
  os : w'.os = w.os
  tape : w'.tape = w.tape
  output : w'.output = w.output
theorem JRel.refl {Wg : Nat} (w : World) : JRel Wg w w := ⟨rfl, fun _ _ => rfl, rfl, rfl, rfl⟩
theorem JRel.trans {Wg : Nat} {a b c : World} (h : JRel Wg a b) (h' : JRel Wg b c) : JRel Wg a c :=
  ⟨h'.size.trans h.size, fun x hx => (h'.block x hx).trans (h.block x hx), h'.os.trans h.os, h'.tape.trans h.tape, h'.output.trans h.output⟩
theorem JRel.at_ {Wg : Nat} (w : World) (d : Nat) : JRel Wg w (w.at d) := ⟨rfl, fun _ _ => rfl, rfl, rfl, rfl⟩
theorem JRel.setCell {Wg : Nat} (w : World) (a : Addr) (v : Value) (ha : a.block = Wg) : JRel Wg w (w.setCell a v) := by
  have h := aside_setCell w a v
  exact ⟨h.size, fun b hb => h.block b (by rw [ha]; exact hb), h.os, h.tape, h.output⟩

section
variable (P : Program) (ty : TypeId) (Wg : Nat) (Fin : Goroutine → Prop)

/-- The joiner while the worker works: is it registered; how deaf; how far (two measures). -/
inductive JQ : Bool → Nat → Nat → Nat → Goroutine → Prop
  | ld {d n : Nat} {a : Goroutine} : MW P ty Wg (fun d g => d = 1 ∧ AtLd P ty Wg Fin g) n d a → JQ false d 3 n a
  | cas {d n : Nat} {a : Goroutine} : MW P ty Wg (fun d g => d = 1 ∧ AtCas P ty Wg Fin g) n d a → JQ false d 2 n a
  | sem {d n : Nat} {a : Goroutine} : MW P ty Wg (fun d g => d = 1 ∧ AtSem P ty Wg Fin g) n d a → JQ true d 1 n a
  | blk {g : Goroutine} : AtSem P ty Wg Fin g → JQ true 1 0 0 { g with status := .blocked }

/-- The joiner once the worker is done. -/
inductive JB : Int → Nat → Nat → Nat → Goroutine → Prop
  | ld {d n : Nat} {a : Goroutine} : MW P ty Wg (fun d g => d = 1 ∧ AtLd P ty Wg Fin g) n d a → JB 0 d 5 n a
  | cas {d n : Nat} {a : Goroutine} : MW P ty Wg (fun d g => d = 1 ∧ AtCas P ty Wg Fin g) n d a → JB 0 d 4 n a
  | sem {d n : Nat} {a : Goroutine} : MW P ty Wg (fun d g => d = 1 ∧ AtSem P ty Wg Fin g) n d a → JB 1 d 3 n a
  | ld0 {d n : Nat} {a : Goroutine} : MW P ty Wg (fun d g => d = 1 ∧ AtLd0 P ty Wg Fin g) n d a → JB 0 d 2 n a
  | acq {d n : Nat} {a : Goroutine} : MW P ty Wg (fun d g => d = 0 ∧ AtAcq P Wg Fin g) n d a → JB 0 d 1 n a
end

section
variable {P : Program} {ty : TypeId} {Wg : Nat} {Fin : Goroutine → Prop}

theorem mw_cases {Stop : Nat → Goroutine → Prop} {n d : Nat} {a : Goroutine} (h : MW P ty Wg Stop n d a) :
    Stop d a ∨ ∃ m, n = m + 1 ∧ a.status = .running ∧ ∀ w, WgLive ty Wg w → ∃ g' es, stepG P true a w = .go g' w es ∧ (∀ e ∈ es, MEv Wg e) ∧ MW P ty Wg Stop m (deafBehind d es) g' := by
  cases n with
  | zero => exact .inl h
  | succ n => exact h.imp id fun x => ⟨n, rfl, x.1, x.2⟩
theorem mw_running {Stop : Nat → Goroutine → Prop} (hS : ∀ d g, Stop d g → g.status = .running) {n d : Nat} {a : Goroutine} (h : MW P ty Wg Stop n d a) : a.status = .running := by
  rcases mw_cases h with h | ⟨_, _, h, _⟩
  · exact hS _ _ h
  · exact h

theorem JQ.status {reg : Bool} {d r n : Nat} {a : Goroutine} (h : JQ P ty Wg Fin reg d r n a) : a.status = .running ∨ (a.status = .blocked ∧ reg = true) := by
  cases h with
  | ld h => exact .inl (mw_running (fun _ _ x => x.2.1) h)
  | cas h => exact .inl (mw_running (fun _ _ x => x.2.1) h)
  | sem h => exact .inl (mw_running (fun _ _ x => x.2.1) h)
  | blk h => exact .inr ⟨rfl, rfl⟩

/-- It may be let try again. -/
theorem JQ.awoken {reg : Bool} {d r n : Nat} {a b b' : Goroutine} {w : World} (h : JQ P ty Wg Fin reg d r n a) : ∃ r' n', JQ P ty Wg Fin reg d r' n' (Go.Conc.woken P b b' w a) := by
  rcases h.status with hr | ⟨hb, _⟩
  · exact ⟨r, n, by rw [woken_run hr]; exact h⟩
  · cases h with
    | ld h => rw [mw_running (fun _ _ x => x.2.1) h] at hb; cases hb
    | cas h => rw [mw_running (fun _ _ x => x.2.1) h] at hb; cases hb
    | sem h => rw [mw_running (fun _ _ x => x.2.1) h] at hb; cases hb
    | blk h =>
      unfold Go.Conc.woken
      split
      · exact ⟨1, 0, by rw [Go.ConcX.again_blocked h.1 h.2.1]; exact .sem (n := 0) (show _ ∧ _ from ⟨rfl, h⟩)⟩
      · exact ⟨0, 0, .blk h⟩

/-- It is woken for good. -/
theorem JQ.up {d r n : Nat} {a b b' : Goroutine} {w : World} (h : JQ P ty Wg Fin true d r n a) (hm : mayWake P b = true) (hb : b'.status = .running) : ∃ n', JB P ty Wg Fin 1 d 3 n' (Go.Conc.woken P b b' w a) := by
  have e : Go.Conc.woken P b b' w a = a.again w := by unfold Go.Conc.woken; rw [hm, hb]; rfl
  rw [e]
  cases h with
  | sem h => exact ⟨n, by rw [again_running _ (.inl (mw_running (fun _ _ x => x.2.1) h))]; exact .sem h⟩
  | blk h => exact ⟨0, by rw [Go.ConcX.again_blocked h.1 h.2.1]; exact .sem (n := 0) (show _ ∧ _ from ⟨rfl, h⟩)⟩
theorem JQ.toB {d r n : Nat} {a : Goroutine} (h : JQ P ty Wg Fin false d r n a) : ∃ r', JB P ty Wg Fin 0 d r' n a := by
  cases h with
  | ld h => exact ⟨_, .ld h⟩
  | cas h => exact ⟨_, .cas h⟩

/-- A step of the joiner's while the worker works. -/
theorem JQ.step {reg : Bool} {d r n : Nat} {a : Goroutine} (h : JQ P ty Wg Fin reg d r n a) (hr : a.status = .running) {w : World} {st : Int} (hw : WgAt ty Wg w st 0) (hst : reg = false → st = KK) :
    ∃ a' w' es, stepG P true a w = .go a' w' es ∧ (∀ e ∈ es, JEv Wg e) ∧ JRel Wg w w' ∧ ∃ reg' st' r' n', WgAt ty Wg w' st' 0 ∧ ((reg' = reg ∧ st' = st) ∨ (reg = false ∧ reg' = true ∧ st' = KK + 1)) ∧ JQ P ty Wg Fin reg' (deafBehind d es) r' n' a' ∧ (r' < r ∨ (r' = r ∧ n' < n)) := by
  cases h with
  | ld h =>
    obtain rfl := hst rfl
    rcases mw_cases h with ⟨rfl, h1, h2, _⟩ | ⟨m, rfl, _, h2⟩
    · obtain ⟨g', h3, n', h4⟩ := h2 w hw
      exact ⟨g', w, _, h3, fun e he => by simp at he; subst he; exact jev_rd, .refl w, false, KK, 2, n', hw, .inl ⟨rfl, rfl⟩, .cas h4, .inl (by omega)⟩
    · obtain ⟨g', es, h3, h4, h5⟩ := h2 w ⟨_, _, hw⟩
      exact ⟨g', w, es, h3, fun e he => .inl (h4 e he), .refl w, false, KK, 3, m, hw, .inl ⟨rfl, rfl⟩, .ld h5, .inr ⟨rfl, by omega⟩⟩
  | cas h =>
    obtain rfl := hst rfl
    rcases mw_cases h with ⟨rfl, h1, h2, _⟩ | ⟨m, rfl, _, h2⟩
    · obtain ⟨g', h3, n', h4⟩ := h2 w hw
      exact ⟨g', _, _, h3, fun e he => by simp at he; exact he.elim (fun x => x ▸ jev_rd) (fun x => x ▸ jev_wr), .setCell w _ _ rfl, true, KK + 1, 1, n', hw.setSt _, .inr ⟨rfl, rfl, rfl⟩, .sem h4, .inl (by omega)⟩
    · obtain ⟨g', es, h3, h4, h5⟩ := h2 w ⟨_, _, hw⟩
      exact ⟨g', w, es, h3, fun e he => .inl (h4 e he), .refl w, false, KK, 2, m, hw, .inl ⟨rfl, rfl⟩, .cas h5, .inr ⟨rfl, by omega⟩⟩
  | sem h =>
    rcases mw_cases h with ⟨rfl, h1⟩ | ⟨m, rfl, _, h2⟩
    · exact ⟨_, w, _, h1.2.2.1 w st hw, fun e he => by simp at he, .refl w, true, st, 0, 0, hw, .inl ⟨rfl, rfl⟩, .blk h1, .inl (by omega)⟩
    · obtain ⟨g', es, h3, h4, h5⟩ := h2 w ⟨_, _, hw⟩
      exact ⟨g', w, es, h3, fun e he => .inl (h4 e he), .refl w, true, st, 1, m, hw, .inl ⟨rfl, rfl⟩, .sem h5, .inr ⟨rfl, by omega⟩⟩
  | blk h => cases hr

theorem JB.running {sm : Int} {d r n : Nat} {a : Goroutine} (h : JB P ty Wg Fin sm d r n a) : a.status = .running := by
  cases h with
  | ld h => exact mw_running (fun _ _ x => x.2.1) h
  | cas h => exact mw_running (fun _ _ x => x.2.1) h
  | sem h => exact mw_running (fun _ _ x => x.2.1) h
  | ld0 h => exact mw_running (fun _ _ x => x.2.1) h
  | acq h => exact mw_running (fun _ _ x => x.2.1) h

/-- A step of the joiner's once the worker is done. -/
theorem JB.step {sm : Int} {d r n : Nat} {a : Goroutine} (h : JB P ty Wg Fin sm d r n a) {w : World} (hw : WgAt ty Wg w 0 sm) :
    (d = 0 ∧ ∃ a', stepG P true a w = .go a' w #[mkE (.acquire (stA Wg))] ∧ Fin a' ∧ sm = 0) ∨
    ∃ a' w' es, stepG P true a w = .go a' w' es ∧ (∀ e ∈ es, JEv Wg e) ∧ JRel Wg w w' ∧ ∃ sm' r' n', WgAt ty Wg w' 0 sm' ∧ JB P ty Wg Fin sm' (deafBehind d es) r' n' a' ∧ (r' < r ∨ (r' = r ∧ n' < n)) := by
  have idle : ∀ {Stop : Nat → Goroutine → Prop} {m : Nat} {a : Goroutine} (sm : Int) (r : Nat), WgAt ty Wg w 0 sm → (∀ w, WgLive ty Wg w → ∃ g' es, stepG P true a w = .go g' w es ∧ (∀ e ∈ es, MEv Wg e) ∧ MW P ty Wg Stop m (deafBehind d es) g') →
      (∀ {d n a}, MW P ty Wg Stop n d a → JB P ty Wg Fin sm d r n a) →
      ∃ a' w' es, stepG P true a w = .go a' w' es ∧ (∀ e ∈ es, JEv Wg e) ∧ JRel Wg w w' ∧ ∃ sm' r' n', WgAt ty Wg w' 0 sm' ∧ JB P ty Wg Fin sm' (deafBehind d es) r' n' a' ∧ (r' < r ∨ (r' = r ∧ n' < m + 1)) := by
    intro Stop m a sm r hw h2 hc
    obtain ⟨g', es, h3, h4, h5⟩ := h2 w ⟨_, _, hw⟩
    exact ⟨g', w, es, h3, fun e he => .inl (h4 e he), .refl w, sm, r, m, hw, hc h5, .inr ⟨rfl, by omega⟩⟩
  cases h with
  | ld h =>
    right
    rcases mw_cases h with ⟨rfl, h1, _, h2⟩ | ⟨m, rfl, _, h2⟩
    · obtain ⟨g', h3, n', h4⟩ := h2 w hw
      exact ⟨g', w, _, h3, fun e he => by simp at he; subst he; exact jev_rd, .refl w, 0, 1, n', hw, .acq h4, .inl (by omega)⟩
    · exact idle 0 5 hw h2 .ld
  | cas h =>
    right
    rcases mw_cases h with ⟨rfl, h1, _, h2⟩ | ⟨m, rfl, _, h2⟩
    · obtain ⟨g', h3, n', h4⟩ := h2 w hw
      exact ⟨g', w, _, h3, fun e he => by simp at he; subst he; exact jev_rd, .refl w, 0, 2, n', hw, .ld0 h4, .inl (by omega)⟩
    · exact idle 0 4 hw h2 .cas
  | sem h =>
    right
    rcases mw_cases h with ⟨rfl, h1⟩ | ⟨m, rfl, _, h2⟩
    · obtain ⟨g', h3, n', h4⟩ := h1.2.2.2 w hw
      have e : deafBehind 1 (semEvents (smA Wg)) = 1 := rfl
      exact ⟨g', _, _, h3, jev_sem, .setCell w _ _ rfl, 0, 2, n', hw.setSm _, .ld0 (by rw [e]; exact h4), .inl (by omega)⟩
    · exact idle 1 3 hw h2 .sem
  | ld0 h =>
    right
    rcases mw_cases h with ⟨rfl, h1, h2⟩ | ⟨m, rfl, _, h2⟩
    · obtain ⟨g', h3, n', h4⟩ := h2 w 0 hw
      exact ⟨g', w, _, h3, fun e he => by simp at he; subst he; exact jev_rd, .refl w, 0, 1, n', hw, .acq h4, .inl (by omega)⟩
    · exact idle 0 2 hw h2 .ld0
  | acq h =>
    rcases mw_cases h with ⟨rfl, h1, h2⟩ | ⟨m, rfl, _, h2⟩
    · obtain ⟨g', h3, h4⟩ := h2 w
      exact .inl ⟨rfl, g', h3, h4, rfl⟩
    · exact .inr (idle 0 1 hw h2 .acq)
end
end Go.Ev
/- Between a fork and a join: the worker is done; the joiner comes to its acquire. -/
namespace Go.Ev
open Go.Conc
open Go.ConcX (WgAt wgBlock stA smA KK OfWg)
open Go.ConcN (sumTo sumTo_upd upd_same)

theorem wg_lt {ty : TypeId} {Wg : Nat} {w : World} {st sm : Int} (h : WgAt ty Wg w st sm) : Wg < w.heap.size := (Array.getElem?_eq_some_iff.1 h).1
theorem mute_norel {e : Event} (h : e.mute = true) (a : Addr) : e.loc ≠ .mark (.release a) := by
  obtain ⟨loc, wr, sy⟩ := e
  intro hl
  simp only at hl
  subst hl
  cases h

section
variable {P : Program} {ty : TypeId} {Wg j : Nat} {Fin : Goroutine → Prop} {Shun : Loc → Prop}

/-- The joiner has acquired. -/
def Joined (P : Program) (ty : TypeId) (Wg : Nat) (Fin : Goroutine → Prop) (Shun : Loc → Prop) (N : Nat) (w0 : World) : Array Goroutine → World → Option (Nat × Nat) → Trace → Prop := fun gs w _ t =>
  ∃ a q, gs.size = N ∧ gs[0]? = some a ∧ Fin a ∧ Leavers P t gs q ∧ PastD (fun l => Shun l ∨ OfWg Wg l) w.heap.size 0 t ∧ JRel Wg w0 w ∧ WgAt ty Wg w 0 0

theorem join_past (hj : j ≠ 0) (hSW : ∀ l, Shun l → ¬ OfWg Wg l) (rr N0 : Nat) (w0 : World) : ∀ (r N n : Nat) (gs : Array Goroutine) (w : World) (sl : Option (Nat × Nat)) (t : Trace) (q : Nat → Nat) (a : Goroutine) (d0 d1 : Nat) (sm : Int),
    n + sumTo gs.size q ≤ N → gs.size = N0 → JRel Wg w0 w → JB P ty Wg Fin sm d0 r n a → gs[0]? = some a → Leavers P t gs q → WgAt ty Wg w 0 sm → PhT Shun Wg j w.heap.size d0 d1 (some rr) t →
    Reaches P gs w sl t (Joined P ty Wg Fin Shun N0 w0) := by
  intro r
  induction r using Nat.strongRecOn with
  | ind r ihr =>
    intro N
    induction N using Nat.strongRecOn with
    | ind N ihN =>
      intro n gs w sl t q a d0 d1 sm hN hsz0 hR hJ h0 hL hw hP
      obtain ⟨i, g, dr, sl', hi, hg, hpk⟩ := crowd_pick (P := P) (w := w) (sl := sl) (solo_awake hL h0 hJ.running) ⟨0, a, h0, hJ.running⟩
      have hw' : WgAt ty Wg (w.at dr) 0 sm := hw
      have hR' : JRel Wg w0 (w.at dr) := hR.trans (.at_ w dr)
      replace hP : PhT Shun Wg j (w.at dr).heap.size d0 d1 (some rr) t := hP
      have hlt : 0 < gs.size := (Array.getElem?_eq_some_iff.1 h0).1
      rcases Nat.eq_zero_or_pos i with rfl | hpos
      · obtain rfl : g = a := by rw [h0] at hi; exact (Option.some.inj hi).symm
        rcases hJ.step hw' with ⟨rfl, a', h1, h2, rfl⟩ | ⟨a', w', es, h1, h2, h3, sm', r', n', h4, h5, h6⟩
        · have hrunT := runT_crowd_go (P := P) (sl := sl') (i := 0) hi (show stepG P (0 == 0) g (w.at dr) = _ from h1)
          exact Reaches.step (by rw [hpk]; exact hrunT) (.here ⟨a', q, by simpa using hsz0, by simp [hlt], h2, leavers_own hL h0, hP.acquire rfl hj (wg_lt hw'), hR', hw'⟩)
        · have hrunT := runT_crowd_go (P := P) (sl := sl') (i := 0) hi (show stepG P (0 == 0) g (w.at dr) = _ from h1)
          have hsz : ((gs.map (woken P g a' w')).setIfInBounds 0 a').size = gs.size := by simp
          have hP' := hP.main (fn := g.frame.fn) (pos := g.frame.place) (B' := w'.heap.size) hj (by rw [h3.size]; exact Nat.le_refl _) hSW (fun e he x hx => jev_touch (h2 e he) hx) (fun e he => jev_norel (h2 e he)) (fun e he => jev_low (h2 e he) (wg_lt h4))
          refine Reaches.step (by rw [hpk]; exact hrunT) ?_
          rcases h6 with h6 | ⟨rfl, h6⟩
          · exact ihr r' h6 _ n' _ w' sl' _ q a' _ d1 sm' (Nat.le_refl _) (hsz.trans hsz0) (hR'.trans h3) h5 (by simp [hlt]) (leavers_own hL h0) h4 hP'
          · exact ihN (n' + sumTo gs.size q) (by omega) n' _ w' sl' _ q a' _ d1 sm' (by rw [hsz]; exact Nat.le_refl _) (hsz.trans hsz0) (hR'.trans h3) h5 (by simp [hlt]) (leavers_own hL h0) h4 hP'
      · obtain ⟨k, g1, es1, hqi, hrunT, hm, hsz, h0', hL', hlt'⟩ := leaver_step (w := w) (sl' := sl') (d := dr) hL h0 hJ.running hpos hi hg
        refine Reaches.step (by rw [hpk]; exact hrunT) ?_
        by_cases hij : i = j
        · subst hij
          have hP' := hP.tail (fn := g.frame.fn) (pos := g.frame.place) hj hSW (wg_lt hw') (fun k e he => .inl (touch_mute (hm e (Array.mem_of_getElem? he)))) (fun e he => mute_norel (hm e he) _) (fun e he => low_mute (hm e he) _)
          exact ihN (n + sumTo gs.size (ConcN.upd q i k)) (by omega) n _ (w.at dr) sl' _ (ConcN.upd q i k) a _ _ sm (by rw [hsz]; exact Nat.le_refl _) (hsz.trans hsz0) hR' hJ h0' hL' hw' hP'
        · have hP' := hP.leaver (g := i) (fn := g.frame.fn) (pos := g.frame.place) (by omega) hij hm
          exact ihN (n + sumTo gs.size (ConcN.upd q i k)) (by omega) n _ (w.at dr) sl' _ (ConcN.upd q i k) a _ _ sm (by rw [hsz]; exact Nat.le_refl _) (hsz.trans hsz0) hR' hJ h0' hL' hw' hP'
end
end Go.Ev
/- Between a fork and a join: while the worker works. -/
namespace Go.Ev
open Go.Conc
open Go.ConcX (WgAt wgBlock stA smA KK OfWg)
open Go.ConcN (sumTo sumTo_upd upd_same)

/-- The others: they leave. -/
structure LvBut (P : Program) (j : Nat) (t : Trace) (gs : Array Goroutine) (q : Nat → Nat) : Prop where
  old : ∀ i g, 0 < i → i ≠ j → gs[i]? = some g → QuitsD P (q i) (Deaf t i) g
  above : ∀ i, gs.size ≤ i → Deaf t i = 0

structure PA (P : Program) (ty : TypeId) (Wg j : Nat) (Fin : Goroutine → Prop) (Shun : Loc → Prop) (reg : Bool) (st : Int) (d0 d1 r n : Nat) (rel : Option Nat) (gs : Array Goroutine) (w : World) (t : Trace) (a b : Goroutine) (q : Nat → Nat) : Prop where
  h0 : gs[0]? = some a
  hj : gs[j]? = some b
  jq : JQ P ty Wg Fin reg d0 r n a
  grp : WgAt ty Wg w st 0
  st0 : reg = false → st = KK
  run : b.status = .running
  lv : LvBut P j t gs q
  tr : PhT Shun Wg j w.heap.size d0 d1 rel t

section
variable {P : Program} {ty : TypeId} {Wg j : Nat} {Fin : Goroutine → Prop} {Shun : Loc → Prop} {reg : Bool} {st : Int} {d0 d1 r n : Nat} {rel : Option Nat} {gs : Array Goroutine} {w : World} {sl : Option (Nat × Nat)} {t : Trace} {a b : Goroutine} {q : Nat → Nat}

theorem gs_get {i m : Nat} {g g' x : Goroutine} {w' : World} (hm : i ≠ m) (h : gs[m]? = some x) : ((gs.map (woken P g g' w')).setIfInBounds i g')[m]? = some (woken P g g' w' x) := by
  rw [Array.getElem?_setIfInBounds_ne hm, Array.getElem?_map, h]; rfl
theorem gs_same {i : Nat} {g g' : Goroutine} {w' : World} {x : Goroutine} (h : gs[i]? = some x) : ((gs.map (woken P g g' w')).setIfInBounds i g')[i]? = some g' := by
  have hlt : i < gs.size := (Array.getElem?_eq_some_iff.1 h).1
  rw [Array.getElem?_setIfInBounds_self_of_lt (by simpa using hlt)]
theorem gs_size {i : Nat} {g g' : Goroutine} {w' : World} : ((gs.map (woken P g g' w')).setIfInBounds i g').size = gs.size := by simp
theorem g_ofEvents {g : Nat} {fn : FuncId} {pos : String} {es : Array Event} : ∀ op ∈ MemOp.ofEvents g fn pos es, op.g = g := fun op hop => by obtain ⟨e, _, rfl⟩ := Go.Conc.mem_ofEvents hop; rfl

/-- A step of the joiner's or the worker's leaves the others. -/
theorem LvBut.own (hL : LvBut P j t gs q) {i : Nat} (hi : i = 0 ∨ i = j) {g g' x : Goroutine} {w' : World} {fn : FuncId} {pos : String} {es : Array Event} (hx : gs[i]? = some x) : LvBut P j (t ++ MemOp.ofEvents i fn pos es) ((gs.map (woken P g g' w')).setIfInBounds i g') q := by
  refine ⟨fun m y h1 h2 hy => ?_, fun m hm => ?_⟩
  · have hne : i ≠ m := by rcases hi with rfl | rfl <;> omega
    rw [Array.getElem?_setIfInBounds_ne hne, Array.getElem?_map] at hy
    obtain ⟨z, hz, rfl⟩ := Option.map_eq_some_iff.1 hy
    have hq := hL.old m z h1 h2 hz
    rw [woken_quitsD hq, Deaf_other t (g' := i) hne _ g_ofEvents]
    exact hq
  · have hlt : i < gs.size := (Array.getElem?_eq_some_iff.1 hx).1
    rw [gs_size] at hm
    rw [Deaf_other t (g' := i) (by omega) _ g_ofEvents]
    exact hL.above m hm

/-- One of the others takes a step. -/
theorem LvBut.step (hL : LvBut P j t gs q) {sl' : Option (Nat × Nat)} {i d : Nat} {g : Goroutine} (hpos : 0 < i) (hij : i ≠ j) (hi : gs[i]? = some g) (hg : g.status = .running) :
    ∃ k g' es, runT P (crowd gs (w.at d) sl') i = (.next (crowd ((gs.map (woken P g g' (w.at d))).setIfInBounds i g') (w.at d) sl'), MemOp.ofEvents i g.frame.fn g.frame.place es) ∧ (∀ e ∈ es, e.mute = true) ∧
      LvBut P j (t ++ MemOp.ofEvents i g.frame.fn g.frame.place es) ((gs.map (woken P g g' (w.at d))).setIfInBounds i g') (ConcN.upd q i k) ∧ sumTo gs.size (ConcN.upd q i k) < sumTo gs.size q := by
  have hq := hL.old i g hpos hij hi
  have hi0 : (i == 0) = false := by simp; omega
  have hlt : i < gs.size := (Array.getElem?_eq_some_iff.1 hi).1
  cases hqi : q i with
  | zero => rw [hqi] at hq; rw [hq.1] at hg; cases hg
  | succ k =>
    rw [hqi] at hq
    rcases hq with ⟨hf, _⟩ | ⟨_, g', es, hm, hstp, hq'⟩
    · rw [hf] at hg; cases hg
    have hrunT := runT_crowd_go (P := P) (sl := sl') (i := i) hi (by rw [hi0]; exact hstp (w.at d))
    have hsum : sumTo gs.size (ConcN.upd q i k) + (k + 1) = sumTo gs.size q + k := by
      have := sumTo_upd q k id hlt
      simpa [hqi] using this
    refine ⟨k, g', es, hrunT, hm, ⟨fun m x h1 h2 hx => ?_, fun m hm' => ?_⟩, by omega⟩
    · by_cases hji : i = m
      · subst hji
        rw [gs_same hi] at hx
        obtain rfl := Option.some.inj hx
        rw [upd_same, Deaf_own]
        exact hq'
      · rw [Array.getElem?_setIfInBounds_ne hji, Array.getElem?_map] at hx
        obtain ⟨y, hy, rfl⟩ := Option.map_eq_some_iff.1 hx
        have hqj := hL.old m y h1 h2 hy
        rw [woken_quitsD hqj, ConcN.upd_ne q k (Ne.symm hji), Deaf_other t (g' := i) hji _ g_ofEvents]
        exact hqj
    · rw [gs_size] at hm'
      rw [Deaf_other t (g' := i) (by omega) _ g_ofEvents]
      exact hL.above m hm'

theorem PA.awake (h : PA P ty Wg j Fin Shun reg st d0 d1 r n rel gs w t a b q) : ∀ g ∈ gs, Go.Conc.awake g := by
  intro g hg
  obtain ⟨i, hi, rfl⟩ := Array.mem_iff_getElem.1 hg
  rcases Nat.eq_zero_or_pos i with rfl | hpos
  · have : gs[0] = a := by simpa [Array.getElem?_eq_getElem hi] using h.h0
    rw [this]
    intro t ht
    rcases h.jq.status with x | ⟨x, _⟩ <;> rw [x] at ht <;> cases ht
  · by_cases hij : i = j
    · subst hij
      have : gs[i] = b := by simpa [Array.getElem?_eq_getElem hi] using h.hj
      rw [this]; exact awake_of (.inl h.run)
    · exact awake_of ((h.lv.old i _ hpos hij (Array.getElem?_eq_getElem hi)).status.elim .inl fun x => .inr (.inr x))

/-- The worker's turn. -/
def Picked (P : Program) (ty : TypeId) (Wg j : Nat) (Fin : Goroutine → Prop) (Shun : Loc → Prop) (N0 : Nat) (w0 : World) (reg : Bool) (st : Int) (d1 : Nat) (rel : Option Nat) (b : Goroutine) : Array Goroutine → World → Option (Nat × Nat) → Trace → Prop := fun gs w sl t =>
  ∃ dr sl' reg' st' d0' r' n' a' q', gs.size = N0 ∧ Go.stepT P (crowd gs w sl) = runT P (crowd gs (w.at dr) sl') j ∧ JRel Wg w0 w ∧ ((reg' = reg ∧ st' = st) ∨ (reg = false ∧ reg' = true ∧ st' = KK + 1)) ∧ PA P ty Wg j Fin Shun reg' st' d0' d1 r' n' rel gs w t a' b q'

theorem wait_worker (hj0 : j ≠ 0) (hSW : ∀ l, Shun l → ¬ OfWg Wg l) (N0 : Nat) (w0 : World) (reg0 : Bool) (st0 : Int) (hst0 : reg0 = false → st0 = KK) : ∀ (S r n : Nat) (gs : Array Goroutine) (w : World) (sl : Option (Nat × Nat)) (t : Trace) (q : Nat → Nat) (a : Goroutine) (d0 : Nat) (reg : Bool) (st : Int),
    sumTo gs.size q = S → gs.size = N0 → JRel Wg w0 w → ((reg = reg0 ∧ st = st0) ∨ (reg0 = false ∧ reg = true ∧ st = KK + 1)) → PA P ty Wg j Fin Shun reg st d0 d1 r n rel gs w t a b q →
    Reaches P gs w sl t (Picked P ty Wg j Fin Shun N0 w0 reg0 st0 d1 rel b) := by
  intro S
  induction S using Nat.strongRecOn with
  | ind S ihS =>
  intro r
  induction r using Nat.strongRecOn with
  | ind r ihr =>
  intro n
  induction n using Nat.strongRecOn with
  | ind n ihn =>
  intro gs w sl t q a d0 reg st hS hN hR hrs h
  obtain ⟨i, g, dr, sl', hi, hg, hpk⟩ := crowd_pick (P := P) (w := w) (sl := sl) h.awake ⟨j, b, h.hj, h.run⟩
  by_cases hij : i = j
  · subst hij
    exact .here ⟨dr, sl', reg, st, d0, r, n, a, q, hN, hpk, hR, hrs, h⟩
  have hw' : WgAt ty Wg (w.at dr) st 0 := h.grp
  have hR' : JRel Wg w0 (w.at dr) := hR.trans (.at_ w dr)
  have hP : PhT Shun Wg j (w.at dr).heap.size d0 d1 rel t := h.tr
  rcases Nat.eq_zero_or_pos i with rfl | hpos
  · obtain rfl : g = a := by rw [h.h0] at hi; exact (Option.some.inj hi).symm
    obtain ⟨a', w', es, h1, h2, h3, reg', st', r', n', h4, h5, h6, h7⟩ := h.jq.step hg hw' h.st0
    have hrunT := runT_crowd_go (P := P) (sl := sl') (i := 0) hi (show stepG P (0 == 0) g (w.at dr) = _ from h1)
    have hP' := hP.main (fn := g.frame.fn) (pos := g.frame.place) (B' := w'.heap.size) hj0 (by rw [h3.size]; exact Nat.le_refl _) hSW (fun e he x hx => jev_touch (h2 e he) hx) (fun e he => jev_norel (h2 e he)) (fun e he => jev_low (h2 e he) (wg_lt h4))
    have hrs' : (reg' = reg0 ∧ st' = st0) ∨ (reg0 = false ∧ reg' = true ∧ st' = KK + 1) := by
      rcases h5 with ⟨rfl, rfl⟩ | ⟨e1, e2, e3⟩
      · exact hrs
      · rcases hrs with ⟨rfl, rfl⟩ | ⟨e4, e5, e6⟩
        · exact .inr ⟨e1, e2, e3⟩
        · rw [e1] at e5; cases e5
    have hPA : PA P ty Wg j Fin Shun reg' st' (deafBehind d0 es) d1 r' n' rel ((gs.map (woken P g a' w')).setIfInBounds 0 a') w' (t ++ MemOp.ofEvents 0 g.frame.fn g.frame.place es) a' b q :=
      ⟨gs_same hi, by rw [gs_get (Ne.symm hj0) h.hj, woken_run h.run], h6, h4, fun e => (by
        rcases h5 with ⟨rfl, rfl⟩ | ⟨e1, e2, e3⟩
        · exact h.st0 e
        · rw [e2] at e; cases e), h.run, h.lv.own (.inl rfl) hi, hP'⟩
    refine Reaches.step (by rw [hpk]; exact hrunT) ?_
    rcases h7 with h7 | ⟨rfl, h7⟩
    · exact ihr r' h7 n' _ w' sl' _ q a' _ reg' st' (by rw [gs_size]; exact hS) (gs_size.trans hN) (hR'.trans h3) hrs' hPA
    · exact ihn n' h7 _ w' sl' _ q a' _ reg' st' (by rw [gs_size]; exact hS) (gs_size.trans hN) (hR'.trans h3) hrs' hPA
  · obtain ⟨k, g1, es1, hrunT, hm, hL', hlt'⟩ := h.lv.step (w := w) (sl' := sl') (d := dr) hpos hij hi hg
    have hP' := hP.leaver (g := i) (fn := g.frame.fn) (pos := g.frame.place) (by omega) hij hm
    obtain ⟨r', n', hjq⟩ := h.jq.awoken (b := g) (b' := g1) (w := w.at dr)
    refine Reaches.step (by rw [hpk]; exact hrunT) ?_
    exact ihS _ (by rw [← hS]; exact hlt') r' n' _ (w.at dr) sl' _ (ConcN.upd q i k) _ d0 reg st (by rw [gs_size]) (gs_size.trans hN) hR' hrs
      ⟨gs_get (by omega) h.h0, by rw [gs_get hij h.hj, woken_run h.run], hjq, hw', h.st0, h.run, hL', hP'⟩

/-- The worker's step. -/
theorem PA.work (h : PA P ty Wg j Fin Shun reg st d0 d1 r n rel gs w t a b q) (hj0 : j ≠ 0) {b' : Goroutine} {w2 : World} {es : Array Event} (hrun : b'.status = .running) {st2 : Int} (hg : WgAt ty Wg w2 st2 0) (hst : reg = false → st2 = KK) {rel' : Option Nat}
    (hP : PhT Shun Wg j w2.heap.size d0 (deafBehind d1 es) rel' (t ++ MemOp.ofEvents j b.frame.fn b.frame.place es)) :
    ∃ r' n', PA P ty Wg j Fin Shun reg st2 d0 (deafBehind d1 es) r' n' rel' ((gs.map (woken P b b' w2)).setIfInBounds j b') w2 (t ++ MemOp.ofEvents j b.frame.fn b.frame.place es) (woken P b b' w2 a) b' q := by
  obtain ⟨r', n', hjq⟩ := h.jq.awoken (b := b) (b' := b') (w := w2)
  exact ⟨r', n', gs_get hj0 h.h0, gs_same h.hj, hjq, hg, hst, hrun, h.lv.own (.inr rfl) h.hj, hP⟩

/-- The worker begins to leave. -/
theorem LvBut.toAll (hj0 : j ≠ 0) (h : LvBut P j t gs q) {b : Goroutine} (hb : gs[j]? = some b) {k : Nat} (hq : QuitsD P k (Deaf t j) b) : Leavers P t gs (ConcN.upd q j k) := by
  refine ⟨fun i g h1 h2 => ?_, h.above⟩
  by_cases hij : i = j
  · subst hij
    rw [hb] at h2; cases h2
    rw [upd_same]; exact hq
  · rw [ConcN.upd_ne q k hij]
    exact h.old i g h1 hij h2
end
end Go.Ev
/- Between a fork and a join: the worker's stages, from the end backwards. -/
namespace Go.Ev
open Go.Conc
open Go.ConcX (WgAt wgBlock stA smA KK OfWg RCa RCd DC0 KCa Full Payload Shy DCs EvQ)
open Go.ConcN (sumTo sumTo_upd upd_same)

section
variable {P : Program} {ty : TypeId} {Wg j : Nat} {Fin : Goroutine → Prop} {Shun : Loc → Prop} {reg : Bool} {st : Int} {d0 d1 r n : Nat} {rel : Option Nat} {gs : Array Goroutine} {w : World} {sl : Option (Nat × Nat)} {t : Trace} {a b : Goroutine} {q : Nat → Nat}

theorem PA.at_ (h : PA P ty Wg j Fin Shun reg st d0 d1 r n rel gs w t a b q) (d : Nat) : PA P ty Wg j Fin Shun reg st d0 d1 r n rel gs (w.at d) t a b q := ⟨h.h0, h.hj, h.jq, h.grp, h.st0, h.run, h.lv, h.tr⟩

/-- What comes when the worker takes its step. -/
theorem worker_go {T : Array Goroutine → World → Option (Nat × Nat) → Trace → Prop} (hj0 : j ≠ 0) (hSW : ∀ l, Shun l → ¬ OfWg Wg l) (h : PA P ty Wg j Fin Shun reg st d0 d1 r n rel gs w t a b q)
    (K : ∀ gs1 w1 sl1 t1 reg1 st1 d01 r1 n1 a1 q1, gs1.size = gs.size → JRel Wg w w1 → ((reg1 = reg ∧ st1 = st) ∨ (reg = false ∧ reg1 = true ∧ st1 = KK + 1)) → PA P ty Wg j Fin Shun reg1 st1 d01 d1 r1 n1 rel gs1 w1 t1 a1 b q1 →
      ∃ b' w2 es, stepG P false b w1 = .go b' w2 es ∧ Reaches P ((gs1.map (woken P b b' w2)).setIfInBounds j b') w2 sl1 (t1 ++ MemOp.ofEvents j b.frame.fn b.frame.place es) T) :
    Reaches P gs w sl t T := by
  refine Reaches.then (wait_worker hj0 hSW gs.size w reg st h.st0 _ r n gs w sl t q a d0 reg st rfl rfl (.refl w) (.inl ⟨rfl, rfl⟩) h) ?_
  rintro gs1 w1 sl1 t1 ⟨dr, sl', reg1, st1, d01, r1, n1, a1, q1, hN, hpk, hR, hrs, hPA⟩
  obtain ⟨b', w2, es, h1, h2⟩ := K gs1 (w1.at dr) sl' t1 reg1 st1 d01 r1 n1 a1 q1 hN (hR.trans (.at_ w1 dr)) hrs (hPA.at_ dr)
  have hi0 : (j == 0) = false := by simp; exact hj0
  have hrunT := runT_crowd_go (P := P) (sl := sl') (i := j) hPA.hj (by rw [hi0]; exact h1)
  exact Reaches.step (by rw [hpk]; exact hrunT) h2

theorem nil_ops (t : Trace) (g : Nat) (fn : FuncId) (pos : String) : t ++ MemOp.ofEvents g fn pos #[] = t := by rw [ofEvents_none]; simp

/-- A step of the worker's that does nothing. -/
theorem PA.idle (h : PA P ty Wg j Fin Shun reg st d0 d1 r n rel gs w t a b q) (hj0 : j ≠ 0) {b' : Goroutine} (hrun : b'.status = .running) :
    ∃ r' n', PA P ty Wg j Fin Shun reg st d0 d1 r' n' rel ((gs.map (woken P b b' w)).setIfInBounds j b') w (t ++ MemOp.ofEvents j b.frame.fn b.frame.place #[]) (woken P b b' w a) b' q := by
  have e : deafBehind d1 #[] = d1 := rfl
  have := h.work (es := #[]) (w2 := w) (rel' := rel) hj0 hrun h.grp h.st0 (by rw [e, nil_ops]; exact h.tr)
  rw [e] at this
  exact this

theorem same_block {w' : World} (hR : JRel Wg w w') {st : Int} (h : WgAt ty Wg w st 0) (h' : WgAt ty Wg w' st 0) (x : Nat) : w'.heap[x]? = w.heap[x]? := by
  by_cases hx : x = Wg
  · subst hx; exact (show w'.heap[x]? = some _ from h').trans (show w.heap[x]? = some _ from h).symm
  · exact hR.block x hx

/-- The group's states while the count is one. -/
theorem one_or (hk : reg = true → st = KK + 1) {reg1 : Bool} {st1 : Int} (hrs : (reg1 = reg ∧ st1 = st) ∨ (reg = false ∧ reg1 = true ∧ st1 = KK + 1)) : reg1 = true → st1 = KK + 1 := by
  rcases hrs with ⟨rfl, rfl⟩ | ⟨_, _, rfl⟩
  · exact hk
  · exact fun _ => rfl
theorem rca_of (hk : reg = true → st = KK + 1) (h : PA P ty Wg j Fin Shun reg st d0 d1 r n rel gs w t a b q) {w1 : World} {Low : Nat} (hR : JRel Wg w1 w) : RCa ty Wg Low w1 w :=
  ⟨fun x _ hx => hR.block x hx, fun _ => by
    cases hr : reg with
    | false => left; rw [← h.st0 hr]; exact h.grp
    | true => right; rw [← hk hr]; exact h.grp⟩

section
variable (hj0 : j ≠ 0) (hSW : ∀ l, Shun l → ¬ OfWg Wg l) (N0 : Nat) (w0 : World) (Low rr : Nat)
include hj0 hSW

/-- Behind the semaphore's release. -/
theorem st6 : ∀ (m : Nat) (gs : Array Goroutine) (w : World) (sl : Option (Nat × Nat)) (t : Trace) (q : Nat → Nat) (a b : Goroutine) (d0 r n : Nat), gs.size = N0 → JRel Wg w0 w → Goes P false (RCd Low) DC0 (Go.ConcX.AtD4 P Wg) m b w →
    PA P ty Wg j Fin Shun true 0 d0 1 r n (some rr) gs w t a b q → Reaches P gs w sl t (Joined P ty Wg Fin Shun N0 w0) := by
  intro m
  induction m with
  | zero => exact fun gs w sl t q a b d0 r n hN hR hG h => fin gs w sl t q a b d0 r n hN hR hG h
  | succ m ih =>
    intro gs w sl t q a b d0 r n hN hR hG h
    rcases Goes.cases hG with hs | ⟨m', hm, hs⟩
    · exact fin gs w sl t q a b d0 r n hN hR hs h
    · cases hm
      refine worker_go hj0 hSW h fun gs1 w1 sl1 t1 reg1 st1 d01 r1 n1 a1 q1 hN1 hR1 hrs hPA => ?_
      obtain ⟨rfl, rfl⟩ : reg1 = true ∧ st1 = 0 := hrs.elim id fun x => by cases x.1
      obtain ⟨b', w2, es, h1, ⟨rfl, rfl⟩, h2⟩ := hs w1 fun x _ => same_block hR1 h.grp hPA.grp x
      have hrun : b'.status = .running := Goes.running (fun _ _ x => x.1) w2 (RCd.refl w2) h2
      obtain ⟨r2, n2, h3⟩ := hPA.idle hj0 hrun
      exact ⟨b', w2, #[], h1, ih _ w2 sl1 _ q1 _ b' d01 r2 n2 (gs_size.trans (hN1.trans hN)) (hR.trans hR1) h2 h3⟩
where
  fin (gs : Array Goroutine) (w : World) (sl : Option (Nat × Nat)) (t : Trace) (q : Nat → Nat) (a b : Goroutine) (d0 r n : Nat) (hN : gs.size = N0) (hR : JRel Wg w0 w) (hG : ∀ w₁, RCd Low w w₁ → Go.ConcX.AtD4 P Wg b w₁)
      (h : PA P ty Wg j Fin Shun true 0 d0 1 r n (some rr) gs w t a b q) : Reaches P gs w sl t (Joined P ty Wg Fin Shun N0 w0) := by
    refine worker_go hj0 hSW h fun gs1 w1 sl1 t1 reg1 st1 d01 r1 n1 a1 q1 hN1 hR1 hrs hPA => ?_
    obtain ⟨rfl, rfl⟩ : reg1 = true ∧ st1 = 0 := hrs.elim id fun x => by cases x.1
    obtain ⟨_, hmw, b', h1, k, hq⟩ := hG w1 fun x _ => same_block hR1 h.grp hPA.grp x
    have hb' : b'.status = .running := by
      cases k with
      | zero => exact absurd hq.2 (by decide)
      | succ k => exact hq.elim (fun x => absurd x.2 (by decide)) (fun x => x.1)
    have e1 : deafBehind 1 (semEvents (smA Wg)) = 1 := rfl
    have hsz : (w1.setCell (smA Wg) (.int .u32 1)).heap.size = w1.heap.size := (JRel.setCell (Wg := Wg) w1 (smA Wg) (.int .u32 1) rfl).size
    have hP' := hPA.tr.tail (fn := b.frame.fn) (pos := b.frame.place) (es := semEvents (smA Wg)) hj0 hSW (wg_lt hPA.grp) (fun k e hk => by
      have : k = 0 ∨ k = 1 ∨ k = 2 ∨ k = 3 := by have := (Array.getElem?_eq_some_iff.1 hk).1; simp [semEvents] at this; omega
      rcases this with rfl | rfl | rfl | rfl <;> (simp [semEvents] at hk; subst hk)
      · exact .inl rfl
      · exact .inr ⟨⟨1, false, rfl⟩, by simp [deafBehind, semEvents, rdA, wrA]⟩
      · exact .inr ⟨⟨1, true, rfl⟩, by simp [deafBehind, semEvents, rdA, wrA]⟩
      · exact .inl rfl) (fun e he => jev_norel (jev_sem e he)) (fun e he => jev_low (jev_sem e he) (wg_lt hPA.grp))
    rw [e1] at hP'
    obtain ⟨n', hjb⟩ := hPA.jq.up (w := w1.setCell (smA Wg) (.int .u32 1)) hmw hb'
    have hL := (hPA.lv.own (g := b) (g' := b') (w' := w1.setCell (smA Wg) (.int .u32 1)) (fn := b.frame.fn) (pos := b.frame.place) (es := semEvents (smA Wg)) (.inr rfl) hPA.hj).toAll hj0 (gs_same hPA.hj) (k := k) (by rw [hP'.deaf1]; exact hq)
    exact ⟨b', _, _, h1, join_past hj0 hSW rr N0 w0 3 _ n' _ _ sl1 _ (ConcN.upd q1 j k) _ d01 1 1 (Nat.le_refl _) (gs_size.trans (hN1.trans hN)) ((hR.trans hR1).trans (.setCell w1 (smA Wg) _ rfl)) hjb (gs_get hj0 hPA.h0) hL (Go.ConcX.WgAt.setSm hPA.grp 1) (by rw [hsz]; exact hP')⟩

/-- Behind the store of nought. -/
theorem st5 : ∀ (m : Nat) (gs : Array Goroutine) (w : World) (sl : Option (Nat × Nat)) (t : Trace) (q : Nat → Nat) (a b : Goroutine) (d0 r n : Nat), gs.size = N0 → JRel Wg w0 w → Goes P false (RCd Low) DC0 (Go.ConcX.AtD3 P Wg Low) m b w →
    PA P ty Wg j Fin Shun true 1 d0 1 r n (some rr) gs w t a b q → Reaches P gs w sl t (Joined P ty Wg Fin Shun N0 w0) := by
  intro m
  induction m with
  | zero => exact fun gs w sl t q a b d0 r n hN hR hG h => fin gs w sl t q a b d0 r n hN hR hG h
  | succ m ih =>
    intro gs w sl t q a b d0 r n hN hR hG h
    rcases Goes.cases hG with hs | ⟨m', hm, hs⟩
    · exact fin gs w sl t q a b d0 r n hN hR hs h
    · cases hm
      refine worker_go hj0 hSW h fun gs1 w1 sl1 t1 reg1 st1 d01 r1 n1 a1 q1 hN1 hR1 hrs hPA => ?_
      obtain ⟨rfl, rfl⟩ : reg1 = true ∧ st1 = 1 := hrs.elim id fun x => by cases x.1
      obtain ⟨b', w2, es, h1, ⟨rfl, rfl⟩, h2⟩ := hs w1 fun x _ => same_block hR1 h.grp hPA.grp x
      have hrun : b'.status = .running := Goes.running (fun _ _ x => x.1) w2 (RCd.refl w2) h2
      obtain ⟨r2, n2, h3⟩ := hPA.idle hj0 hrun
      exact ⟨b', w2, #[], h1, ih _ w2 sl1 _ q1 _ b' d01 r2 n2 (gs_size.trans (hN1.trans hN)) (hR.trans hR1) h2 h3⟩
where
  fin (gs : Array Goroutine) (w : World) (sl : Option (Nat × Nat)) (t : Trace) (q : Nat → Nat) (a b : Goroutine) (d0 r n : Nat) (hN : gs.size = N0) (hR : JRel Wg w0 w) (hG : ∀ w₁, RCd Low w w₁ → Go.ConcX.AtD3 P Wg Low b w₁)
      (h : PA P ty Wg j Fin Shun true 1 d0 1 r n (some rr) gs w t a b q) : Reaches P gs w sl t (Joined P ty Wg Fin Shun N0 w0) := by
    refine worker_go hj0 hSW h fun gs1 w1 sl1 t1 reg1 st1 d01 r1 n1 a1 q1 hN1 hR1 hrs hPA => ?_
    obtain ⟨rfl, rfl⟩ : reg1 = true ∧ st1 = 1 := hrs.elim id fun x => by cases x.1
    obtain ⟨_, b', h1, m, h2⟩ := hG w1 fun x _ => same_block hR1 h.grp hPA.grp x
    have hrun : b'.status = .running := Goes.running (fun _ _ x => x.1) _ (RCd.refl _) h2
    have e1 : deafBehind 1 #[wrA (stA Wg)] = 1 := rfl
    have hsz : (w1.setCell (stA Wg) (.int .u64 0)).heap.size = w1.heap.size := (JRel.setCell (Wg := Wg) w1 (stA Wg) (.int .u64 0) rfl).size
    have hP' := hPA.tr.tail (fn := b.frame.fn) (pos := b.frame.place) (es := #[wrA (stA Wg)]) hj0 hSW (wg_lt hPA.grp) (fun k e hk => by
      have : k = 0 := by have := (Array.getElem?_eq_some_iff.1 hk).1; simp at this; omega
      subst this; simp at hk; subst hk
      exact .inr ⟨⟨0, true, rfl⟩, by simp [deafBehind, semEvents, rdA, wrA]⟩) (fun e he => by simp at he; subst he; exact jev_norel jev_wr) (fun e he => by simp at he; subst he; exact jev_low jev_wr (wg_lt hPA.grp))
    obtain ⟨r2, n2, h3⟩ := hPA.work (es := #[wrA (stA Wg)]) (rel' := some rr) hj0 hrun (Go.ConcX.WgAt.setSt hPA.grp 0) (fun e => by cases e) (by rw [hsz]; exact hP')
    rw [e1] at h3
    exact ⟨b', _, _, h1, st6 (Fin := Fin) (ty := ty) hj0 hSW N0 w0 Low rr m _ _ sl1 _ q1 _ b' d01 r2 n2 (gs_size.trans (hN1.trans hN)) ((hR.trans hR1).trans (.setCell w1 (stA Wg) _ rfl)) h2 h3⟩

/-- Behind the load. -/
theorem st4 : ∀ (m : Nat) (gs : Array Goroutine) (w : World) (sl : Option (Nat × Nat)) (t : Trace) (q : Nat → Nat) (a b : Goroutine) (d0 r n : Nat), gs.size = N0 → JRel Wg w0 w → Goes P false (RCd Low) DC0 (Go.ConcX.AtD2 P Wg Low) m b w →
    PA P ty Wg j Fin Shun true 1 d0 1 r n (some rr) gs w t a b q → Reaches P gs w sl t (Joined P ty Wg Fin Shun N0 w0) := by
  intro m
  induction m with
  | zero => exact fun gs w sl t q a b d0 r n hN hR hG h => fin gs w sl t q a b d0 r n hN hR hG h
  | succ m ih =>
    intro gs w sl t q a b d0 r n hN hR hG h
    rcases Goes.cases hG with hs | ⟨m', hm, hs⟩
    · exact fin gs w sl t q a b d0 r n hN hR hs h
    · cases hm
      refine worker_go hj0 hSW h fun gs1 w1 sl1 t1 reg1 st1 d01 r1 n1 a1 q1 hN1 hR1 hrs hPA => ?_
      obtain ⟨rfl, rfl⟩ : reg1 = true ∧ st1 = 1 := hrs.elim id fun x => by cases x.1
      obtain ⟨b', w2, es, h1, ⟨rfl, rfl⟩, h2⟩ := hs w1 fun x _ => same_block hR1 h.grp hPA.grp x
      have hrun : b'.status = .running := Goes.running (fun _ _ x => x.1) w2 (RCd.refl w2) h2
      obtain ⟨r2, n2, h3⟩ := hPA.idle hj0 hrun
      exact ⟨b', w2, #[], h1, ih _ w2 sl1 _ q1 _ b' d01 r2 n2 (gs_size.trans (hN1.trans hN)) (hR.trans hR1) h2 h3⟩
where
  fin (gs : Array Goroutine) (w : World) (sl : Option (Nat × Nat)) (t : Trace) (q : Nat → Nat) (a b : Goroutine) (d0 r n : Nat) (hN : gs.size = N0) (hR : JRel Wg w0 w) (hG : ∀ w₁, RCd Low w w₁ → Go.ConcX.AtD2 P Wg Low b w₁)
      (h : PA P ty Wg j Fin Shun true 1 d0 1 r n (some rr) gs w t a b q) : Reaches P gs w sl t (Joined P ty Wg Fin Shun N0 w0) := by
    refine worker_go hj0 hSW h fun gs1 w1 sl1 t1 reg1 st1 d01 r1 n1 a1 q1 hN1 hR1 hrs hPA => ?_
    obtain ⟨rfl, rfl⟩ : reg1 = true ∧ st1 = 1 := hrs.elim id fun x => by cases x.1
    obtain ⟨_, b', h1, m, h2⟩ := hG w1 fun x _ => same_block hR1 h.grp hPA.grp x
    have hrun : b'.status = .running := Goes.running (fun _ _ x => x.1) _ (RCd.refl _) h2
    have e1 : deafBehind 1 #[rdA (stA Wg)] = 1 := rfl
    have hP' := hPA.tr.tail (fn := b.frame.fn) (pos := b.frame.place) (es := #[rdA (stA Wg)]) hj0 hSW (wg_lt hPA.grp) (fun k e hk => by
      have : k = 0 := by have := (Array.getElem?_eq_some_iff.1 hk).1; simp at this; omega
      subst this; simp at hk; subst hk
      exact .inr ⟨⟨0, false, rfl⟩, by simp [deafBehind, semEvents, rdA, wrA]⟩) (fun e he => by simp at he; subst he; exact jev_norel jev_rd) (fun e he => by simp at he; subst he; exact jev_low jev_rd (wg_lt hPA.grp))
    obtain ⟨r2, n2, h3⟩ := hPA.work (es := #[rdA (stA Wg)]) (w2 := w1) (rel' := some rr) hj0 hrun hPA.grp (fun e => by cases e) hP'
    rw [e1] at h3
    exact ⟨b', _, _, h1, st5 (Fin := Fin) (ty := ty) hj0 hSW N0 w0 Low rr m _ _ sl1 _ q1 _ b' d01 r2 n2 (gs_size.trans (hN1.trans hN)) (hR.trans hR1) h2 h3⟩

/-- The atomic add of -1. -/
theorem st3 : ∀ (m : Nat) (gs : Array Goroutine) (w : World) (sl : Option (Nat × Nat)) (t : Trace) (q : Nat → Nat) (a b : Goroutine) (reg : Bool) (st : Int) (d0 r n : Nat), gs.size = N0 → JRel Wg w0 w → (reg = true → st = KK + 1) → Goes P false (RCa ty Wg Low) DC0 (Go.ConcX.AtD1 P ty Wg Low) m b w →
    PA P ty Wg j Fin Shun reg st d0 1 r n (some rr) gs w t a b q → Reaches P gs w sl t (Joined P ty Wg Fin Shun N0 w0) := by
  intro m
  induction m with
  | zero => exact fun gs w sl t q a b reg st d0 r n hN hR hk hG h => fin gs w sl t q a b reg st d0 r n hN hR hk hG h
  | succ m ih =>
    intro gs w sl t q a b reg st d0 r n hN hR hk hG h
    rcases Goes.cases hG with hs | ⟨m', hm, hs⟩
    · exact fin gs w sl t q a b reg st d0 r n hN hR hk hs h
    · cases hm
      refine worker_go hj0 hSW h fun gs1 w1 sl1 t1 reg1 st1 d01 r1 n1 a1 q1 hN1 hR1 hrs hPA => ?_
      have hk1 := one_or hk hrs
      obtain ⟨b', w2, es, h1, ⟨rfl, rfl⟩, h2⟩ := hs w1 (rca_of hk1 hPA hR1)
      have hrun : b'.status = .running := Goes.running (fun _ _ x => x.1) w2 (Go.ConcX.RCa.refl w2) h2
      obtain ⟨r2, n2, h3⟩ := hPA.idle hj0 hrun
      exact ⟨b', w2, #[], h1, ih _ w2 sl1 _ q1 _ b' reg1 st1 d01 r2 n2 (gs_size.trans (hN1.trans hN)) (hR.trans hR1) hk1 h2 h3⟩
where
  fin (gs : Array Goroutine) (w : World) (sl : Option (Nat × Nat)) (t : Trace) (q : Nat → Nat) (a b : Goroutine) (reg : Bool) (st : Int) (d0 r n : Nat) (hN : gs.size = N0) (hR : JRel Wg w0 w) (hk : reg = true → st = KK + 1) (hG : ∀ w₁, RCa ty Wg Low w w₁ → Go.ConcX.AtD1 P ty Wg Low b w₁)
      (h : PA P ty Wg j Fin Shun reg st d0 1 r n (some rr) gs w t a b q) : Reaches P gs w sl t (Joined P ty Wg Fin Shun N0 w0) := by
    refine worker_go hj0 hSW h fun gs1 w1 sl1 t1 reg1 st1 d01 r1 n1 a1 q1 hN1 hR1 hrs hPA => ?_
    have hk1 := one_or hk hrs
    obtain ⟨_, hA, hB⟩ := hG w1 (rca_of hk1 hPA hR1)
    have e1 : deafBehind 1 #[rdA (stA Wg), wrA (stA Wg)] = 1 := rfl
    have hsz : ∀ v, (w1.setCell (stA Wg) (.int .u64 v)).heap.size = w1.heap.size := fun v => (JRel.setCell (Wg := Wg) w1 (stA Wg) (.int .u64 v) rfl).size
    have hP' := hPA.tr.tail (fn := b.frame.fn) (pos := b.frame.place) (es := #[rdA (stA Wg), wrA (stA Wg)]) hj0 hSW (wg_lt hPA.grp) (fun k e hk => by
      have : k = 0 ∨ k = 1 := by have := (Array.getElem?_eq_some_iff.1 hk).1; simp at this; omega
      rcases this with rfl | rfl <;> (simp at hk; subst hk)
      · exact .inr ⟨⟨0, false, rfl⟩, by simp [deafBehind, semEvents, rdA, wrA]⟩
      · exact .inr ⟨⟨0, true, rfl⟩, by simp [deafBehind, semEvents, rdA, wrA]⟩)
      (fun e he => by simp at he; exact he.elim (fun x => x ▸ jev_norel jev_rd) (fun x => x ▸ jev_norel jev_wr)) (fun e he => by simp at he; exact he.elim (fun x => x ▸ jev_low jev_rd (wg_lt hPA.grp)) (fun x => x ▸ jev_low jev_wr (wg_lt hPA.grp)))
    rw [e1] at hP'
    cases hr : reg1 with
    | false =>
      subst hr
      obtain rfl := hPA.st0 rfl
      obtain ⟨b', h1, k, hq⟩ := hA hPA.grp
      obtain ⟨r', hjb⟩ := hPA.jq.toB
      have ha : woken P b b' (w1.setCell (stA Wg) (.int .u64 0)) a1 = a1 := woken_run (hPA.jq.status.elim id fun x => by cases x.2)
      have hL := (hPA.lv.own (g := b) (g' := b') (w' := w1.setCell (stA Wg) (.int .u64 0)) (fn := b.frame.fn) (pos := b.frame.place) (es := #[rdA (stA Wg), wrA (stA Wg)]) (.inr rfl) hPA.hj).toAll hj0 (gs_same hPA.hj) (k := k) (by rw [show Deaf _ j = 1 from hP'.deaf1]; exact hq)
      have h00 := gs_get (P := P) (g := b) (g' := b') (w' := w1.setCell (stA Wg) (.int .u64 0)) hj0 hPA.h0
      rw [ha] at h00
      exact ⟨b', _, _, h1, join_past hj0 hSW rr N0 w0 r' _ n1 _ _ sl1 _ (ConcN.upd q1 j k) a1 d01 1 0 (Nat.le_refl _) (gs_size.trans (hN1.trans hN)) ((hR.trans hR1).trans (.setCell w1 (stA Wg) _ rfl)) hjb h00 hL (Go.ConcX.WgAt.setSt hPA.grp 0) (by rw [hsz]; exact hP')⟩
    | true =>
      subst hr
      obtain rfl := hk1 rfl
      obtain ⟨b', h1, m, h2⟩ := hB hPA.grp
      have hrun : b'.status = .running := Goes.running (fun _ _ x => x.1) _ (RCd.refl _) h2
      obtain ⟨r2, n2, h3⟩ := hPA.work (es := #[rdA (stA Wg), wrA (stA Wg)]) (rel' := some rr) hj0 hrun (Go.ConcX.WgAt.setSt hPA.grp 1) (fun e => by cases e) (by rw [hsz, e1]; exact hP')
      rw [e1] at h3
      exact ⟨b', _, _, h1, st4 (Fin := Fin) (ty := ty) hj0 hSW N0 w0 Low rr m _ _ sl1 _ q1 _ b' d01 r2 n2 (gs_size.trans (hN1.trans hN)) ((hR.trans hR1).trans (.setCell w1 (stA Wg) _ rfl)) h2 h3⟩

/-- Behind the release: it goes deaf. -/
theorem st2 : ∀ (m : Nat) (gs : Array Goroutine) (w : World) (sl : Option (Nat × Nat)) (t : Trace) (q : Nat → Nat) (a b : Goroutine) (reg : Bool) (st : Int) (d0 r n : Nat), gs.size = N0 → JRel Wg w0 w → (reg = true → st = KK + 1) → Goes P false (RCa ty Wg Low) DC0 (Go.ConcX.AtK1 P ty Wg Low) m b w →
    PA P ty Wg j Fin Shun reg st d0 0 r n (some rr) gs w t a b q → Reaches P gs w sl t (Joined P ty Wg Fin Shun N0 w0) := by
  intro m
  induction m with
  | zero => exact fun gs w sl t q a b reg st d0 r n hN hR hk hG h => fin gs w sl t q a b reg st d0 r n hN hR hk hG h
  | succ m ih =>
    intro gs w sl t q a b reg st d0 r n hN hR hk hG h
    rcases Goes.cases hG with hs | ⟨m', hm, hs⟩
    · exact fin gs w sl t q a b reg st d0 r n hN hR hk hs h
    · cases hm
      refine worker_go hj0 hSW h fun gs1 w1 sl1 t1 reg1 st1 d01 r1 n1 a1 q1 hN1 hR1 hrs hPA => ?_
      have hk1 := one_or hk hrs
      obtain ⟨b', w2, es, h1, ⟨rfl, rfl⟩, h2⟩ := hs w1 (rca_of hk1 hPA hR1)
      have hrun : b'.status = .running := Goes.running (fun _ _ x => x.1) w2 (Go.ConcX.RCa.refl w2) h2
      obtain ⟨r2, n2, h3⟩ := hPA.idle hj0 hrun
      exact ⟨b', w2, #[], h1, ih _ w2 sl1 _ q1 _ b' reg1 st1 d01 r2 n2 (gs_size.trans (hN1.trans hN)) (hR.trans hR1) hk1 h2 h3⟩
where
  fin (gs : Array Goroutine) (w : World) (sl : Option (Nat × Nat)) (t : Trace) (q : Nat → Nat) (a b : Goroutine) (reg : Bool) (st : Int) (d0 r n : Nat) (hN : gs.size = N0) (hR : JRel Wg w0 w) (hk : reg = true → st = KK + 1) (hG : ∀ w₁, RCa ty Wg Low w w₁ → Go.ConcX.AtK1 P ty Wg Low b w₁)
      (h : PA P ty Wg j Fin Shun reg st d0 0 r n (some rr) gs w t a b q) : Reaches P gs w sl t (Joined P ty Wg Fin Shun N0 w0) := by
    refine worker_go hj0 hSW h fun gs1 w1 sl1 t1 reg1 st1 d01 r1 n1 a1 q1 hN1 hR1 hrs hPA => ?_
    have hk1 := one_or hk hrs
    obtain ⟨_, b', h1, m, h2⟩ := hG w1 (rca_of hk1 hPA hR1)
    have hrun : b'.status = .running := Goes.running (fun _ _ x => x.1) _ (Go.ConcX.RCa.refl _) h2
    have e1 : deafBehind 0 #[mkE .disable] = 1 := rfl
    have hP' := hPA.tr.tail (fn := b.frame.fn) (pos := b.frame.place) (es := #[mkE .disable]) hj0 hSW (wg_lt hPA.grp) (fun k e hk => by
      have : k = 0 := by have := (Array.getElem?_eq_some_iff.1 hk).1; simp at this; omega
      subst this; simp at hk; subst hk
      exact .inl rfl) (fun e he => by simp at he; subst he; simp [mkE]) (fun e he => by simp at he; subst he; trivial)
    obtain ⟨r2, n2, h3⟩ := hPA.work (es := #[mkE .disable]) (w2 := w1) (rel' := some rr) hj0 hrun hPA.grp hPA.st0 hP'
    rw [e1] at h3
    exact ⟨b', _, _, h1, st3 (Fin := Fin) (ty := ty) hj0 hSW N0 w0 Low rr m _ _ sl1 _ q1 _ b' reg1 st1 d01 r2 n2 (gs_size.trans (hN1.trans hN)) (hR.trans hR1) hk1 h2 h3⟩
end
end
end Go.Ev
/- Between a fork and a join: the worker's whole life beside the joiner. -/
namespace Go.Ev
open Go.Conc
open Go.ConcX (WgAt wgBlock stA smA KK OfWg RCa RCd DC0 KCa Full Payload Shy DCs EvQ)
open Go.ConcN (sumTo sumTo_upd upd_same)

/-- The world, but for the group's block and one more. -/
structure JRelC (Wg C : Nat) (w w' : World) : Prop where
  size : w'.heap.size = w.heap.size
  block : ∀ b, b ≠ Wg → b ≠ C → w'.heap[b]? = w.heap[b]?
  os : w'.os = w.os
  tape : w'.tape = w.tape
  output : w'.output = w.output
theorem JRel.toC {Wg : Nat} {w w' : World} (h : JRel Wg w w') (C : Nat) : JRelC Wg C w w' := ⟨h.size, fun b h1 _ => h.block b h1, h.os, h.tape, h.output⟩
theorem JRelC.trans {Wg C : Nat} {a b c : World} (h : JRelC Wg C a b) (h' : JRelC Wg C b c) : JRelC Wg C a c :=
  ⟨h'.size.trans h.size, fun x h1 h2 => (h'.block x h1 h2).trans (h.block x h1 h2), h'.os.trans h.os, h'.tape.trans h.tape, h'.output.trans h.output⟩
theorem full_at {pl : Payload} {C : Nat} {vals : List Value} {w : World} (h : Full C vals w) : w.heap[C]? = some (.cells vals.toArray Payload.ety) := h rfl
theorem JRelC.toJ {Wg C : Nat} {w w' : World} {pl : Payload} {vals : List Value} (h : JRelC Wg C w w') (hw : Full C vals w) (hw' : Full C vals w') : JRel Wg w w' :=
  ⟨h.size, fun b h1 => by
    by_cases hb : b = C
    · subst hb; exact (full_at hw').trans (full_at hw).symm
    · exact h.block b h1 hb, h.os, h.tape, h.output⟩

/-- A family's open limb, strictly. -/
@[reducible] def strict (Wg C B : Nat) (hW : Wg < B) (hC : C < B) : Shy Wg C where
  ok act := (∀ x, act.touch? = some x → ∃ a, x.loc = .cell a ∧ (a.block = Wg ∨ a.block = C)) ∧ act.low B
  atomicWg a wr h := ⟨fun x hx => by simp only [MemAct.touch?, Option.some.injEq] at hx; subst hx; exact ⟨a, rfl, .inl h⟩, by show a.block < B; omega⟩
  readWg a h := ⟨fun x hx => by simp only [MemAct.touch?, Option.some.injEq] at hx; subst hx; exact ⟨a, rfl, .inl h⟩, by show a.block < B; omega⟩
  writeWg a h := ⟨fun x hx => by simp only [MemAct.touch?, Option.some.injEq] at hx; subst hx; exact ⟨a, rfl, .inl h⟩, by show a.block < B; omega⟩
  theirs a wr h := ⟨fun x hx => by simp only [MemAct.touch?, Option.some.injEq] at hx; subst hx; exact ⟨a, rfl, .inr h⟩, by show a.block < B; omega⟩
  disable := ⟨fun x hx => (by cases hx), trivial⟩
  enable := ⟨fun x hx => (by cases hx), trivial⟩
  relMerge := ⟨fun x hx => (by cases hx), hW⟩
  acquire := ⟨fun x hx => (by cases hx), hW⟩
  go1 := ⟨fun x hx => (by cases hx), trivial⟩
  start := ⟨fun x hx => (by cases hx), trivial⟩
  stop _ _ := True

/-- The worker enters 'Done'. -/
def AtDone (P : Program) (ty : TypeId) (Wg : Nat) (K : Ctx) (b : Goroutine) (w : World) : Prop :=
  b.status = .running ∧ ∃ (pl : Payload) (C : Nat) (vals : List Value), C ≠ Wg ∧ K.base ≤ C ∧ K.own C ∧ Full C vals w ∧
    ∀ (sh : Shy Wg C) (Mine : Loc → Prop), KCa ty Wg w → ∃ m, Goes P false (RCa ty Wg w.heap.size) (DCs Mine Wg C) (Go.ConcX.AtR0 P ty Wg C w.heap.size vals) m b w

section
variable {P : Program} {ty : TypeId} {Wg j : Nat} {Fin : Goroutine → Prop} {Shun : Loc → Prop} {reg : Bool} {st : Int} {d0 d1 r n : Nat} {rel : Option Nat} {gs : Array Goroutine} {w : World} {sl : Option (Nat × Nat)} {t : Trace} {a b : Goroutine} {q : Nat → Nat}

section
variable (hj0 : j ≠ 0) (hSW : ∀ l, Shun l → ¬ OfWg Wg l) (N0 : Nat) (w0 : World)
include hj0 hSW

/-- Inside 'Done', up to the release. -/
theorem st1 [pl : Payload] {C : Nat} (hCW : C ≠ Wg) {Low : Nat} (hW : Wg < Low) (hC : C < Low) (hLow : w0.heap.size = Low) (hCS : ∀ x : Addr, x.block = C → ¬ Shun (.cell x)) {vals : List Value} (hF0 : Full C vals w0) {Mine : Loc → Prop} :
    ∀ (m : Nat) (gs : Array Goroutine) (w : World) (sl : Option (Nat × Nat)) (t : Trace) (q : Nat → Nat) (a b : Goroutine) (reg : Bool) (st : Int) (d0 r n : Nat), gs.size = N0 → JRelC Wg C w0 w → (reg = true → st = KK + 1) →
      Goes P false (RCa ty Wg Low) (@DCs Mine Wg C (strict Wg C Low hW hC)) (@Go.ConcX.AtR0 pl P ty Wg C Low vals) m b w →
      PA P ty Wg j Fin Shun reg st d0 0 r n none gs w t a b q → Reaches P gs w sl t (Joined P ty Wg Fin Shun N0 w0) := by
  intro m
  induction m with
  | zero => exact fun gs w sl t q a b reg st d0 r n hN hR hk hG h => fin gs w sl t q a b reg st d0 r n hN hR hk hG h
  | succ m ih =>
    intro gs w sl t q a b reg st d0 r n hN hR hk hG h
    rcases Goes.cases hG with hs | ⟨m', hm, hs⟩
    · exact fin gs w sl t q a b reg st d0 r n hN hR hk hs h
    · cases hm
      refine worker_go hj0 hSW h fun gs1 w1 sl1 t1 reg1 st1 d01 r1 n1 a1 q1 hN1 hR1 hrs hPA => ?_
      have hk1 := one_or hk hrs
      obtain ⟨b', w2, es, h1, ⟨hA, hE⟩, h2⟩ := hs w1 (rca_of hk1 hPA hR1)
      have hR2 : JRelC Wg C w0 w2 := (hR.trans (hR1.toC C)).trans ⟨hA.size, fun x _ hx => hA.block x hx, hA.os, hA.tape, hA.output⟩
      have hrun : b'.status = .running := Goes.running (fun _ _ x => x.1) w2 (Go.ConcX.RCa.refl w2) h2
      have hd : deafBehind 0 es = 0 := deaf_still (fun e he => ⟨(hE e he).2.1, (hE e he).2.2.1⟩) 0
      have hg : WgAt ty Wg w2 st1 0 := (hA.block Wg (Ne.symm hCW)).trans hPA.grp
      have hP' := hPA.tr.worker (fn := b.frame.fn) (pos := b.frame.place) (B' := w2.heap.size) hj0 (by rw [hA.size]; exact Nat.le_refl _) hSW (es := es) (fun e he x hx => by
        obtain ⟨_, hf, _, hok⟩ := (hE e he).1 0 ""
        obtain ⟨_, hx1, hx2⟩ := hf x hx
        obtain ⟨y, hy, hyb⟩ := hok.1 x hx
        by_cases hyw : y.block = Wg
        · have ho : OfWg Wg x.loc := ⟨y, hy, hyw⟩
          obtain ⟨hp, hs⟩ := hx1 (.inl ho)
          refine .inr ⟨ho, ?_⟩
          cases hkx : x.kind with
          | atomic => rfl
          | plain => exact absurd hkx hp
          | said => exact absurd (hs hkx) (by omega)
        · have hyc : y.block = C := hyb.resolve_left hyw
          exact .inl ⟨by rw [hy]; exact hCS y hyc, fun ⟨z, hz, hzb⟩ => by rw [hy] at hz; cases hz; exact hyw hzb⟩) (fun e he => by
        have := ((hE e he).1 0 "").2.2.2.2
        rw [show w2.heap.size = Low by rw [hR2.size, hLow]]
        exact this) (rel' := none) (fun r hr => by cases hr)
      obtain ⟨r2, n2, h3⟩ := hPA.work (rel' := none) hj0 hrun hg hPA.st0 hP'
      rw [hd] at h3
      exact ⟨b', w2, es, h1, ih _ w2 sl1 _ q1 _ b' reg1 st1 d01 r2 n2 (gs_size.trans (hN1.trans hN)) hR2 hk1 h2 h3⟩
where
  fin (gs : Array Goroutine) (w : World) (sl : Option (Nat × Nat)) (t : Trace) (q : Nat → Nat) (a b : Goroutine) (reg : Bool) (st : Int) (d0 r n : Nat) (hN : gs.size = N0) (hR : JRelC Wg C w0 w) (hk : reg = true → st = KK + 1)
      (hG : ∀ w₁, RCa ty Wg Low w w₁ → @Go.ConcX.AtR0 pl P ty Wg C Low vals b w₁) (h : PA P ty Wg j Fin Shun reg st d0 0 r n none gs w t a b q) : Reaches P gs w sl t (Joined P ty Wg Fin Shun N0 w0) := by
    refine worker_go hj0 hSW h fun gs1 w1 sl1 t1 reg1 st1 d01 r1 n1 a1 q1 hN1 hR1 hrs hPA => ?_
    have hk1 := one_or hk hrs
    obtain ⟨_, hF, b', h1, m, h2⟩ := hG w1 (rca_of hk1 hPA hR1)
    have hrun : b'.status = .running := Goes.running (fun _ _ x => x.1) _ (Go.ConcX.RCa.refl _) h2
    have hP' := hPA.tr.release (fn := b.frame.fn) (pos := b.frame.place) hj0 hSW (wg_lt hPA.grp)
    obtain ⟨r2, n2, h3⟩ := hPA.work (es := #[mkE (.releaseMerge (stA Wg))]) (w2 := w1) (rel' := some t1.size) hj0 hrun hPA.grp hPA.st0 hP'
    exact ⟨b', _, _, h1, st2 (Fin := Fin) (ty := ty) hj0 hSW N0 w0 Low t1.size m _ _ sl1 _ q1 _ b' reg1 st1 d01 r2 n2 (gs_size.trans (hN1.trans hN)) ((hR.trans (hR1.toC C)).toJ hF0 hF) hk1 h2 h3⟩
end

/-- What the joiner has come to, the worker's last words ahead of 'Done' beside it. -/
def Joined0 (P : Program) (ty : TypeId) (Wg : Nat) (Fin : Goroutine → Prop) (Shun : Loc → Prop) (N : Nat) (Stop : Nat → Goroutine → World → Prop) : Array Goroutine → World → Option (Nat × Nat) → Trace → Prop := fun gs w sl t =>
  ∃ b ws, Stop 0 b ws ∧ Joined P ty Wg Fin Shun N ws gs w sl t

/-- THE WORKER's WHOLE LIFE BESIDE THE JOINER. -/
theorem st0 (hj0 : j ≠ 0) (hSW : ∀ l, Shun l → ¬ OfWg Wg l) {K : Ctx} (hA : Away K Shun) (hWg : ¬ K.own Wg) (hKW : K.base ≤ Wg) (N0 : Nat) {Stop : Nat → Goroutine → World → Prop} (hStop : ∀ d b w, Stop d b w → d = 0 ∧ AtDone P ty Wg K b w)
    {d : Nat} {b : Goroutine} {w : World} (hwalk : Walk P false K Stop d b w) : ∀ (gs : Array Goroutine) (sl : Option (Nat × Nat)) (t : Trace) (q : Nat → Nat) (a : Goroutine) (reg : Bool) (st : Int) (d0 r n : Nat) (w₁ : World), Rely K w w₁ → gs.size = N0 → (reg = true → st = KK + 1) →
      PA P ty Wg j Fin Shun reg st d0 d r n none gs w₁ t a b q → Reaches P gs w₁ sl t (Joined0 P ty Wg Fin Shun N0 Stop) := by
  have hrel : ∀ {w w₁ : World}, JRel Wg w w₁ → Rely K w w₁ := fun h => ⟨h.size, fun x _ hx => h.block x fun e => hWg (e ▸ hx), fun x hx => h.block x (by omega), h.os, h.tape, h.output⟩
  induction hwalk with
  | @stop d b w h =>
    intro gs sl t q a reg st d0 r n w₁ hr hN hk hPA
    have hS := h w₁ hr
    obtain ⟨rfl, hrun, pl, C, vals, hCW, hCb, hCo, hF, hG⟩ := hStop _ _ _ hS
    have hC : C < w₁.heap.size := (Array.getElem?_eq_some_iff.1 (full_at hF)).1
    have hW := wg_lt hPA.grp
    have hK : KCa ty Wg w₁ := by
      cases hr : reg with
      | false => left; rw [← hPA.st0 hr]; exact hPA.grp
      | true => right; rw [← hk hr]; exact hPA.grp
    obtain ⟨m, hG⟩ := hG (strict Wg C _ hW hC) (fun _ => True) hK
    refine Reaches.then (st1 (Fin := Fin) hj0 hSW N0 w₁ hCW hW hC rfl (fun x hx hs => hA _ C hs (by simp [blockOf, hx]) ⟨hCb, hCo⟩) hF m gs w₁ sl t q a b reg st d0 r n hN ((JRel.refl w₁).toC C) hk hG hPA) ?_
    exact fun gs w sl t hJ => .here ⟨b, w₁, hS, hJ⟩
  | @step d b w g' w' es hrun hst hw ih =>
    intro gs sl t q a reg st d0 r n w₁ hr hN hk hPA
    refine worker_go hj0 hSW hPA fun gs1 w2 sl1 t1 reg1 st1 d01 r1 n1 a1 q1 hN1 hR1 hrs hPA => ?_
    have hk1 := one_or hk hrs
    have hr2 : Rely K w w2 := hr.trans (hrel hR1)
    obtain ⟨h1, h2⟩ := hst w2 hr2
    have hg : WgAt ty Wg (w' w2) st1 0 := (h2.kept Wg (wg_lt hPA.grp) (fun x => hWg x.2)).trans hPA.grp
    have hrun' : (g' w2).status = .running := by
      cases hw w2 hr2 with
      | stop h => exact (hStop _ _ _ (h _ (Rely.refl _))).2.1
      | step _ _ _ h => exact h
    have hP' := hPA.tr.worker (fn := b.frame.fn) (pos := b.frame.place) (B' := (w' w2).heap.size) hj0 h2.size hSW (es := es w2) (fun e he x hx => by
      obtain ⟨y, hy, hy1, hy2, _⟩ := evG_touch (h2.evs e he) hx
      refine .inl ⟨fun hs => hA _ y hs hy ⟨hy1, hy2⟩, fun ⟨z, hz, hzb⟩ => ?_⟩
      rw [hz] at hy
      simp only [blockOf, Option.some.injEq] at hy
      exact hWg (by rw [← hzb, hy]; exact hy2)) (fun e he => evG_low (h2.evs e he)) (rel' := none) (fun r hr => by cases hr)
    obtain ⟨r2, n2, h3⟩ := hPA.work (rel' := none) hj0 hrun' hg hPA.st0 hP'
    exact ⟨g' w2, w' w2, es w2, h1, ih w2 hr2 _ sl1 _ q1 _ reg1 st1 d01 r2 n2 (w' w2) (Rely.refl _) (gs_size.trans (hN1.trans hN)) hk1 h3⟩
end
end Go.Ev
/- A stack that is gone through from outside: the activations that are looked into, step by step; all others at once. -/
namespace Go.Ev
open Go.Conc (G)

structure OS where
  f : AF
  k : List (AF × Option Tmp)
  h : AH

noncomputable def resO (f : AF) (d : Option Tmp) (v : AV) : AF := match f with | ⟨x, tm, td, ds, _⟩ => ⟨x, fin x d v tm, td, ds, false⟩

/-- All orders of what is left. -/
def allLin (ops : Array Oper) : Nat → Array Bool → List (List Nat)
  | 0, _ => [[]]
  | n + 1, listed => match Region.ready .any ops listed with
    | [] => [[]]
    | i :: l => (i :: l).flatMap fun i => (allLin ops n (listed.setIfInBounds i true)).map (i :: ·)
def listedTo (ops : Array Oper) (n : Nat) : Array Bool := (Array.range ops.size).map fun i => decide (i < n)
def lins (ops : Array Oper) (n : Nat) : List (List Nat) := allLin ops ops.size (listedTo ops n)

/-- Quiet operations, as far as there are such. -/
noncomputable def runQ (E : Env) (x : AX) (ops : Array Oper) (h : AH) : List Nat → Tr AV → Tr AV × List Nat
  | [], tm => (tm, [])
  | i :: l, tm => match ops[i]? with
    | none => (tm, i :: l)
    | some o => match wantedA o ops tm with
      | none => (tm, i :: l)
      | some false => runQ E x ops h l (fin x o.dst undefA tm)
      | some true => match quietOp o.op E tm h with
        | some v => runQ E x ops h l (fin x o.dst v tm)
        | none => (tm, i :: l)
/-- Operations that call nothing. -/
noncomputable def runL (E : Env) (x : AX) (ops : Array Oper) : List Nat → Tr AV → AH → Option (Tr AV × AH)
  | [], tm, h => some (tm, h)
  | i :: l, tm, h => match ops[i]? with
    | none => none
    | some o => match wantedA o ops tm with
      | none => none
      | some false => runL E x ops l (fin x o.dst undefA tm) h
      | some true => match quietOp o.op E tm h with
        | some v => runL E x ops l (fin x o.dst v tm) h
        | none => match loudOp o.op E tm h with
          | some (.val v h') => runL E x ops l (fin x o.dst v tm) h'
          | _ => none

mutual
def AV.eqv : AV → AV → Bool
  | .any, .any => true
  | .one, .one => true
  | .bool a, .bool b => a == b
  | .int k a, .int j b => k == j && a == b
  | .str a, .str b => a == b
  | .nilp, .nilp => true
  | .ptr a b, .ptr c d => Nat.beq a c && Nat.beq b d
  | .nils, .nils => true
  | .emp, .emp => true
  | .sl a b c d, .sl x y z u => Nat.beq a x && Nat.beq b y && Nat.beq c z && d == u
  | .nilm, .nilm => true
  | .map a, .map b => Nat.beq a b
  | .nilf, .nilf => true
  | .fn f a b, .fn g c d => Nat.beq f g && AV.eqvL a c && AV.eqvL b d
  | .yield a, .yield b => Nat.beq a b
  | .nili, .nili => true
  | .iface t a, .iface u b => Nat.beq t u && AV.eqv a b
  | .agg a, .agg b => AV.eqvL a b
  | .tup a, .tup b => AV.eqvL a b
  | _, _ => false
def AV.eqvL : List AV → List AV → Bool
  | [], [] => true
  | a :: l, b :: m => AV.eqv a b && AV.eqvL l m
  | _, _ => false
end
def Tr.eqv : Tr AV → Tr AV → Bool
  | .e, .e => true
  | .n l v r, .n l' v' r' => Tr.eqv l l' && (match v, v' with | none, none => true | some a, some b => AV.eqv a b | _, _ => false) && Tr.eqv r r'
  | _, _ => false
def natsB : List Nat → List Nat → Bool
  | [], [] => true
  | a :: l, b :: m => Nat.beq a b && natsB l m
  | _, _ => false

/-- What is left of a region that draws its order, in whatever order. -/
noncomputable def sufO (E : Env) (x : AX) (ops : Array Oper) (n : Nat) (tm : Tr AV) (h : AH) : Option (Tr AV × AH) :=
  match lins ops n with
  | [] => none
  | l0 :: ls => cond (ls.all fun l => natsB (runQ E x ops h l tm).2 (runQ E x ops h l0 tm).2 && Tr.eqv (runQ E x ops h l tm).1 (runQ E x ops h l0 tm).1) (runL E x ops (runQ E x ops h l0 tm).2 (runQ E x ops h l0 tm).1 h) none

/-- A call of a function that is looked into. -/
def outAt (out : List FuncId) (ops : Array Oper) : Option Nat :=
  ops.toList.findIdx? fun o => match o.op with | .call c => (match c.callee with | .value (.func g) => out.any (Nat.beq g) | _ => false) | _ => false
/-- All ahead of j stand surely ahead of it, all others surely behind it. -/
def barB (ops : Array Oper) (b : Array Nat) (j : Nat) : Bool :=
  (List.range ops.size).all fun i => cond (Nat.blt i j) true ((List.range (cond (Nat.beq i j) j (j + 1))).all fun p => (b.getD i 0).testBit p)

noncomputable def partO (E : Env) (r : RunF) (out : List FuncId) (j : Nat) (x : AX) (tm : Tr AV) (ops : Array Oper) (k0 : List AI) (ds : List AD) (k : List (AF × Option Tmp)) (h : AH) : Option OS :=
  cond (barB ops (Region.before ops) j) (match runD E r x (Region.before ops) ops h (ops.toList.take j) 0 tm [] [] [] h, ops[j]? with
    | some p, some o => (match wantedA o ops p.1, loudOp o.op E p.1 p.2 with
      | some true, some (.call g args) => cond (out.any (Nat.beq g)) (match enterA E g args false with | some f2 => some ⟨f2, (⟨x, p.1, .inDrawn ops (j + 1) :: k0, ds, false⟩, o.dst) :: k, p.2⟩ | none => none) none
      | _, _ => none)
    | _, _ => none) none

noncomputable def stepO (E : Env) (r : RunF) (out : List FuncId) (s : OS) : Option OS :=
  match s with
  | ⟨f, k, h⟩ => match stepA E f h with
    | some (.go f' h') => some ⟨f', k, h'⟩
    | some (.call f' d g args h') => cond (out.any (Nat.beq g))
      (match enterA E g args false with | some f2 => some ⟨f2, (f', d) :: k, h'⟩ | none => none)
      (match runC E r g args false h' with | some p => some ⟨resO f' d p.1, k, p.2⟩ | none => none)
    | some (.dcall f' g args h') => cond (out.any (Nat.beq g)) none (match runC E r g args true h' with | some p => some ⟨f', k, p.2⟩ | none => none)
    | some (.drawn x tm ops k0 ds h') => cond (regOk ops.toList (Region.before ops) ops) (match outAt out ops with
      | some j => partO E r out j x tm ops k0 ds k h'
      | none => (match runD E r x (Region.before ops) ops h' ops.toList 0 tm [] [] [] h' with
        | some p => some ⟨⟨x, p.1, k0, ds, false⟩, k, p.2⟩
        | none => none)) none
    | some (.ret v h') => (match k with
      | (f', d) :: k' => cond f.x.deferred none (some ⟨resO f' d v, k', h'⟩)
      | [] => none)
    | none => (match f with
      | ⟨x, tm, .inDrawn ops n :: k0, ds, false⟩ => (match sufO E x ops n tm h with
        | some p => some ⟨⟨x, p.1, k0, ds, false⟩, k, p.2⟩
        | none => none)
      | _ => none)
    | _ => none

mutual
theorem AV.eqv_eq : ∀ {a b : AV}, AV.eqv a b = true → a = b
  | .any, .any, _ => rfl
  | .one, .one, _ => rfl
  | .bool a, .bool b, h => by simp [AV.eqv] at h; rw [h]
  | .int k a, .int j b, h => by
    simp only [AV.eqv, Bool.and_eq_true] at h
    have h1 : k = j := by have := h.1; revert this; cases k <;> cases j <;> first | (intro _; rfl) | (intro h; cases h)
    have h2 : a = b := by simpa using h.2
    rw [h1, h2]
  | .str a, .str b, h => by simp [AV.eqv] at h; rw [h]
  | .nilp, .nilp, _ => rfl
  | .ptr a b, .ptr c d, h => by
    simp only [AV.eqv, Bool.and_eq_true] at h
    rw [Nat.eq_of_beq_eq_true h.1, Nat.eq_of_beq_eq_true h.2]
  | .nils, .nils, _ => rfl
  | .emp, .emp, _ => rfl
  | .sl a b c d, .sl x y z u, h => by
    simp only [AV.eqv, Bool.and_eq_true] at h
    rw [Nat.eq_of_beq_eq_true h.1.1.1, Nat.eq_of_beq_eq_true h.1.1.2, Nat.eq_of_beq_eq_true h.1.2, show d = u by simpa using h.2]
  | .nilm, .nilm, _ => rfl
  | .map a, .map b, h => by simp only [AV.eqv] at h; rw [Nat.eq_of_beq_eq_true h]
  | .nilf, .nilf, _ => rfl
  | .fn f a b, .fn g c d, h => by
    simp only [AV.eqv, Bool.and_eq_true] at h
    rw [Nat.eq_of_beq_eq_true h.1.1, AV.eqvL_eq h.1.2, AV.eqvL_eq h.2]
  | .yield a, .yield b, h => by simp only [AV.eqv] at h; rw [Nat.eq_of_beq_eq_true h]
  | .nili, .nili, _ => rfl
  | .iface t a, .iface u b, h => by
    simp only [AV.eqv, Bool.and_eq_true] at h
    rw [Nat.eq_of_beq_eq_true h.1, AV.eqv_eq h.2]
  | .agg a, .agg b, h => by simp only [AV.eqv] at h; rw [AV.eqvL_eq h]
  | .tup a, .tup b, h => by simp only [AV.eqv] at h; rw [AV.eqvL_eq h]
theorem AV.eqvL_eq : ∀ {a b : List AV}, AV.eqvL a b = true → a = b
  | [], [], _ => rfl
  | a :: l, b :: m, h => by
    simp only [AV.eqvL, Bool.and_eq_true] at h
    rw [AV.eqv_eq h.1, AV.eqvL_eq h.2]
end
theorem Tr.eqv_eq : ∀ {a b : Tr AV}, Tr.eqv a b = true → a = b
  | .e, .e, _ => rfl
  | .n l v r, .n l' v' r', h => by
    simp only [Tr.eqv, Bool.and_eq_true] at h
    rw [Tr.eqv_eq h.1.1, Tr.eqv_eq h.2]
    have h2 := h.1.2
    cases v with
    | none => cases v' with
      | none => rfl
      | some b => cases h2
    | some a => cases v' with
      | none => cases h2
      | some b => rw [AV.eqv_eq h2]
theorem natsB_eq : ∀ {a b : List Nat}, natsB a b = true → a = b
  | [], [], _ => rfl
  | a :: l, b :: m, h => by
    simp only [natsB, Bool.and_eq_true] at h
    rw [Nat.eq_of_beq_eq_true h.1, natsB_eq h.2]

theorem allLin_mem {ops : Array Oper} : ∀ (fuel t : Nat) (listed : Array Bool) (F : Nat), listed.size = ops.size → left' ops.size listed ≤ fuel → left' ops.size listed ≤ F → Region.linearise.go .any ops fuel t listed [] ∈ allLin ops F listed := by
  intro fuel
  induction fuel with
  | zero =>
    intro t listed F hs hl _
    have hr : Region.ready .any ops listed = [] := by
      cases hr : Region.ready .any ops listed with
      | nil => rfl
      | cons i l =>
        obtain ⟨h1, h2, _⟩ := (mem_ready hs (i := i)).1 (by rw [hr]; simp)
        have : i ∈ (List.range ops.size).filter fun i => Dl listed i == false := List.mem_filter.2 ⟨List.mem_range.2 h1, by rw [h2]; rfl⟩
        have := List.length_pos_of_mem this
        unfold left' at hl; omega
    have : Region.linearise.go .any ops 0 t listed [] = [] := rfl
    rw [this]
    cases F with
    | zero => simp [allLin]
    | succ F => unfold allLin; rw [hr]; simp
  | succ fuel ih =>
    intro t listed F hs hl hF
    rcases go_cases ops fuel t listed with ⟨h1, h2⟩ | ⟨i, h1, h2⟩
    · rw [h2]
      cases F with
      | zero => simp [allLin]
      | succ F => unfold allLin; rw [h1]; simp
    · rw [h2]
      obtain ⟨h3, h4, _⟩ := (mem_ready hs).1 h1
      have hlt := left_set h3 hs h4
      cases F with
      | zero => omega
      | succ F =>
        unfold allLin
        have hm := ih (t / (Region.ready .any ops listed).length) (listed.setIfInBounds i true) F (by simp [hs]) (by omega) (by omega)
        cases hr : Region.ready .any ops listed with
        | nil => rw [hr] at h1; simp at h1
        | cons a l =>
          simp only
          rw [hr] at h1 hm
          exact List.mem_flatMap.2 ⟨i, h1, List.mem_map.2 ⟨_, hm, rfl⟩⟩

theorem lins_mem {ops : Array Oper} {n : Nat} {rest : List Nat} (h : Left ops n rest) : rest ∈ lins ops n := by
  obtain ⟨fuel, t, listed, hs, hl, hD, rfl⟩ := h
  have e : listed = listedTo ops n := by
    apply Array.ext
    · simp [listedTo, hs]
    · intro i h1 h2
      have := hD i
      unfold Dl at this
      rw [Array.getD_eq_getD_getElem?, Array.getElem?_eq_getElem h1] at this
      simp only [Option.getD_some] at this
      rw [this]; simp [listedTo]
  have hle : left' ops.size listed ≤ ops.size := by
    unfold left'
    exact Nat.le_trans (List.length_filter_le _ _) (by simp)
  unfold lins
  rw [← e]
  exact allLin_mem fuel t listed ops.size hs hl hle

theorem left_next {ops : Array Oper} (R : RegFacts ops) {j : Nat} (hj : j < ops.size) (hbar : ∀ i, j < i → i < ops.size → Bf ops i j) {rest : List Nat} (h : Left ops j rest) : ∃ rest', rest = j :: rest' ∧ Left ops (j + 1) rest' := by
  obtain ⟨fuel, t, listed, hs, hl, hD, rfl⟩ := h
  have hDj : Dl listed j = false := by rw [hD j]; simp
  cases fuel with
  | zero =>
    have : j ∈ (List.range ops.size).filter fun i => Dl listed i == false := List.mem_filter.2 ⟨List.mem_range.2 hj, by rw [hDj]; rfl⟩
    have := List.length_pos_of_mem this
    unfold left' at hl; omega
  | succ fuel =>
    rcases go_cases ops fuel t listed with ⟨h1, h2⟩ | ⟨i, h1, h2⟩
    · have := all_listed R hs h1 j hj
      rw [hDj] at this; cases this
    · obtain ⟨h3, h4, o, ho, h5⟩ := (mem_ready hs).1 h1
      have hi : i = j := by
        rcases Nat.lt_trichotomy i j with h | h | h
        · rw [hD i] at h4; simp at h4; omega
        · exact h
        · have hb := hbar i h h3
          obtain ⟨e, he, hbi, hh⟩ := before_edge ho hb
          have hDe := h5 e he hbi
          rw [hD] at hDe
          have hDe := of_decide_eq_true hDe
          rcases hh with hh | ⟨_, hh⟩
          · omega
          · have := before_lt R e.on j hh; omega
      subst hi
      refine ⟨_, h2, fuel, _, listed.setIfInBounds i true, by simp [hs], by have := left_set h3 hs h4; omega, fun l => ?_, rfl⟩
      rw [Dl_set (by rw [hs]; exact h3)]
      unfold addD
      rw [hD l]
      by_cases hl : l = i
      · subst hl; simp
      · have : (l == i) = false := by simp [hl]
        rw [this, Bool.or_false]
        by_cases h : l < i
        · simp [h]; omega
        · simp [h]; omega

def RSo (ι : Nm) : List (AF × Option Tmp) → List Frame → Prop
  | [], frs => frs = []
  | (f, d) :: k, frs => ∃ fr r, frs = fr :: r ∧ Waits ι f d fr ∧ RSo ι k r

/-- No name is in use from here on. -/
def Bare (ι : Nm) (n : Nat) : Prop := ∀ i, n ≤ i → ι i = none

/-- Where the stack is. -/
def OAt (K : Ctx) (ι0 : Nm) (cs : List Frame) (s : OS) (d : Nat) (g : Goroutine) (w : World) : Prop :=
  ∃ ι fr frs, g = G fr (frs ++ cs) ∧ Bare ι s.h.nx ∧ RF ι s.f fr ∧ RSo ι s.k frs ∧ Sat K ι s.h w ∧ d = s.h.df ∧ Ext ι0 ι

theorem Bare.free {ι : Nm} {n m : Nat} (h : Bare ι n) : Free ι n m := fun i hi _ => h i hi
theorem Bare.grow {ι ι' : Nm} {n n' : Nat} (h : Bare ι n) (g : Grow ι ι' n n') : Bare ι' n' := fun i hi => by rw [g.same i (.inr hi)]; exact h i (by have := g.le; omega)
theorem RSo.mono {ι ι' : Nm} (he : Ext ι ι') : ∀ {k : List (AF × Option Tmp)} {frs : List Frame}, RSo ι k frs → RSo ι' k frs
  | [], _, h => h
  | (f, d) :: k, frs, ⟨fr, r, h1, h2, h3⟩ => ⟨fr, r, h1, fun ι'' v u he' hv => h2 ι'' v u (fun i p hp => he' i p (he i p hp)) hv, h3.mono he⟩

section
variable {P : Program} {main : Bool} {K : Ctx} {ι0 : Nm} {E : Env} {cs : List Frame} {out : List FuncId}

section
variable {x : AX} {ops : Array Oper} {ds : List AD} {k' : List Item}
theorem runQ_ok (F : Fits P E) (hP : K.P = P) : ∀ (l : List Nat) (tm : Tr AV) {ι : Nm} {h : AH} {w : World} {fr : Frame}, Sat K ι h w → AtRest ι x tm ds ops l k' fr →
    Walk P main K (AtOpEnd K ι h.nx x (runQ E x ops h l tm).1 ds ops (runQ E x ops h l tm).2 k' cs h) h.df (G fr cs) w
  | [], tm, ι, h, w, fr, S, H => .stop fun w₁ hr => ⟨ι, fr, rfl, Grow.refl _ _, S.rely hr, H, rfl⟩
  | i :: l, tm, ι, h, w, fr, S, H => by
    have hA : AtOp ι x tm ds ops i l k' fr := ⟨H.fn, H.tm, H.todo, H.ds, H.mode, H.kind, H.round⟩
    have still : Walk P main K (AtOpEnd K ι h.nx x tm ds ops (i :: l) k' cs h) h.df (G fr cs) w := .stop fun w₁ hr => ⟨ι, fr, rfl, Grow.refl _ _, S.rely hr, H, rfl⟩
    have next : ∀ {tm' : Tr AV}, Walk P main K (AtOpEnd K ι h.nx x tm' ds ops l k' cs h) h.df (G fr cs) w → Walk P main K (AtOpEnd K ι h.nx x (runQ E x ops h l tm').1 ds ops (runQ E x ops h l tm').2 k' cs h) h.df (G fr cs) w := fun {tm'} W => by
      refine W.bind ?_
      rintro d g w' ⟨ι', fr', rfl, g1, g2, g3, rfl⟩
      refine (runQ_ok F hP l tm' g2 g3).mono ?_
      rintro d g w'' ⟨ι'', fr'', rfl, j1, j2, j3, rfl⟩
      exact ⟨ι'', fr'', rfl, g1.trans j1, j2, j3, rfl⟩
    unfold runQ
    cases ho : ops[i]? with
    | none => exact still
    | some o =>
      simp only
      cases hw : wantedA o ops tm with
      | none => exact still
      | some b =>
        cases b with
        | false =>
          refine next (Walk.of rfl fun w₁ hr => ⟨_, w₁, #[], step_none hA (fun o' ho' => ?_), FineG.refl w₁, .stop fun w₂ hr₂ => ⟨ι, _, rfl, Grow.refl _ _, (S.rely hr).rely hr₂, hA.finish ho (Ext.refl ι) RV_undef, rfl⟩⟩)
          rw [ho] at ho'; cases ho'
          exact wanted_ok H.tm hw
        | true =>
          simp only
          cases hq : quietOp o.op E tm h with
          | none => exact still
          | some v => exact next (goTo_end (fun w₁ hr => quiet_step hP F (S.rely hr) hA ho (wanted_ok H.tm hw) hq) (fun j h1 h2 => by omega))

theorem runL_ok (F : Fits P E) (hP : K.P = P) : ∀ (l : List Nat) (tm : Tr AV) {ι : Nm} {h : AH} {w : World} {fr : Frame} {p : Tr AV × AH}, Sat K ι h w → Bare ι h.nx → AtRest ι x tm ds ops l k' fr → runL E x ops l tm h = some p →
    Walk P main K (AtOpEnd K ι h.nx x p.1 ds ops [] k' cs p.2) h.df (G fr cs) w
  | [], tm, ι, h, w, fr, p, S, hB, H, e => by
    simp only [runL, Option.some.injEq] at e
    subst e
    exact .stop fun w₁ hr => ⟨ι, fr, rfl, Grow.refl _ _, S.rely hr, H, rfl⟩
  | i :: l, tm, ι, h, w, fr, p, S, hB, H, e => by
    have hA : AtOp ι x tm ds ops i l k' fr := ⟨H.fn, H.tm, H.todo, H.ds, H.mode, H.kind, H.round⟩
    have next : ∀ {tm' : Tr AV} {h' : AH}, runL E x ops l tm' h' = some p → Walk P main K (AtOpEnd K ι h.nx x tm' ds ops l k' cs h') h.df (G fr cs) w → Walk P main K (AtOpEnd K ι h.nx x p.1 ds ops [] k' cs p.2) h.df (G fr cs) w := fun {tm' h'} e' W => by
      refine W.bind ?_
      rintro d g w' ⟨ι', fr', rfl, g1, g2, g3, rfl⟩
      refine (runL_ok F hP l tm' g2 (hB.grow g1) g3 e').mono ?_
      rintro d g w'' ⟨ι'', fr'', rfl, j1, j2, j3, rfl⟩
      exact ⟨ι'', fr'', rfl, g1.trans j1, j2, j3, rfl⟩
    unfold runL at e
    cases ho : ops[i]? with
    | none => rw [ho] at e; cases e
    | some o =>
      rw [ho] at e
      simp only at e
      cases hw : wantedA o ops tm with
      | none => rw [hw] at e; cases e
      | some b =>
        rw [hw] at e
        cases b with
        | false =>
          refine next e (Walk.of rfl fun w₁ hr => ⟨_, w₁, #[], step_none hA (fun o' ho' => ?_), FineG.refl w₁, .stop fun w₂ hr₂ => ⟨ι, _, rfl, Grow.refl _ _, (S.rely hr).rely hr₂, hA.finish ho (Ext.refl ι) RV_undef, rfl⟩⟩)
          rw [ho] at ho'; cases ho'
          exact wanted_ok H.tm hw
        | true =>
          simp only at e
          cases hq : quietOp o.op E tm h with
          | some v =>
            rw [hq] at e
            exact next e (goTo_end (fun w₁ hr => quiet_step hP F (S.rely hr) hA ho (wanted_ok H.tm hw) hq) (fun j h1 h2 => by omega))
          | none =>
            rw [hq] at e
            simp only at e
            split at e
            · rename_i v h' hl
              exact next e (goTo_end (fun w₁ hr => loud_val hP F (S.rely hr) hA ho (wanted_ok H.tm hw) hl) hB.free)
            · cases e

/-- What is left, in whatever order. -/
theorem sufO_ok (F : Fits P E) (hP : K.P = P) {n : Nat} {tm : Tr AV} {ι : Nm} {h : AH} {w : World} {fr : Frame} {rest : List Nat} {p : Tr AV × AH} (S : Sat K ι h w) (hB : Bare ι h.nx) (hl : Left ops n rest) (H : AtRest ι x tm ds ops rest k' fr) (e : sufO E x ops n tm h = some p) :
    Walk P main K (AtOpEnd K ι h.nx x p.1 ds ops [] k' cs p.2) h.df (G fr cs) w := by
  have hm := lins_mem hl
  unfold sufO at e
  split at e
  · cases e
  · rename_i l0 ls hls
    rw [hls] at hm
    obtain ⟨hall, e⟩ := condO_some e
    rw [List.all_eq_true] at hall
    have hsame : (runQ E x ops h rest tm).2 = (runQ E x ops h l0 tm).2 ∧ (runQ E x ops h rest tm).1 = (runQ E x ops h l0 tm).1 := by
      rcases List.mem_cons.1 hm with rfl | hm
      · exact ⟨rfl, rfl⟩
      · have := hall rest hm
        rw [Bool.and_eq_true] at this
        exact ⟨natsB_eq this.1, Tr.eqv_eq this.2⟩
    refine (runQ_ok (main := main) (cs := cs) F hP rest tm S H).bind ?_
    rintro d g w' ⟨ι', fr', rfl, g1, g2, g3, rfl⟩
    rw [hsame.1, hsame.2] at g3
    refine (runL_ok F hP _ _ g2 (hB.grow g1) g3 e).mono ?_
    rintro d g w'' ⟨ι'', fr'', rfl, j1, j2, j3, rfl⟩
    exact ⟨ι'', fr'', rfl, g1.trans j1, j2, j3, rfl⟩
end

theorem stepO_ok (F : Fits P E) (FF : FitsF P E) (hP : K.P = P) (n : Nat) {s s' : OS} (e : stepO E (runF E n) out s = some s') {d : Nat} {g : Goroutine} {w : World} (H : OAt K ι0 cs s d g w) : Walk P main K (OAt K ι0 cs s') d g w := by
  obtain ⟨f, k, h⟩ := s
  obtain ⟨ι, fr, frs, rfl, hB, R, HS, S, rfl, hE0⟩ := H
  have hr := runF_ok (P := P) (main := main) F FF n
  have hup : RunF.Up (runF E n) := runF_up n
  have hD := draw_ok (main := main) F FF hr hup
  unfold stepO at e
  simp only at e R HS S hB
  cases hs : stepA E f h with
  | none =>
    rw [hs] at e
    simp only at e
    split at e
    · rename_i x tm ops m k0 ds
      split at e
      · rename_i p hp
        cases e
        obtain ⟨i, k', ht, ⟨rest, hl, rfl⟩, hk⟩ := R.todo
        have H : AtRest ι x tm ds ops rest k' fr := ⟨R.fn, R.tm, ht, R.ds, by simpa using R.mode, R.kind, R.round⟩
        refine (sufO_ok (main := main) F hP S hB hl H hp).bind ?_
        rintro d g w' ⟨ι', fr', rfl, g1, g2, g3, rfl⟩
        have hE := g1.ext hB.free
        refine Walk.of rfl fun w₃ hr₃ => ?_
        have ht := g3.todo
        have hm := g3.mode
        refine ⟨G { fr' with todo := k' } (frs ++ cs), w₃, #[], by simp [G, stepG, hm, stepG.exec, ht], FineG.refl w₃, .stop fun w₂ hr₂ => ?_⟩
        have R2 : RF ι' ⟨x, p.1, k0, ds, false⟩ { fr' with todo := k' } := ⟨g3.fn, g3.tm, hk.mono hE, g3.ds, by simpa using g3.mode, g3.kind, g3.round⟩
        exact ⟨ι', _, frs, rfl, hB.grow g1, R2, HS.mono hE, (g2.rely hr₃).rely hr₂, rfl, hE0.trans hE⟩
      · cases e
    · cases e
  | some a =>
    rw [hs] at e
    have hx := step_x hs
    refine Walk.of rfl fun w₁ hr₁ => ?_
    have S₁ := S.rely hr₁
    have ok₁ : A1Ok P main K ι h w₁ fr (frs ++ cs) a := step_ok hP F FF S₁ R hs
    cases a with
    | go f' h1 =>
      cases e
      obtain ⟨ι', fr', w', es, k1, k2, k3, k4, k5, k6⟩ := ok₁ hB.free
      exact ⟨_, w', es, k1, k5, .stop fun w₂ hr₂ => ⟨ι', fr', frs, rfl, hB.grow k2, k4, HS.mono (k2.ext hB.free), k3.rely hr₂, k6, hE0.trans (k2.ext hB.free)⟩⟩
    | ret v h1 =>
      obtain ⟨u, w', es, k1, k2, k3, k4, k5, k6⟩ : RetTo P main K ι h w₁ fr (frs ++ cs) v h1 := ok₁
      simp only at e
      cases k with
      | nil => cases e
      | cons p k =>
        obtain ⟨f', d⟩ := p
        simp only at e
        cases hd : f.x.deferred with
        | true => rw [hd] at e; cases e
        | false =>
          rw [hd] at e
          cases e
          obtain ⟨fr1, r1, rfl, hw1, hs1⟩ := HS
          have hk : fr.kind = .normal := by rw [R.kind, hd]; rfl
          rw [List.cons_append, doReturn_back (.inl hk) (fun hx => by rw [hk] at hx; cases hx), hk] at k1
          refine ⟨G (fr1.finish u) (r1 ++ cs), w', es, by rw [List.cons_append, k1]; simp [GStep.after, back], k4, .stop fun w₂ hr₂ => ⟨ι, fr1.finish u, r1, rfl, ?_, ?_, hs1, k2.rely hr₂, k5, hE0⟩⟩
          · show Bare ι h1.nx
            rw [k6]; exact hB
          · obtain ⟨x, tm, td, ds, rt⟩ := f'
            exact hw1 ι v u (fun _ _ h => h) k3
    | call f' d g args h1 =>
      obtain ⟨ι', fr', vs, w', es, k1, k2, k3, k4, ⟨k5, k5'⟩, k6, k7⟩ := ok₁ hB.free
      simp only at e
      cases ho : out.any (Nat.beq g) with
      | true =>
        rw [ho] at e
        simp only [cond_true] at e
        cases he : enterA E g args false with
        | none => rw [he] at e; cases e
        | some f2 =>
          rw [he] at e
          cases e
          exact ⟨_, w', es, k1, k6, .stop fun w₂ hr₂ => ⟨ι', _, fr' :: frs, rfl, hB.grow k2, enter_ok FF he k4 rfl, ⟨fr', frs, rfl, k5, HS.mono (k2.ext hB.free)⟩, k3.rely hr₂, k7, hE0.trans (k2.ext hB.free)⟩⟩
      | false =>
        rw [ho] at e
        simp only [cond_false] at e
        cases hp : runC E (runF E n) g args false h1 with
        | none => rw [hp] at e; cases e
        | some p =>
          rw [hp] at e
          cases e
          refine ⟨_, w', es, k1, k6, ?_⟩
          rw [k7]
          have hB' := hB.grow k2
          refine (runC_ok hr hP FF hp k3 k4 rfl (fun hx => by cases hx) hB'.free).bind ?_
          rintro d' g' w'' ⟨ι'', u, rfl, g1, g2, g3, rfl⟩
          have hE := g1.ext hB'.free
          obtain ⟨x, tm, td, ds, rt⟩ := f'
          exact .stop fun w₂ hr₂ => ⟨ι'', fr'.finish u, frs, rfl, hB'.grow g1, k5 ι'' p.1 u hE g3, (HS.mono (k2.ext hB.free)).mono hE, g2.rely hr₂, rfl, (hE0.trans (k2.ext hB.free)).trans hE⟩
    | dcall f' g args h1 =>
      obtain ⟨ι', fr', vs, w', es, k1, k2, k3, k4, ⟨k5, k5'⟩, k6, k7⟩ := ok₁ hB.free
      simp only at e
      obtain ⟨_, e⟩ := cond_none_some e
      cases hp : runC E (runF E n) g args true h1 with
      | none => rw [hp] at e; cases e
      | some p =>
        rw [hp] at e
        cases e
        refine ⟨_, w', es, k1, k6, ?_⟩
        rw [k7]
        have hB' := hB.grow k2
        refine (runC_ok hr hP FF hp k3 k4 rfl (fun _ e l hm => by rw [k5'] at hm; cases hm) hB'.free).bind ?_
        rintro d' g' w'' ⟨ι'', u, rfl, g1, g2, g3, rfl⟩
        have hE := g1.ext hB'.free
        exact .stop fun w₂ hr₂ => ⟨ι'', fr', frs, rfl, hB'.grow g1, k5.mono hE, (HS.mono (k2.ext hB.free)).mono hE, g2.rely hr₂, rfl, (hE0.trans (k2.ext hB.free)).trans hE⟩
    | drawn x tm ops k0 ds h1 =>
      obtain ⟨rfl, t, d, k', k1, k2, k3⟩ := ok₁
      simp only at e
      cases hb : regOk ops.toList (Region.before ops) ops with
      | false => rw [hb] at e; cases e
      | true =>
        rw [hb] at e
        simp only [cond_true] at e
        split at e
        · -- a call that is looked into
          rename_i j hj
          unfold partO at e
          obtain ⟨hbar, e⟩ := condO_some e
          unfold barB at hbar
          rw [List.all_eq_true] at hbar
          split at e
          · rename_i p o hp ho
            split at e
            · rename_i g args hw hl
              obtain ⟨_, e⟩ := condO_some e
              cases he : enterA E g args false with
              | none => rw [he] at e; cases e
              | some f2 =>
                rw [he] at e
                cases e
                have hjs : j < ops.size := (Array.getElem?_eq_some_iff.1 ho).1
                have hbars : ∀ i, j ≤ i → i < ops.size → ∀ l, l < (if i = j then j else j + 1) → Bf ops i l := fun i h1 h2 l h3 => by
                  have := hbar i (List.mem_range.2 h2)
                  have hlt : Nat.blt i j = false := by cases hb : Nat.blt i j with | false => rfl | true => rw [Nat.blt_eq] at hb; omega
                  rw [hlt, cond_false, List.all_eq_true] at this
                  refine this l (List.mem_range.2 ?_)
                  by_cases hij : i = j
                  · rw [if_pos hij] at h3
                    have : Nat.beq i j = true := by rw [hij]; simp
                    rw [this]; exact h3
                  · rw [if_neg hij] at h3
                    have : Nat.beq i j = false := by cases hb : Nat.beq i j with | false => rfl | true => exact absurd (Nat.eq_of_beq_eq_true hb) hij
                    rw [this]; exact h3
                refine ⟨_, _, #[], k1, FineG.drawn w₁ d, ?_⟩
                have W := draw_part (main := main) (cs := frs ++ cs) F FF hr hup (Nat.le_of_lt hjs) (fun i h1 h2 l h3 => hbars i h1 h2 l (by split <;> omega)) hP (S₁.drawn d) k3 hb hp hB.free
                refine W.bind ?_
                rintro d' g' w'' ⟨rest, hL, ι'', fr'', rfl, j1, j2, j3, rfl⟩
                have hE := j1.ext hB.free
                obtain ⟨rest', rfl, hL'⟩ := left_next (regFacts hb) hjs (fun i h1 h2 => hbars i (Nat.le_of_lt h1) h2 j (by rw [if_neg (by omega)]; omega)) hL
                have hA : AtOp ι'' x p.1 ds ops j rest' k' fr'' := ⟨j3.fn, j3.tm, j3.todo, j3.ds, j3.mode, j3.kind, j3.round⟩
                refine Walk.of rfl fun w₃ hr₃ => ?_
                have S₃ := j2.rely hr₃
                obtain ⟨c, nt, rs, ex, hg⟩ : ∃ c nt rs ex, E.ft.get g = some ⟨some c, nt, rs, ex⟩ := by
                  unfold enterA at he
                  split at he
                  · exact ⟨_, _, _, _, ‹_›⟩
                  · cases he
                obtain ⟨vs, h1, h2⟩ := loud_call (main := main) (cs := frs ++ cs) hP F FF S₃ hA ho (wanted_ok hA.tm hw) hl hg
                refine ⟨_, w₃, #[], h2, FineG.refl w₃, .stop fun w₂ hr₂ => ?_⟩
                refine ⟨ι'', _, fr'' :: frs, rfl, hB.grow j1, enter_ok FF he h1 rfl, ⟨fr'', frs, rfl, fun ι3 v u hE' hv => ?_, HS.mono hE⟩, S₃.rely hr₂, rfl, hE0.trans hE⟩
                have H2 := hA.finish ho hE' hv
                exact ⟨H2.fn, H2.tm, ⟨_, _, H2.todo, ⟨rest', hL', rfl⟩, (k2.mono hE).mono hE'⟩, H2.ds, by simpa using H2.mode, H2.kind, H2.round⟩
            · cases e
          · cases e
        · split at e
          · rename_i p hp
            cases e
            refine ⟨_, _, #[], k1, FineG.drawn w₁ d, ?_⟩
            have W := hD K ι { w₁ with drawn := d } x tm ds ops t k' _ (frs ++ cs) h1 p.1 p.2 hP (S₁.drawn d) k3 hb hp hB.free
            refine W.bind ?_
            rintro d' g' w'' ⟨ι'', fr'', rfl, j1, j2, j3, rfl⟩
            have hE := j1.ext hB.free
            refine Walk.of rfl fun w₃ hr₃ => ?_
            have ht := j3.todo
            have hm := j3.mode
            refine ⟨G { fr'' with todo := k' } (frs ++ cs), w₃, #[], by simp [G, stepG, hm, stepG.exec, ht], FineG.refl w₃, .stop fun w₂ hr₂ => ?_⟩
            have R2 : RF ι'' ⟨x, p.1, k0, ds, false⟩ { fr'' with todo := k' } := ⟨j3.fn, j3.tm, k2.mono hE, j3.ds, by simpa using j3.mode, j3.kind, j3.round⟩
            exact ⟨ι'', _, frs, rfl, hB.grow j1, R2, HS.mono hE, (j2.rely hr₃).rely hr₂, rfl, hE0.trans hE⟩
          · cases e
    | _ => cases e

/-- So many steps, as far as it goes. -/
noncomputable def runO (E : Env) (r : RunF) (out : List FuncId) (n : Nat) : OS → OS :=
  @Nat.rec (fun _ => OS → OS) (fun s => s) (fun _ ih s => match stepO E r out s with | some s' => ih s' | none => s) n

theorem runO_ok (F : Fits P E) (FF : FitsF P E) (hP : K.P = P) (n : Nat) : ∀ (m : Nat) (s : OS) {d : Nat} {g : Goroutine} {w : World}, OAt K ι0 cs s d g w → Walk P main K (OAt K ι0 cs (runO E (runF E n) out m s)) d g w
  | 0, s, d, g, w, H => .stop fun w₁ hr => by
    obtain ⟨ι, fr, frs, h1, h2, h3, h4, h5, h6, h7⟩ := H
    exact ⟨ι, fr, frs, h1, h2, h3, h4, h5.rely hr, h6, h7⟩
  | m + 1, s, d, g, w, H => by
    have e : runO E (runF E n) out (m + 1) s = (match stepO E (runF E n) out s with | some s' => runO E (runF E n) out m s' | none => s) := rfl
    rw [e]
    cases hs : stepO E (runF E n) out s with
    | none =>
      refine .stop fun w₁ hr => ?_
      obtain ⟨ι, fr, frs, h1, h2, h3, h4, h5, h6, h7⟩ := H
      exact ⟨ι, fr, frs, h1, h2, h3, h4, h5.rely hr, h6, h7⟩
    | some s' => exact (stepO_ok F FF hP n hs H).bind fun d' g' w' H' => runO_ok F FF hP n m s' H'
end
end Go.Ev
