/- A part of the proof that pedigreelaw19.WhynotNil returns true for every input (its card: YtieoegkjamcngabGreatDoorMyCard): EvPhA, EvPhC, EvPhD, EvOut, EvSpawn, EvSpawn2, EvEnd, EvExtOk, EvFlat, EvFlat2. Conditions: those of the given row alone. -/
import Derived.Test.YtieoegkjamcngabGreatDoorEv6
import Derived.Conc.Own2
/- Between a fork and a join: while the worker works. -/
namespace Go.Ev
open Go.Conc
open Go.ConcX (WgAt wgBlock stA smA KK OfWg)
open Go.ConcN (sumTo sumTo_upd upd_same)

/-- The others: they leave. -/
structure LvBut (P : Program) (j : Nat) (t : Trace) (gs : Array Goroutine) (q : Nat → Nat) : Prop where
  old : ∀ i g, 0 < i → i ≠ j → gs[i]? = some g → QuitsD P (q i) (Deaf t i) g
  above : ∀ i, gs.size ≤ i → Deaf t i = 0

structure PA (P : Program) (ty : TypeId) (Wg j : Nat) (Fin : Goroutine → Prop) (Shun : Loc → Prop) (reg : Bool) (st : Int) (d0 d1 r n : Nat) (rel : Option Nat) (gs : Array Goroutine) (w : World) (t : Trace) (a b : Goroutine) (q : Nat → Nat) : Prop where
  h0 : gs[0]? = some a
  hj : gs[j]? = some b
  jq : JQ P ty Wg Fin reg d0 r n a
  grp : WgAt ty Wg w st 0
  st0 : reg = false → st = KK
  run : b.status = .running
  lv : LvBut P j t gs q
  tr : PhT Shun Wg j w.heap.size d0 d1 rel t

section
variable {P : Program} {ty : TypeId} {Wg j : Nat} {Fin : Goroutine → Prop} {Shun : Loc → Prop} {reg : Bool} {st : Int} {d0 d1 r n : Nat} {rel : Option Nat} {gs : Array Goroutine} {w : World} {sl : Option (Nat × Nat)} {t : Trace} {a b : Goroutine} {q : Nat → Nat}

theorem gs_get {i m : Nat} {g g' x : Goroutine} {w' : World} (hm : i ≠ m) (h : gs[m]? = some x) : ((gs.map (woken P g g' w')).setIfInBounds i g')[m]? = some (woken P g g' w' x) := by
  rw [Array.getElem?_setIfInBounds_ne hm, Array.getElem?_map, h]; rfl
theorem gs_same {i : Nat} {g g' : Goroutine} {w' : World} {x : Goroutine} (h : gs[i]? = some x) : ((gs.map (woken P g g' w')).setIfInBounds i g')[i]? = some g' := by
  have hlt : i < gs.size := (Array.getElem?_eq_some_iff.1 h).1
  rw [Array.getElem?_setIfInBounds_self_of_lt (by simpa using hlt)]
theorem gs_size {i : Nat} {g g' : Goroutine} {w' : World} : ((gs.map (woken P g g' w')).setIfInBounds i g').size = gs.size := by simp
theorem g_ofEvents {g : Nat} {fn : FuncId} {pos : String} {es : Array Event} : ∀ op ∈ MemOp.ofEvents g fn pos es, op.g = g := fun op hop => by obtain ⟨e, _, rfl⟩ := Go.Conc.mem_ofEvents hop; rfl

/-- A step of the joiner's or the worker's leaves the others. -/
theorem LvBut.own (hL : LvBut P j t gs q) {i : Nat} (hi : i = 0 ∨ i = j) {g g' x : Goroutine} {w' : World} {fn : FuncId} {pos : String} {es : Array Event} (hx : gs[i]? = some x) : LvBut P j (t ++ MemOp.ofEvents i fn pos es) ((gs.map (woken P g g' w')).setIfInBounds i g') q := by
  refine ⟨fun m y h1 h2 hy => ?_, fun m hm => ?_⟩
  · have hne : i ≠ m := by rcases hi with rfl | rfl <;> omega
    rw [Array.getElem?_setIfInBounds_ne hne, Array.getElem?_map] at hy
    obtain ⟨z, hz, rfl⟩ := Option.map_eq_some_iff.1 hy
    have hq := hL.old m z h1 h2 hz
    rw [woken_quitsD hq, Deaf_other t (g' := i) hne _ g_ofEvents]
    exact hq
  · have hlt : i < gs.size := (Array.getElem?_eq_some_iff.1 hx).1
    rw [gs_size] at hm
    rw [Deaf_other t (g' := i) (by omega) _ g_ofEvents]
    exact hL.above m hm

/-- One of the others takes a step. -/
theorem LvBut.step (hL : LvBut P j t gs q) {sl' : Option (Nat × Nat)} {i d : Nat} {g : Goroutine} (hpos : 0 < i) (hij : i ≠ j) (hi : gs[i]? = some g) (hg : g.status = .running) :
    ∃ k g' es, runT P (crowd gs (w.at d) sl') i = (.next (crowd ((gs.map (woken P g g' (w.at d))).setIfInBounds i g') (w.at d) sl'), MemOp.ofEvents i g.frame.fn g.frame.place es) ∧ (∀ e ∈ es, e.mute = true) ∧
      LvBut P j (t ++ MemOp.ofEvents i g.frame.fn g.frame.place es) ((gs.map (woken P g g' (w.at d))).setIfInBounds i g') (ConcN.upd q i k) ∧ sumTo gs.size (ConcN.upd q i k) < sumTo gs.size q := by
  have hq := hL.old i g hpos hij hi
  have hi0 : (i == 0) = false := by simp; omega
  have hlt : i < gs.size := (Array.getElem?_eq_some_iff.1 hi).1
  cases hqi : q i with
  | zero => rw [hqi] at hq; rw [hq.1] at hg; cases hg
  | succ k =>
    rw [hqi] at hq
    rcases hq with ⟨hf, _⟩ | ⟨_, g', es, hm, hstp, hq'⟩
    · rw [hf] at hg; cases hg
    have hrunT := runT_crowd_go (P := P) (sl := sl') (i := i) hi (by rw [hi0]; exact hstp (w.at d))
    have hsum : sumTo gs.size (ConcN.upd q i k) + (k + 1) = sumTo gs.size q + k := by
      have := sumTo_upd q k id hlt
      simpa [hqi] using this
    refine ⟨k, g', es, hrunT, hm, ⟨fun m x h1 h2 hx => ?_, fun m hm' => ?_⟩, by omega⟩
    · by_cases hji : i = m
      · subst hji
        rw [gs_same hi] at hx
        obtain rfl := Option.some.inj hx
        rw [upd_same, Deaf_own]
        exact hq'
      · rw [Array.getElem?_setIfInBounds_ne hji, Array.getElem?_map] at hx
        obtain ⟨y, hy, rfl⟩ := Option.map_eq_some_iff.1 hx
        have hqj := hL.old m y h1 h2 hy
        rw [woken_quitsD hqj, ConcN.upd_ne q k (Ne.symm hji), Deaf_other t (g' := i) hji _ g_ofEvents]
        exact hqj
    · rw [gs_size] at hm'
      rw [Deaf_other t (g' := i) (by omega) _ g_ofEvents]
      exact hL.above m hm'

theorem PA.awake (h : PA P ty Wg j Fin Shun reg st d0 d1 r n rel gs w t a b q) : ∀ g ∈ gs, Go.Conc.awake g := by
  intro g hg
  obtain ⟨i, hi, rfl⟩ := Array.mem_iff_getElem.1 hg
  rcases Nat.eq_zero_or_pos i with rfl | hpos
  · have : gs[0] = a := by simpa [Array.getElem?_eq_getElem hi] using h.h0
    rw [this]
    intro t ht
    rcases h.jq.status with x | ⟨x, _⟩ <;> rw [x] at ht <;> cases ht
  · by_cases hij : i = j
    · subst hij
      have : gs[i] = b := by simpa [Array.getElem?_eq_getElem hi] using h.hj
      rw [this]; exact awake_of (.inl h.run)
    · exact awake_of ((h.lv.old i _ hpos hij (Array.getElem?_eq_getElem hi)).status.elim .inl fun x => .inr (.inr x))

/-- The worker's turn. -/
def Picked (P : Program) (ty : TypeId) (Wg j : Nat) (Fin : Goroutine → Prop) (Shun : Loc → Prop) (N0 : Nat) (w0 : World) (reg : Bool) (st : Int) (d1 : Nat) (rel : Option Nat) (b : Goroutine) : Array Goroutine → World → Option (Nat × Nat) → Trace → Prop := fun gs w sl t =>
  ∃ dr sl' reg' st' d0' r' n' a' q', gs.size = N0 ∧ Go.stepT P (crowd gs w sl) = runT P (crowd gs (w.at dr) sl') j ∧ JRel Wg w0 w ∧ ((reg' = reg ∧ st' = st) ∨ (reg = false ∧ reg' = true ∧ st' = KK + 1)) ∧ PA P ty Wg j Fin Shun reg' st' d0' d1 r' n' rel gs w t a' b q'

theorem wait_worker (hj0 : j ≠ 0) (hSW : ∀ l, Shun l → ¬ OfWg Wg l) (N0 : Nat) (w0 : World) (reg0 : Bool) (st0 : Int) (hst0 : reg0 = false → st0 = KK) : ∀ (S r n : Nat) (gs : Array Goroutine) (w : World) (sl : Option (Nat × Nat)) (t : Trace) (q : Nat → Nat) (a : Goroutine) (d0 : Nat) (reg : Bool) (st : Int),
    sumTo gs.size q = S → gs.size = N0 → JRel Wg w0 w → ((reg = reg0 ∧ st = st0) ∨ (reg0 = false ∧ reg = true ∧ st = KK + 1)) → PA P ty Wg j Fin Shun reg st d0 d1 r n rel gs w t a b q →
    Reaches P gs w sl t (Picked P ty Wg j Fin Shun N0 w0 reg0 st0 d1 rel b) := by
  intro S
  induction S using Nat.strongRecOn with
  | ind S ihS =>
  intro r
  induction r using Nat.strongRecOn with
  | ind r ihr =>
  intro n
  induction n using Nat.strongRecOn with
  | ind n ihn =>
  intro gs w sl t q a d0 reg st hS hN hR hrs h
  obtain ⟨i, g, dr, sl', hi, hg, hpk⟩ := crowd_pick (P := P) (w := w) (sl := sl) h.awake ⟨j, b, h.hj, h.run⟩
  by_cases hij : i = j
  · subst hij
    exact .here ⟨dr, sl', reg, st, d0, r, n, a, q, hN, hpk, hR, hrs, h⟩
  have hw' : WgAt ty Wg (w.at dr) st 0 := h.grp
  have hR' : JRel Wg w0 (w.at dr) := hR.trans (.at_ w dr)
  have hP : PhT Shun Wg j (w.at dr).heap.size d0 d1 rel t := h.tr
  rcases Nat.eq_zero_or_pos i with rfl | hpos
  · obtain rfl : g = a := by rw [h.h0] at hi; exact (Option.some.inj hi).symm
    obtain ⟨a', w', es, h1, h2, h3, reg', st', r', n', h4, h5, h6, h7⟩ := h.jq.step hg hw' h.st0
    have hrunT := runT_crowd_go (P := P) (sl := sl') (i := 0) hi (show stepG P (0 == 0) g (w.at dr) = _ from h1)
    have hP' := hP.main (fn := g.frame.fn) (pos := g.frame.place) (B' := w'.heap.size) hj0 (by rw [h3.size]; exact Nat.le_refl _) hSW (fun e he x hx => jev_touch (h2 e he) hx) (fun e he => jev_norel (h2 e he)) (fun e he => jev_low (h2 e he) (wg_lt h4))
    have hrs' : (reg' = reg0 ∧ st' = st0) ∨ (reg0 = false ∧ reg' = true ∧ st' = KK + 1) := by
      rcases h5 with ⟨rfl, rfl⟩ | ⟨e1, e2, e3⟩
      · exact hrs
      · rcases hrs with ⟨rfl, rfl⟩ | ⟨e4, e5, e6⟩
        · exact .inr ⟨e1, e2, e3⟩
        · rw [e1] at e5; cases e5
    have hPA : PA P ty Wg j Fin Shun reg' st' (deafBehind d0 es) d1 r' n' rel ((gs.map (woken P g a' w')).setIfInBounds 0 a') w' (t ++ MemOp.ofEvents 0 g.frame.fn g.frame.place es) a' b q :=
      ⟨gs_same hi, by rw [gs_get (Ne.symm hj0) h.hj, woken_run h.run], h6, h4, fun e => (by
        rcases h5 with ⟨rfl, rfl⟩ | ⟨e1, e2, e3⟩
        · exact h.st0 e
        · rw [e2] at e; cases e), h.run, h.lv.own (.inl rfl) hi, hP'⟩
    refine Reaches.step (by rw [hpk]; exact hrunT) ?_
    rcases h7 with h7 | ⟨rfl, h7⟩
    · exact ihr r' h7 n' _ w' sl' _ q a' _ reg' st' (by rw [gs_size]; exact hS) (gs_size.trans hN) (hR'.trans h3) hrs' hPA
    · exact ihn n' h7 _ w' sl' _ q a' _ reg' st' (by rw [gs_size]; exact hS) (gs_size.trans hN) (hR'.trans h3) hrs' hPA
  · obtain ⟨k, g1, es1, hrunT, hm, hL', hlt'⟩ := h.lv.step (w := w) (sl' := sl') (d := dr) hpos hij hi hg
    have hP' := hP.leaver (g := i) (fn := g.frame.fn) (pos := g.frame.place) (by omega) hij hm
    obtain ⟨r', n', hjq⟩ := h.jq.awoken (b := g) (b' := g1) (w := w.at dr)
    refine Reaches.step (by rw [hpk]; exact hrunT) ?_
    exact ihS _ (by rw [← hS]; exact hlt') r' n' _ (w.at dr) sl' _ (ConcN.upd q i k) _ d0 reg st (by rw [gs_size]) (gs_size.trans hN) hR' hrs
      ⟨gs_get (by omega) h.h0, by rw [gs_get hij h.hj, woken_run h.run], hjq, hw', h.st0, h.run, hL', hP'⟩

/-- The worker's step. -/
theorem PA.work (h : PA P ty Wg j Fin Shun reg st d0 d1 r n rel gs w t a b q) (hj0 : j ≠ 0) {b' : Goroutine} {w2 : World} {es : Array Event} (hrun : b'.status = .running) {st2 : Int} (hg : WgAt ty Wg w2 st2 0) (hst : reg = false → st2 = KK) {rel' : Option Nat}
    (hP : PhT Shun Wg j w2.heap.size d0 (deafBehind d1 es) rel' (t ++ MemOp.ofEvents j b.frame.fn b.frame.place es)) :
    ∃ r' n', PA P ty Wg j Fin Shun reg st2 d0 (deafBehind d1 es) r' n' rel' ((gs.map (woken P b b' w2)).setIfInBounds j b') w2 (t ++ MemOp.ofEvents j b.frame.fn b.frame.place es) (woken P b b' w2 a) b' q := by
  obtain ⟨r', n', hjq⟩ := h.jq.awoken (b := b) (b' := b') (w := w2)
  exact ⟨r', n', gs_get hj0 h.h0, gs_same h.hj, hjq, hg, hst, hrun, h.lv.own (.inr rfl) h.hj, hP⟩

/-- The worker begins to leave. -/
theorem LvBut.toAll (hj0 : j ≠ 0) (h : LvBut P j t gs q) {b : Goroutine} (hb : gs[j]? = some b) {k : Nat} (hq : QuitsD P k (Deaf t j) b) : Leavers P t gs (ConcN.upd q j k) := by
  refine ⟨fun i g h1 h2 => ?_, h.above⟩
  by_cases hij : i = j
  · subst hij
    rw [hb] at h2; cases h2
    rw [upd_same]; exact hq
  · rw [ConcN.upd_ne q k hij]
    exact h.old i g h1 hij h2
end
end Go.Ev
/- Between a fork and a join: the worker's stages, from the end backwards. -/
namespace Go.Ev
open Go.Conc
open Go.ConcX (WgAt wgBlock stA smA KK OfWg RCa RCd DC0 KCa Full Payload Shy DCs EvQ)
open Go.ConcN (sumTo sumTo_upd upd_same)

section
variable {P : Program} {ty : TypeId} {Wg j : Nat} {Fin : Goroutine → Prop} {Shun : Loc → Prop} {reg : Bool} {st : Int} {d0 d1 r n : Nat} {rel : Option Nat} {gs : Array Goroutine} {w : World} {sl : Option (Nat × Nat)} {t : Trace} {a b : Goroutine} {q : Nat → Nat}

theorem PA.at_ (h : PA P ty Wg j Fin Shun reg st d0 d1 r n rel gs w t a b q) (d : Nat) : PA P ty Wg j Fin Shun reg st d0 d1 r n rel gs (w.at d) t a b q := ⟨h.h0, h.hj, h.jq, h.grp, h.st0, h.run, h.lv, h.tr⟩

/-- What comes when the worker takes its step. -/
theorem worker_go {T : Array Goroutine → World → Option (Nat × Nat) → Trace → Prop} (hj0 : j ≠ 0) (hSW : ∀ l, Shun l → ¬ OfWg Wg l) (h : PA P ty Wg j Fin Shun reg st d0 d1 r n rel gs w t a b q)
    (K : ∀ gs1 w1 sl1 t1 reg1 st1 d01 r1 n1 a1 q1, gs1.size = gs.size → JRel Wg w w1 → ((reg1 = reg ∧ st1 = st) ∨ (reg = false ∧ reg1 = true ∧ st1 = KK + 1)) → PA P ty Wg j Fin Shun reg1 st1 d01 d1 r1 n1 rel gs1 w1 t1 a1 b q1 →
      ∃ b' w2 es, stepG P false b w1 = .go b' w2 es ∧ Reaches P ((gs1.map (woken P b b' w2)).setIfInBounds j b') w2 sl1 (t1 ++ MemOp.ofEvents j b.frame.fn b.frame.place es) T) :
    Reaches P gs w sl t T := by
  refine Reaches.then (wait_worker hj0 hSW gs.size w reg st h.st0 _ r n gs w sl t q a d0 reg st rfl rfl (.refl w) (.inl ⟨rfl, rfl⟩) h) ?_
  rintro gs1 w1 sl1 t1 ⟨dr, sl', reg1, st1, d01, r1, n1, a1, q1, hN, hpk, hR, hrs, hPA⟩
  obtain ⟨b', w2, es, h1, h2⟩ := K gs1 (w1.at dr) sl' t1 reg1 st1 d01 r1 n1 a1 q1 hN (hR.trans (.at_ w1 dr)) hrs (hPA.at_ dr)
  have hi0 : (j == 0) = false := by simp; exact hj0
  have hrunT := runT_crowd_go (P := P) (sl := sl') (i := j) hPA.hj (by rw [hi0]; exact h1)
  exact Reaches.step (by rw [hpk]; exact hrunT) h2

theorem nil_ops (t : Trace) (g : Nat) (fn : FuncId) (pos : String) : t ++ MemOp.ofEvents g fn pos #[] = t := by rw [ofEvents_none]; simp

/-- A step of the worker's that does nothing. -/
theorem PA.idle (h : PA P ty Wg j Fin Shun reg st d0 d1 r n rel gs w t a b q) (hj0 : j ≠ 0) {b' : Goroutine} (hrun : b'.status = .running) :
    ∃ r' n', PA P ty Wg j Fin Shun reg st d0 d1 r' n' rel ((gs.map (woken P b b' w)).setIfInBounds j b') w (t ++ MemOp.ofEvents j b.frame.fn b.frame.place #[]) (woken P b b' w a) b' q := by
  have e : deafBehind d1 #[] = d1 := rfl
  have := h.work (es := #[]) (w2 := w) (rel' := rel) hj0 hrun h.grp h.st0 (by rw [e, nil_ops]; exact h.tr)
  rw [e] at this
  exact this

theorem same_block {w' : World} (hR : JRel Wg w w') {st : Int} (h : WgAt ty Wg w st 0) (h' : WgAt ty Wg w' st 0) (x : Nat) : w'.heap[x]? = w.heap[x]? := by
  by_cases hx : x = Wg
  · subst hx; exact (show w'.heap[x]? = some _ from h').trans (show w.heap[x]? = some _ from h).symm
  · exact hR.block x hx

/-- The group's states while the count is one. -/
theorem one_or (hk : reg = true → st = KK + 1) {reg1 : Bool} {st1 : Int} (hrs : (reg1 = reg ∧ st1 = st) ∨ (reg = false ∧ reg1 = true ∧ st1 = KK + 1)) : reg1 = true → st1 = KK + 1 := by
  rcases hrs with ⟨rfl, rfl⟩ | ⟨_, _, rfl⟩
  · exact hk
  · exact fun _ => rfl
theorem rca_of (hk : reg = true → st = KK + 1) (h : PA P ty Wg j Fin Shun reg st d0 d1 r n rel gs w t a b q) {w1 : World} {Low : Nat} (hR : JRel Wg w1 w) : RCa ty Wg Low w1 w :=
  ⟨fun x _ hx => hR.block x hx, fun _ => by
    cases hr : reg with
    | false => left; rw [← h.st0 hr]; exact h.grp
    | true => right; rw [← hk hr]; exact h.grp⟩

section
variable (hj0 : j ≠ 0) (hSW : ∀ l, Shun l → ¬ OfWg Wg l) (N0 : Nat) (w0 : World) (Low rr : Nat)
include hj0 hSW

/-- Behind the semaphore's release. -/
theorem st6 : ∀ (m : Nat) (gs : Array Goroutine) (w : World) (sl : Option (Nat × Nat)) (t : Trace) (q : Nat → Nat) (a b : Goroutine) (d0 r n : Nat), gs.size = N0 → JRel Wg w0 w → Goes P false (RCd Low) DC0 (Go.ConcX.AtD4 P Wg) m b w →
    PA P ty Wg j Fin Shun true 0 d0 1 r n (some rr) gs w t a b q → Reaches P gs w sl t (Joined P ty Wg Fin Shun N0 w0) := by
  intro m
  induction m with
  | zero => exact fun gs w sl t q a b d0 r n hN hR hG h => fin gs w sl t q a b d0 r n hN hR hG h
  | succ m ih =>
    intro gs w sl t q a b d0 r n hN hR hG h
    rcases Goes.cases hG with hs | ⟨m', hm, hs⟩
    · exact fin gs w sl t q a b d0 r n hN hR hs h
    · cases hm
      refine worker_go hj0 hSW h fun gs1 w1 sl1 t1 reg1 st1 d01 r1 n1 a1 q1 hN1 hR1 hrs hPA => ?_
      obtain ⟨rfl, rfl⟩ : reg1 = true ∧ st1 = 0 := hrs.elim id fun x => by cases x.1
      obtain ⟨b', w2, es, h1, ⟨rfl, rfl⟩, h2⟩ := hs w1 fun x _ => same_block hR1 h.grp hPA.grp x
      have hrun : b'.status = .running := Goes.running (fun _ _ x => x.1) w2 (RCd.refl w2) h2
      obtain ⟨r2, n2, h3⟩ := hPA.idle hj0 hrun
      exact ⟨b', w2, #[], h1, ih _ w2 sl1 _ q1 _ b' d01 r2 n2 (gs_size.trans (hN1.trans hN)) (hR.trans hR1) h2 h3⟩
where
  fin (gs : Array Goroutine) (w : World) (sl : Option (Nat × Nat)) (t : Trace) (q : Nat → Nat) (a b : Goroutine) (d0 r n : Nat) (hN : gs.size = N0) (hR : JRel Wg w0 w) (hG : ∀ w₁, RCd Low w w₁ → Go.ConcX.AtD4 P Wg b w₁)
      (h : PA P ty Wg j Fin Shun true 0 d0 1 r n (some rr) gs w t a b q) : Reaches P gs w sl t (Joined P ty Wg Fin Shun N0 w0) := by
    refine worker_go hj0 hSW h fun gs1 w1 sl1 t1 reg1 st1 d01 r1 n1 a1 q1 hN1 hR1 hrs hPA => ?_
    obtain ⟨rfl, rfl⟩ : reg1 = true ∧ st1 = 0 := hrs.elim id fun x => by cases x.1
    obtain ⟨_, hmw, b', h1, k, hq⟩ := hG w1 fun x _ => same_block hR1 h.grp hPA.grp x
    have hb' : b'.status = .running := by
      cases k with
      | zero => exact absurd hq.2 (by decide)
      | succ k => exact hq.elim (fun x => absurd x.2 (by decide)) (fun x => x.1)
    have e1 : deafBehind 1 (semEvents (smA Wg)) = 1 := rfl
    have hsz : (w1.setCell (smA Wg) (.int .u32 1)).heap.size = w1.heap.size := (JRel.setCell (Wg := Wg) w1 (smA Wg) (.int .u32 1) rfl).size
    have hP' := hPA.tr.tail (fn := b.frame.fn) (pos := b.frame.place) (es := semEvents (smA Wg)) hj0 hSW (wg_lt hPA.grp) (fun k e hk => by
      have : k = 0 ∨ k = 1 ∨ k = 2 ∨ k = 3 := by have := (Array.getElem?_eq_some_iff.1 hk).1; simp [semEvents] at this; omega
      rcases this with rfl | rfl | rfl | rfl <;> (simp [semEvents] at hk; subst hk)
      · exact .inl rfl
      · exact .inr ⟨⟨1, false, rfl⟩, by simp [deafBehind, semEvents, rdA, wrA]⟩
      · exact .inr ⟨⟨1, true, rfl⟩, by simp [deafBehind, semEvents, rdA, wrA]⟩
      · exact .inl rfl) (fun e he => jev_norel (jev_sem e he)) (fun e he => jev_low (jev_sem e he) (wg_lt hPA.grp))
    rw [e1] at hP'
    obtain ⟨n', hjb⟩ := hPA.jq.up (w := w1.setCell (smA Wg) (.int .u32 1)) hmw hb'
    have hL := (hPA.lv.own (g := b) (g' := b') (w' := w1.setCell (smA Wg) (.int .u32 1)) (fn := b.frame.fn) (pos := b.frame.place) (es := semEvents (smA Wg)) (.inr rfl) hPA.hj).toAll hj0 (gs_same hPA.hj) (k := k) (by rw [hP'.deaf1]; exact hq)
    exact ⟨b', _, _, h1, join_past hj0 hSW rr N0 w0 3 _ n' _ _ sl1 _ (ConcN.upd q1 j k) _ d01 1 1 (Nat.le_refl _) (gs_size.trans (hN1.trans hN)) ((hR.trans hR1).trans (.setCell w1 (smA Wg) _ rfl)) hjb (gs_get hj0 hPA.h0) hL (Go.ConcX.WgAt.setSm hPA.grp 1) (by rw [hsz]; exact hP')⟩

/-- Behind the store of nought. -/
theorem st5 : ∀ (m : Nat) (gs : Array Goroutine) (w : World) (sl : Option (Nat × Nat)) (t : Trace) (q : Nat → Nat) (a b : Goroutine) (d0 r n : Nat), gs.size = N0 → JRel Wg w0 w → Goes P false (RCd Low) DC0 (Go.ConcX.AtD3 P Wg Low) m b w →
    PA P ty Wg j Fin Shun true 1 d0 1 r n (some rr) gs w t a b q → Reaches P gs w sl t (Joined P ty Wg Fin Shun N0 w0) := by
  intro m
  induction m with
  | zero => exact fun gs w sl t q a b d0 r n hN hR hG h => fin gs w sl t q a b d0 r n hN hR hG h
  | succ m ih =>
    intro gs w sl t q a b d0 r n hN hR hG h
    rcases Goes.cases hG with hs | ⟨m', hm, hs⟩
    · exact fin gs w sl t q a b d0 r n hN hR hs h
    · cases hm
      refine worker_go hj0 hSW h fun gs1 w1 sl1 t1 reg1 st1 d01 r1 n1 a1 q1 hN1 hR1 hrs hPA => ?_
      obtain ⟨rfl, rfl⟩ : reg1 = true ∧ st1 = 1 := hrs.elim id fun x => by cases x.1
      obtain ⟨b', w2, es, h1, ⟨rfl, rfl⟩, h2⟩ := hs w1 fun x _ => same_block hR1 h.grp hPA.grp x
      have hrun : b'.status = .running := Goes.running (fun _ _ x => x.1) w2 (RCd.refl w2) h2
      obtain ⟨r2, n2, h3⟩ := hPA.idle hj0 hrun
      exact ⟨b', w2, #[], h1, ih _ w2 sl1 _ q1 _ b' d01 r2 n2 (gs_size.trans (hN1.trans hN)) (hR.trans hR1) h2 h3⟩
where
  fin (gs : Array Goroutine) (w : World) (sl : Option (Nat × Nat)) (t : Trace) (q : Nat → Nat) (a b : Goroutine) (d0 r n : Nat) (hN : gs.size = N0) (hR : JRel Wg w0 w) (hG : ∀ w₁, RCd Low w w₁ → Go.ConcX.AtD3 P Wg Low b w₁)
      (h : PA P ty Wg j Fin Shun true 1 d0 1 r n (some rr) gs w t a b q) : Reaches P gs w sl t (Joined P ty Wg Fin Shun N0 w0) := by
    refine worker_go hj0 hSW h fun gs1 w1 sl1 t1 reg1 st1 d01 r1 n1 a1 q1 hN1 hR1 hrs hPA => ?_
    obtain ⟨rfl, rfl⟩ : reg1 = true ∧ st1 = 1 := hrs.elim id fun x => by cases x.1
    obtain ⟨_, b', h1, m, h2⟩ := hG w1 fun x _ => same_block hR1 h.grp hPA.grp x
    have hrun : b'.status = .running := Goes.running (fun _ _ x => x.1) _ (RCd.refl _) h2
    have e1 : deafBehind 1 #[wrA (stA Wg)] = 1 := rfl
    have hsz : (w1.setCell (stA Wg) (.int .u64 0)).heap.size = w1.heap.size := (JRel.setCell (Wg := Wg) w1 (stA Wg) (.int .u64 0) rfl).size
    have hP' := hPA.tr.tail (fn := b.frame.fn) (pos := b.frame.place) (es := #[wrA (stA Wg)]) hj0 hSW (wg_lt hPA.grp) (fun k e hk => by
      have : k = 0 := by have := (Array.getElem?_eq_some_iff.1 hk).1; simp at this; omega
      subst this; simp at hk; subst hk
      exact .inr ⟨⟨0, true, rfl⟩, by simp [deafBehind, semEvents, rdA, wrA]⟩) (fun e he => by simp at he; subst he; exact jev_norel jev_wr) (fun e he => by simp at he; subst he; exact jev_low jev_wr (wg_lt hPA.grp))
    obtain ⟨r2, n2, h3⟩ := hPA.work (es := #[wrA (stA Wg)]) (rel' := some rr) hj0 hrun (Go.ConcX.WgAt.setSt hPA.grp 0) (fun e => by cases e) (by rw [hsz]; exact hP')
    rw [e1] at h3
    exact ⟨b', _, _, h1, st6 (Fin := Fin) (ty := ty) hj0 hSW N0 w0 Low rr m _ _ sl1 _ q1 _ b' d01 r2 n2 (gs_size.trans (hN1.trans hN)) ((hR.trans hR1).trans (.setCell w1 (stA Wg) _ rfl)) h2 h3⟩

/-- Behind the load. -/
theorem st4 : ∀ (m : Nat) (gs : Array Goroutine) (w : World) (sl : Option (Nat × Nat)) (t : Trace) (q : Nat → Nat) (a b : Goroutine) (d0 r n : Nat), gs.size = N0 → JRel Wg w0 w → Goes P false (RCd Low) DC0 (Go.ConcX.AtD2 P Wg Low) m b w →
    PA P ty Wg j Fin Shun true 1 d0 1 r n (some rr) gs w t a b q → Reaches P gs w sl t (Joined P ty Wg Fin Shun N0 w0) := by
  intro m
  induction m with
  | zero => exact fun gs w sl t q a b d0 r n hN hR hG h => fin gs w sl t q a b d0 r n hN hR hG h
  | succ m ih =>
    intro gs w sl t q a b d0 r n hN hR hG h
    rcases Goes.cases hG with hs | ⟨m', hm, hs⟩
    · exact fin gs w sl t q a b d0 r n hN hR hs h
    · cases hm
      refine worker_go hj0 hSW h fun gs1 w1 sl1 t1 reg1 st1 d01 r1 n1 a1 q1 hN1 hR1 hrs hPA => ?_
      obtain ⟨rfl, rfl⟩ : reg1 = true ∧ st1 = 1 := hrs.elim id fun x => by cases x.1
      obtain ⟨b', w2, es, h1, ⟨rfl, rfl⟩, h2⟩ := hs w1 fun x _ => same_block hR1 h.grp hPA.grp x
      have hrun : b'.status = .running := Goes.running (fun _ _ x => x.1) w2 (RCd.refl w2) h2
      obtain ⟨r2, n2, h3⟩ := hPA.idle hj0 hrun
      exact ⟨b', w2, #[], h1, ih _ w2 sl1 _ q1 _ b' d01 r2 n2 (gs_size.trans (hN1.trans hN)) (hR.trans hR1) h2 h3⟩
where
  fin (gs : Array Goroutine) (w : World) (sl : Option (Nat × Nat)) (t : Trace) (q : Nat → Nat) (a b : Goroutine) (d0 r n : Nat) (hN : gs.size = N0) (hR : JRel Wg w0 w) (hG : ∀ w₁, RCd Low w w₁ → Go.ConcX.AtD2 P Wg Low b w₁)
      (h : PA P ty Wg j Fin Shun true 1 d0 1 r n (some rr) gs w t a b q) : Reaches P gs w sl t (Joined P ty Wg Fin Shun N0 w0) := by
    refine worker_go hj0 hSW h fun gs1 w1 sl1 t1 reg1 st1 d01 r1 n1 a1 q1 hN1 hR1 hrs hPA => ?_
    obtain ⟨rfl, rfl⟩ : reg1 = true ∧ st1 = 1 := hrs.elim id fun x => by cases x.1
    obtain ⟨_, b', h1, m, h2⟩ := hG w1 fun x _ => same_block hR1 h.grp hPA.grp x
    have hrun : b'.status = .running := Goes.running (fun _ _ x => x.1) _ (RCd.refl _) h2
    have e1 : deafBehind 1 #[rdA (stA Wg)] = 1 := rfl
    have hP' := hPA.tr.tail (fn := b.frame.fn) (pos := b.frame.place) (es := #[rdA (stA Wg)]) hj0 hSW (wg_lt hPA.grp) (fun k e hk => by
      have : k = 0 := by have := (Array.getElem?_eq_some_iff.1 hk).1; simp at this; omega
      subst this; simp at hk; subst hk
      exact .inr ⟨⟨0, false, rfl⟩, by simp [deafBehind, semEvents, rdA, wrA]⟩) (fun e he => by simp at he; subst he; exact jev_norel jev_rd) (fun e he => by simp at he; subst he; exact jev_low jev_rd (wg_lt hPA.grp))
    obtain ⟨r2, n2, h3⟩ := hPA.work (es := #[rdA (stA Wg)]) (w2 := w1) (rel' := some rr) hj0 hrun hPA.grp (fun e => by cases e) hP'
    rw [e1] at h3
    exact ⟨b', _, _, h1, st5 (Fin := Fin) (ty := ty) hj0 hSW N0 w0 Low rr m _ _ sl1 _ q1 _ b' d01 r2 n2 (gs_size.trans (hN1.trans hN)) (hR.trans hR1) h2 h3⟩

/-- The atomic add of -1. -/
theorem st3 : ∀ (m : Nat) (gs : Array Goroutine) (w : World) (sl : Option (Nat × Nat)) (t : Trace) (q : Nat → Nat) (a b : Goroutine) (reg : Bool) (st : Int) (d0 r n : Nat), gs.size = N0 → JRel Wg w0 w → (reg = true → st = KK + 1) → Goes P false (RCa ty Wg Low) DC0 (Go.ConcX.AtD1 P ty Wg Low) m b w →
    PA P ty Wg j Fin Shun reg st d0 1 r n (some rr) gs w t a b q → Reaches P gs w sl t (Joined P ty Wg Fin Shun N0 w0) := by
  intro m
  induction m with
  | zero => exact fun gs w sl t q a b reg st d0 r n hN hR hk hG h => fin gs w sl t q a b reg st d0 r n hN hR hk hG h
  | succ m ih =>
    intro gs w sl t q a b reg st d0 r n hN hR hk hG h
    rcases Goes.cases hG with hs | ⟨m', hm, hs⟩
    · exact fin gs w sl t q a b reg st d0 r n hN hR hk hs h
    · cases hm
      refine worker_go hj0 hSW h fun gs1 w1 sl1 t1 reg1 st1 d01 r1 n1 a1 q1 hN1 hR1 hrs hPA => ?_
      have hk1 := one_or hk hrs
      obtain ⟨b', w2, es, h1, ⟨rfl, rfl⟩, h2⟩ := hs w1 (rca_of hk1 hPA hR1)
      have hrun : b'.status = .running := Goes.running (fun _ _ x => x.1) w2 (Go.ConcX.RCa.refl w2) h2
      obtain ⟨r2, n2, h3⟩ := hPA.idle hj0 hrun
      exact ⟨b', w2, #[], h1, ih _ w2 sl1 _ q1 _ b' reg1 st1 d01 r2 n2 (gs_size.trans (hN1.trans hN)) (hR.trans hR1) hk1 h2 h3⟩
where
  fin (gs : Array Goroutine) (w : World) (sl : Option (Nat × Nat)) (t : Trace) (q : Nat → Nat) (a b : Goroutine) (reg : Bool) (st : Int) (d0 r n : Nat) (hN : gs.size = N0) (hR : JRel Wg w0 w) (hk : reg = true → st = KK + 1) (hG : ∀ w₁, RCa ty Wg Low w w₁ → Go.ConcX.AtD1 P ty Wg Low b w₁)
      (h : PA P ty Wg j Fin Shun reg st d0 1 r n (some rr) gs w t a b q) : Reaches P gs w sl t (Joined P ty Wg Fin Shun N0 w0) := by
    refine worker_go hj0 hSW h fun gs1 w1 sl1 t1 reg1 st1 d01 r1 n1 a1 q1 hN1 hR1 hrs hPA => ?_
    have hk1 := one_or hk hrs
    obtain ⟨_, hA, hB⟩ := hG w1 (rca_of hk1 hPA hR1)
    have e1 : deafBehind 1 #[rdA (stA Wg), wrA (stA Wg)] = 1 := rfl
    have hsz : ∀ v, (w1.setCell (stA Wg) (.int .u64 v)).heap.size = w1.heap.size := fun v => (JRel.setCell (Wg := Wg) w1 (stA Wg) (.int .u64 v) rfl).size
    have hP' := hPA.tr.tail (fn := b.frame.fn) (pos := b.frame.place) (es := #[rdA (stA Wg), wrA (stA Wg)]) hj0 hSW (wg_lt hPA.grp) (fun k e hk => by
      have : k = 0 ∨ k = 1 := by have := (Array.getElem?_eq_some_iff.1 hk).1; simp at this; omega
      rcases this with rfl | rfl <;> (simp at hk; subst hk)
      · exact .inr ⟨⟨0, false, rfl⟩, by simp [deafBehind, semEvents, rdA, wrA]⟩
      · exact .inr ⟨⟨0, true, rfl⟩, by simp [deafBehind, semEvents, rdA, wrA]⟩)
      (fun e he => by simp at he; exact he.elim (fun x => x ▸ jev_norel jev_rd) (fun x => x ▸ jev_norel jev_wr)) (fun e he => by simp at he; exact he.elim (fun x => x ▸ jev_low jev_rd (wg_lt hPA.grp)) (fun x => x ▸ jev_low jev_wr (wg_lt hPA.grp)))
    rw [e1] at hP'
    cases hr : reg1 with
    | false =>
      subst hr
      obtain rfl := hPA.st0 rfl
      obtain ⟨b', h1, k, hq⟩ := hA hPA.grp
      obtain ⟨r', hjb⟩ := hPA.jq.toB
      have ha : woken P b b' (w1.setCell (stA Wg) (.int .u64 0)) a1 = a1 := woken_run (hPA.jq.status.elim id fun x => by cases x.2)
      have hL := (hPA.lv.own (g := b) (g' := b') (w' := w1.setCell (stA Wg) (.int .u64 0)) (fn := b.frame.fn) (pos := b.frame.place) (es := #[rdA (stA Wg), wrA (stA Wg)]) (.inr rfl) hPA.hj).toAll hj0 (gs_same hPA.hj) (k := k) (by rw [show Deaf _ j = 1 from hP'.deaf1]; exact hq)
      have h00 := gs_get (P := P) (g := b) (g' := b') (w' := w1.setCell (stA Wg) (.int .u64 0)) hj0 hPA.h0
      rw [ha] at h00
      exact ⟨b', _, _, h1, join_past hj0 hSW rr N0 w0 r' _ n1 _ _ sl1 _ (ConcN.upd q1 j k) a1 d01 1 0 (Nat.le_refl _) (gs_size.trans (hN1.trans hN)) ((hR.trans hR1).trans (.setCell w1 (stA Wg) _ rfl)) hjb h00 hL (Go.ConcX.WgAt.setSt hPA.grp 0) (by rw [hsz]; exact hP')⟩
    | true =>
      subst hr
      obtain rfl := hk1 rfl
      obtain ⟨b', h1, m, h2⟩ := hB hPA.grp
      have hrun : b'.status = .running := Goes.running (fun _ _ x => x.1) _ (RCd.refl _) h2
      obtain ⟨r2, n2, h3⟩ := hPA.work (es := #[rdA (stA Wg), wrA (stA Wg)]) (rel' := some rr) hj0 hrun (Go.ConcX.WgAt.setSt hPA.grp 1) (fun e => by cases e) (by rw [hsz, e1]; exact hP')
      rw [e1] at h3
      exact ⟨b', _, _, h1, st4 (Fin := Fin) (ty := ty) hj0 hSW N0 w0 Low rr m _ _ sl1 _ q1 _ b' d01 r2 n2 (gs_size.trans (hN1.trans hN)) ((hR.trans hR1).trans (.setCell w1 (stA Wg) _ rfl)) h2 h3⟩

/-- Behind the release: it goes deaf. -/
theorem st2 : ∀ (m : Nat) (gs : Array Goroutine) (w : World) (sl : Option (Nat × Nat)) (t : Trace) (q : Nat → Nat) (a b : Goroutine) (reg : Bool) (st : Int) (d0 r n : Nat), gs.size = N0 → JRel Wg w0 w → (reg = true → st = KK + 1) → Goes P false (RCa ty Wg Low) DC0 (Go.ConcX.AtK1 P ty Wg Low) m b w →
    PA P ty Wg j Fin Shun reg st d0 0 r n (some rr) gs w t a b q → Reaches P gs w sl t (Joined P ty Wg Fin Shun N0 w0) := by
  intro m
  induction m with
  | zero => exact fun gs w sl t q a b reg st d0 r n hN hR hk hG h => fin gs w sl t q a b reg st d0 r n hN hR hk hG h
  | succ m ih =>
    intro gs w sl t q a b reg st d0 r n hN hR hk hG h
    rcases Goes.cases hG with hs | ⟨m', hm, hs⟩
    · exact fin gs w sl t q a b reg st d0 r n hN hR hk hs h
    · cases hm
      refine worker_go hj0 hSW h fun gs1 w1 sl1 t1 reg1 st1 d01 r1 n1 a1 q1 hN1 hR1 hrs hPA => ?_
      have hk1 := one_or hk hrs
      obtain ⟨b', w2, es, h1, ⟨rfl, rfl⟩, h2⟩ := hs w1 (rca_of hk1 hPA hR1)
      have hrun : b'.status = .running := Goes.running (fun _ _ x => x.1) w2 (Go.ConcX.RCa.refl w2) h2
      obtain ⟨r2, n2, h3⟩ := hPA.idle hj0 hrun
      exact ⟨b', w2, #[], h1, ih _ w2 sl1 _ q1 _ b' reg1 st1 d01 r2 n2 (gs_size.trans (hN1.trans hN)) (hR.trans hR1) hk1 h2 h3⟩
where
  fin (gs : Array Goroutine) (w : World) (sl : Option (Nat × Nat)) (t : Trace) (q : Nat → Nat) (a b : Goroutine) (reg : Bool) (st : Int) (d0 r n : Nat) (hN : gs.size = N0) (hR : JRel Wg w0 w) (hk : reg = true → st = KK + 1) (hG : ∀ w₁, RCa ty Wg Low w w₁ → Go.ConcX.AtK1 P ty Wg Low b w₁)
      (h : PA P ty Wg j Fin Shun reg st d0 0 r n (some rr) gs w t a b q) : Reaches P gs w sl t (Joined P ty Wg Fin Shun N0 w0) := by
    refine worker_go hj0 hSW h fun gs1 w1 sl1 t1 reg1 st1 d01 r1 n1 a1 q1 hN1 hR1 hrs hPA => ?_
    have hk1 := one_or hk hrs
    obtain ⟨_, b', h1, m, h2⟩ := hG w1 (rca_of hk1 hPA hR1)
    have hrun : b'.status = .running := Goes.running (fun _ _ x => x.1) _ (Go.ConcX.RCa.refl _) h2
    have e1 : deafBehind 0 #[mkE .disable] = 1 := rfl
    have hP' := hPA.tr.tail (fn := b.frame.fn) (pos := b.frame.place) (es := #[mkE .disable]) hj0 hSW (wg_lt hPA.grp) (fun k e hk => by
      have : k = 0 := by have := (Array.getElem?_eq_some_iff.1 hk).1; simp at this; omega
      subst this; simp at hk; subst hk
      exact .inl rfl) (fun e he => by simp at he; subst he; simp [mkE]) (fun e he => by simp at he; subst he; trivial)
    obtain ⟨r2, n2, h3⟩ := hPA.work (es := #[mkE .disable]) (w2 := w1) (rel' := some rr) hj0 hrun hPA.grp hPA.st0 hP'
    rw [e1] at h3
    exact ⟨b', _, _, h1, st3 (Fin := Fin) (ty := ty) hj0 hSW N0 w0 Low rr m _ _ sl1 _ q1 _ b' reg1 st1 d01 r2 n2 (gs_size.trans (hN1.trans hN)) (hR.trans hR1) hk1 h2 h3⟩
end
end
end Go.Ev
/- Between a fork and a join: the worker's whole life beside the joiner. -/
namespace Go.Ev
open Go.Conc
open Go.ConcX (WgAt wgBlock stA smA KK OfWg RCa RCd DC0 KCa Full Payload Shy DCs EvQ)
open Go.ConcN (sumTo sumTo_upd upd_same)

/-- The world, but for the group's block and one more. -/
structure JRelC (Wg C : Nat) (w w' : World) : Prop where
  size : w'.heap.size = w.heap.size
  block : ∀ b, b ≠ Wg → b ≠ C → w'.heap[b]? = w.heap[b]?
  os : w'.os = w.os
  tape : w'.tape = w.tape
  output : w'.output = w.output
theorem JRel.toC {Wg : Nat} {w w' : World} (h : JRel Wg w w') (C : Nat) : JRelC Wg C w w' := ⟨h.size, fun b h1 _ => h.block b h1, h.os, h.tape, h.output⟩
theorem JRelC.trans {Wg C : Nat} {a b c : World} (h : JRelC Wg C a b) (h' : JRelC Wg C b c) : JRelC Wg C a c :=
  ⟨h'.size.trans h.size, fun x h1 h2 => (h'.block x h1 h2).trans (h.block x h1 h2), h'.os.trans h.os, h'.tape.trans h.tape, h'.output.trans h.output⟩
theorem full_at {pl : Payload} {C : Nat} {vals : List Value} {w : World} (h : Full C vals w) : w.heap[C]? = some (.cells vals.toArray Payload.ety) := h rfl
theorem JRelC.toJ {Wg C : Nat} {w w' : World} {pl : Payload} {vals : List Value} (h : JRelC Wg C w w') (hw : Full C vals w) (hw' : Full C vals w') : JRel Wg w w' :=
  ⟨h.size, fun b h1 => by
    by_cases hb : b = C
    · subst hb; exact (full_at hw').trans (full_at hw).symm
    · exact h.block b h1 hb, h.os, h.tape, h.output⟩

/-- A family's open limb, strictly. -/
@[reducible] def strict (Wg C B : Nat) (hW : Wg < B) (hC : C < B) : Shy Wg C where
  ok act := (∀ x, act.touch? = some x → ∃ a, x.loc = .cell a ∧ (a.block = Wg ∨ a.block = C)) ∧ act.low B
  atomicWg a wr h := ⟨fun x hx => by simp only [MemAct.touch?, Option.some.injEq] at hx; subst hx; exact ⟨a, rfl, .inl h⟩, by show a.block < B; omega⟩
  readWg a h := ⟨fun x hx => by simp only [MemAct.touch?, Option.some.injEq] at hx; subst hx; exact ⟨a, rfl, .inl h⟩, by show a.block < B; omega⟩
  writeWg a h := ⟨fun x hx => by simp only [MemAct.touch?, Option.some.injEq] at hx; subst hx; exact ⟨a, rfl, .inl h⟩, by show a.block < B; omega⟩
  theirs a wr h := ⟨fun x hx => by simp only [MemAct.touch?, Option.some.injEq] at hx; subst hx; exact ⟨a, rfl, .inr h⟩, by show a.block < B; omega⟩
  disable := ⟨fun x hx => (by cases hx), trivial⟩
  enable := ⟨fun x hx => (by cases hx), trivial⟩
  relMerge := ⟨fun x hx => (by cases hx), hW⟩
  acquire := ⟨fun x hx => (by cases hx), hW⟩
  go1 := ⟨fun x hx => (by cases hx), trivial⟩
  start := ⟨fun x hx => (by cases hx), trivial⟩
  stop _ _ := True

/-- The worker enters 'Done'. -/
def AtDone (P : Program) (ty : TypeId) (Wg : Nat) (K : Ctx) (b : Goroutine) (w : World) : Prop :=
  b.status = .running ∧ ∃ (pl : Payload) (C : Nat) (vals : List Value), C ≠ Wg ∧ K.base ≤ C ∧ K.own C ∧ Full C vals w ∧
    ∀ (sh : Shy Wg C) (Mine : Loc → Prop), KCa ty Wg w → ∃ m, Goes P false (RCa ty Wg w.heap.size) (DCs Mine Wg C) (Go.ConcX.AtR0 P ty Wg C w.heap.size vals) m b w

section
variable {P : Program} {ty : TypeId} {Wg j : Nat} {Fin : Goroutine → Prop} {Shun : Loc → Prop} {reg : Bool} {st : Int} {d0 d1 r n : Nat} {rel : Option Nat} {gs : Array Goroutine} {w : World} {sl : Option (Nat × Nat)} {t : Trace} {a b : Goroutine} {q : Nat → Nat}

section
variable (hj0 : j ≠ 0) (hSW : ∀ l, Shun l → ¬ OfWg Wg l) (N0 : Nat) (w0 : World)
include hj0 hSW

/-- Inside 'Done', up to the release. -/
theorem st1 [pl : Payload] {C : Nat} (hCW : C ≠ Wg) {Low : Nat} (hW : Wg < Low) (hC : C < Low) (hLow : w0.heap.size = Low) (hCS : ∀ x : Addr, x.block = C → ¬ Shun (.cell x)) {vals : List Value} (hF0 : Full C vals w0) {Mine : Loc → Prop} :
    ∀ (m : Nat) (gs : Array Goroutine) (w : World) (sl : Option (Nat × Nat)) (t : Trace) (q : Nat → Nat) (a b : Goroutine) (reg : Bool) (st : Int) (d0 r n : Nat), gs.size = N0 → JRelC Wg C w0 w → (reg = true → st = KK + 1) →
      Goes P false (RCa ty Wg Low) (@DCs Mine Wg C (strict Wg C Low hW hC)) (@Go.ConcX.AtR0 pl P ty Wg C Low vals) m b w →
      PA P ty Wg j Fin Shun reg st d0 0 r n none gs w t a b q → Reaches P gs w sl t (Joined P ty Wg Fin Shun N0 w0) := by
  intro m
  induction m with
  | zero => exact fun gs w sl t q a b reg st d0 r n hN hR hk hG h => fin gs w sl t q a b reg st d0 r n hN hR hk hG h
  | succ m ih =>
    intro gs w sl t q a b reg st d0 r n hN hR hk hG h
    rcases Goes.cases hG with hs | ⟨m', hm, hs⟩
    · exact fin gs w sl t q a b reg st d0 r n hN hR hk hs h
    · cases hm
      refine worker_go hj0 hSW h fun gs1 w1 sl1 t1 reg1 st1 d01 r1 n1 a1 q1 hN1 hR1 hrs hPA => ?_
      have hk1 := one_or hk hrs
      obtain ⟨b', w2, es, h1, ⟨hA, hE⟩, h2⟩ := hs w1 (rca_of hk1 hPA hR1)
      have hR2 : JRelC Wg C w0 w2 := (hR.trans (hR1.toC C)).trans ⟨hA.size, fun x _ hx => hA.block x hx, hA.os, hA.tape, hA.output⟩
      have hrun : b'.status = .running := Goes.running (fun _ _ x => x.1) w2 (Go.ConcX.RCa.refl w2) h2
      have hd : deafBehind 0 es = 0 := deaf_still (fun e he => ⟨(hE e he).2.1, (hE e he).2.2.1⟩) 0
      have hg : WgAt ty Wg w2 st1 0 := (hA.block Wg (Ne.symm hCW)).trans hPA.grp
      have hP' := hPA.tr.worker (fn := b.frame.fn) (pos := b.frame.place) (B' := w2.heap.size) hj0 (by rw [hA.size]; exact Nat.le_refl _) hSW (es := es) (fun e he x hx => by
        obtain ⟨_, hf, _, hok⟩ := (hE e he).1 0 ""
        obtain ⟨_, hx1, hx2⟩ := hf x hx
        obtain ⟨y, hy, hyb⟩ := hok.1 x hx
        by_cases hyw : y.block = Wg
        · have ho : OfWg Wg x.loc := ⟨y, hy, hyw⟩
          obtain ⟨hp, hs⟩ := hx1 (.inl ho)
          refine .inr ⟨ho, ?_⟩
          cases hkx : x.kind with
          | atomic => rfl
          | plain => exact absurd hkx hp
          | said => exact absurd (hs hkx) (by omega)
        · have hyc : y.block = C := hyb.resolve_left hyw
          exact .inl ⟨by rw [hy]; exact hCS y hyc, fun ⟨z, hz, hzb⟩ => by rw [hy] at hz; cases hz; exact hyw hzb⟩) (fun e he => by
        have := ((hE e he).1 0 "").2.2.2.2
        rw [show w2.heap.size = Low by rw [hR2.size, hLow]]
        exact this) (rel' := none) (fun r hr => by cases hr)
      obtain ⟨r2, n2, h3⟩ := hPA.work (rel' := none) hj0 hrun hg hPA.st0 hP'
      rw [hd] at h3
      exact ⟨b', w2, es, h1, ih _ w2 sl1 _ q1 _ b' reg1 st1 d01 r2 n2 (gs_size.trans (hN1.trans hN)) hR2 hk1 h2 h3⟩
where
  fin (gs : Array Goroutine) (w : World) (sl : Option (Nat × Nat)) (t : Trace) (q : Nat → Nat) (a b : Goroutine) (reg : Bool) (st : Int) (d0 r n : Nat) (hN : gs.size = N0) (hR : JRelC Wg C w0 w) (hk : reg = true → st = KK + 1)
      (hG : ∀ w₁, RCa ty Wg Low w w₁ → @Go.ConcX.AtR0 pl P ty Wg C Low vals b w₁) (h : PA P ty Wg j Fin Shun reg st d0 0 r n none gs w t a b q) : Reaches P gs w sl t (Joined P ty Wg Fin Shun N0 w0) := by
    refine worker_go hj0 hSW h fun gs1 w1 sl1 t1 reg1 st1 d01 r1 n1 a1 q1 hN1 hR1 hrs hPA => ?_
    have hk1 := one_or hk hrs
    obtain ⟨_, hF, b', h1, m, h2⟩ := hG w1 (rca_of hk1 hPA hR1)
    have hrun : b'.status = .running := Goes.running (fun _ _ x => x.1) _ (Go.ConcX.RCa.refl _) h2
    have hP' := hPA.tr.release (fn := b.frame.fn) (pos := b.frame.place) hj0 hSW (wg_lt hPA.grp)
    obtain ⟨r2, n2, h3⟩ := hPA.work (es := #[mkE (.releaseMerge (stA Wg))]) (w2 := w1) (rel' := some t1.size) hj0 hrun hPA.grp hPA.st0 hP'
    exact ⟨b', _, _, h1, st2 (Fin := Fin) (ty := ty) hj0 hSW N0 w0 Low t1.size m _ _ sl1 _ q1 _ b' reg1 st1 d01 r2 n2 (gs_size.trans (hN1.trans hN)) ((hR.trans (hR1.toC C)).toJ hF0 hF) hk1 h2 h3⟩
end

/-- What the joiner has come to, the worker's last words ahead of 'Done' beside it. -/
def Joined0 (P : Program) (ty : TypeId) (Wg : Nat) (Fin : Goroutine → Prop) (Shun : Loc → Prop) (N : Nat) (Stop : Nat → Goroutine → World → Prop) : Array Goroutine → World → Option (Nat × Nat) → Trace → Prop := fun gs w sl t =>
  ∃ b ws, Stop 0 b ws ∧ Joined P ty Wg Fin Shun N ws gs w sl t

/-- THE WORKER's WHOLE LIFE BESIDE THE JOINER. -/
theorem st0 (hj0 : j ≠ 0) (hSW : ∀ l, Shun l → ¬ OfWg Wg l) {K : Ctx} (hA : Away K Shun) (hWg : ¬ K.own Wg) (hKW : K.base ≤ Wg) (N0 : Nat) {Stop : Nat → Goroutine → World → Prop} (hStop : ∀ d b w, Stop d b w → d = 0 ∧ AtDone P ty Wg K b w)
    {d : Nat} {b : Goroutine} {w : World} (hwalk : Walk P false K Stop d b w) : ∀ (gs : Array Goroutine) (sl : Option (Nat × Nat)) (t : Trace) (q : Nat → Nat) (a : Goroutine) (reg : Bool) (st : Int) (d0 r n : Nat) (w₁ : World), Rely K w w₁ → gs.size = N0 → (reg = true → st = KK + 1) →
      PA P ty Wg j Fin Shun reg st d0 d r n none gs w₁ t a b q → Reaches P gs w₁ sl t (Joined0 P ty Wg Fin Shun N0 Stop) := by
  have hrel : ∀ {w w₁ : World}, JRel Wg w w₁ → Rely K w w₁ := fun h => ⟨h.size, fun x _ hx => h.block x fun e => hWg (e ▸ hx), fun x hx => h.block x (by omega), h.os, h.tape, h.output⟩
  induction hwalk with
  | @stop d b w h =>
    intro gs sl t q a reg st d0 r n w₁ hr hN hk hPA
    have hS := h w₁ hr
    obtain ⟨rfl, hrun, pl, C, vals, hCW, hCb, hCo, hF, hG⟩ := hStop _ _ _ hS
    have hC : C < w₁.heap.size := (Array.getElem?_eq_some_iff.1 (full_at hF)).1
    have hW := wg_lt hPA.grp
    have hK : KCa ty Wg w₁ := by
      cases hr : reg with
      | false => left; rw [← hPA.st0 hr]; exact hPA.grp
      | true => right; rw [← hk hr]; exact hPA.grp
    obtain ⟨m, hG⟩ := hG (strict Wg C _ hW hC) (fun _ => True) hK
    refine Reaches.then (st1 (Fin := Fin) hj0 hSW N0 w₁ hCW hW hC rfl (fun x hx hs => hA _ C hs (by simp [blockOf, hx]) ⟨hCb, hCo⟩) hF m gs w₁ sl t q a b reg st d0 r n hN ((JRel.refl w₁).toC C) hk hG hPA) ?_
    exact fun gs w sl t hJ => .here ⟨b, w₁, hS, hJ⟩
  | @step d b w g' w' es hrun hst hw ih =>
    intro gs sl t q a reg st d0 r n w₁ hr hN hk hPA
    refine worker_go hj0 hSW hPA fun gs1 w2 sl1 t1 reg1 st1 d01 r1 n1 a1 q1 hN1 hR1 hrs hPA => ?_
    have hk1 := one_or hk hrs
    have hr2 : Rely K w w2 := hr.trans (hrel hR1)
    obtain ⟨h1, h2⟩ := hst w2 hr2
    have hg : WgAt ty Wg (w' w2) st1 0 := (h2.kept Wg (wg_lt hPA.grp) (fun x => hWg x.2)).trans hPA.grp
    have hrun' : (g' w2).status = .running := by
      cases hw w2 hr2 with
      | stop h => exact (hStop _ _ _ (h _ (Rely.refl _))).2.1
      | step _ _ _ h => exact h
    have hP' := hPA.tr.worker (fn := b.frame.fn) (pos := b.frame.place) (B' := (w' w2).heap.size) hj0 h2.size hSW (es := es w2) (fun e he x hx => by
      obtain ⟨y, hy, hy1, hy2, _⟩ := evG_touch (h2.evs e he) hx
      refine .inl ⟨fun hs => hA _ y hs hy ⟨hy1, hy2⟩, fun ⟨z, hz, hzb⟩ => ?_⟩
      rw [hz] at hy
      simp only [blockOf, Option.some.injEq] at hy
      exact hWg (by rw [← hzb, hy]; exact hy2)) (fun e he => evG_low (h2.evs e he)) (rel' := none) (fun r hr => by cases hr)
    obtain ⟨r2, n2, h3⟩ := hPA.work (rel' := none) hj0 hrun' hg hPA.st0 hP'
    exact ⟨g' w2, w' w2, es w2, h1, ih w2 hr2 _ sl1 _ q1 _ reg1 st1 d01 r2 n2 (w' w2) (Rely.refl _) (gs_size.trans (hN1.trans hN)) hk1 h3⟩
end
end Go.Ev
/- A stack that is gone through from outside: the activations that are looked into, step by step; all others at once. -/
namespace Go.Ev
open Go.Conc (G)

structure OS where
  f : AF
  k : List (AF × Option Tmp)
  h : AH

noncomputable def resO (f : AF) (d : Option Tmp) (v : AV) : AF := match f with | ⟨x, tm, td, ds, _⟩ => ⟨x, fin x d v tm, td, ds, false⟩

noncomputable def stepO (E : Env) (r : RunF) (out : List FuncId) (s : OS) : Option OS :=
  match s with
  | ⟨f, k, h⟩ => match stepA E f h with
    | some (.go f' h') => some ⟨f', k, h'⟩
    | some (.call f' d g args h') => cond (out.any (Nat.beq g))
      (match enterA E g args false with | some f2 => some ⟨f2, (f', d) :: k, h'⟩ | none => none)
      (match runC E r g args false h' with | some p => some ⟨resO f' d p.1, k, p.2⟩ | none => none)
    | some (.drawn x tm ops k0 ds h') => cond (regOk ops.toList (Region.before ops) ops) (match runD E r x (Region.before ops) ops h' ops.toList 0 tm [] [] [] h' with
      | some p => some ⟨⟨x, p.1, k0, ds, false⟩, k, p.2⟩
      | none => none) none
    | some (.ret v h') => (match k with
      | (f', d) :: k' => cond f.x.deferred none (some ⟨resO f' d v, k', h'⟩)
      | [] => none)
    | _ => none

def RSo (ι : Nm) : List (AF × Option Tmp) → List Frame → Prop
  | [], frs => frs = []
  | (f, d) :: k, frs => ∃ fr r, frs = fr :: r ∧ Waits ι f d fr ∧ RSo ι k r

/-- No name is in use from here on. -/
def Bare (ι : Nm) (n : Nat) : Prop := ∀ i, n ≤ i → ι i = none

/-- Where the stack is. -/
def OAt (K : Ctx) (ι0 : Nm) (cs : List Frame) (s : OS) (d : Nat) (g : Goroutine) (w : World) : Prop :=
  ∃ ι fr frs, g = G fr (frs ++ cs) ∧ Bare ι s.h.nx ∧ RF ι s.f fr ∧ RSo ι s.k frs ∧ Sat K ι s.h w ∧ d = s.h.df ∧ Ext ι0 ι

theorem Bare.free {ι : Nm} {n m : Nat} (h : Bare ι n) : Free ι n m := fun i hi _ => h i hi
theorem Bare.grow {ι ι' : Nm} {n n' : Nat} (h : Bare ι n) (g : Grow ι ι' n n') : Bare ι' n' := fun i hi => by rw [g.same i (.inr hi)]; exact h i (by have := g.le; omega)
theorem RSo.mono {ι ι' : Nm} (he : Ext ι ι') : ∀ {k : List (AF × Option Tmp)} {frs : List Frame}, RSo ι k frs → RSo ι' k frs
  | [], _, h => h
  | (f, d) :: k, frs, ⟨fr, r, h1, h2, h3⟩ => ⟨fr, r, h1, fun ι'' v u he' hv => h2 ι'' v u (fun i p hp => he' i p (he i p hp)) hv, h3.mono he⟩

section
variable {P : Program} {main : Bool} {K : Ctx} {ι0 : Nm} {E : Env} {cs : List Frame} {out : List FuncId}

theorem stepO_ok (F : Fits P E) (FF : FitsF P E) (hP : K.P = P) (n : Nat) {s s' : OS} (e : stepO E (runF E n) out s = some s') {d : Nat} {g : Goroutine} {w : World} (H : OAt K ι0 cs s d g w) : Walk P main K (OAt K ι0 cs s') d g w := by
  obtain ⟨f, k, h⟩ := s
  obtain ⟨ι, fr, frs, rfl, hB, R, HS, S, rfl, hE0⟩ := H
  have hr := runF_ok (P := P) (main := main) F FF n
  have hup : RunF.Up (runF E n) := runF_up n
  have hD := draw_ok (main := main) F FF hr hup
  unfold stepO at e
  simp only at e R HS S hB
  cases hs : stepA E f h with
  | none => rw [hs] at e; cases e
  | some a =>
    rw [hs] at e
    have hx := step_x hs
    refine Walk.of rfl fun w₁ hr₁ => ?_
    have S₁ := S.rely hr₁
    have ok₁ : A1Ok P main K ι h w₁ fr (frs ++ cs) a := step_ok hP F FF S₁ R hs
    cases a with
    | go f' h1 =>
      cases e
      obtain ⟨ι', fr', w', es, k1, k2, k3, k4, k5, k6⟩ := ok₁ hB.free
      exact ⟨_, w', es, k1, k5, .stop fun w₂ hr₂ => ⟨ι', fr', frs, rfl, hB.grow k2, k4, HS.mono (k2.ext hB.free), k3.rely hr₂, k6, hE0.trans (k2.ext hB.free)⟩⟩
    | ret v h1 =>
      obtain ⟨u, w', es, k1, k2, k3, k4, k5, k6⟩ : RetTo P main K ι h w₁ fr (frs ++ cs) v h1 := ok₁
      simp only at e
      cases k with
      | nil => cases e
      | cons p k =>
        obtain ⟨f', d⟩ := p
        simp only at e
        cases hd : f.x.deferred with
        | true => rw [hd] at e; cases e
        | false =>
          rw [hd] at e
          cases e
          obtain ⟨fr1, r1, rfl, hw1, hs1⟩ := HS
          have hk : fr.kind = .normal := by rw [R.kind, hd]; rfl
          rw [List.cons_append, doReturn_back (.inl hk) (fun hx => by rw [hk] at hx; cases hx), hk] at k1
          refine ⟨G (fr1.finish u) (r1 ++ cs), w', es, by rw [List.cons_append, k1]; simp [GStep.after, back], k4, .stop fun w₂ hr₂ => ⟨ι, fr1.finish u, r1, rfl, ?_, ?_, hs1, k2.rely hr₂, k5, hE0⟩⟩
          · show Bare ι h1.nx
            rw [k6]; exact hB
          · obtain ⟨x, tm, td, ds, rt⟩ := f'
            exact hw1 ι v u (fun _ _ h => h) k3
    | call f' d g args h1 =>
      obtain ⟨ι', fr', vs, w', es, k1, k2, k3, k4, ⟨k5, k5'⟩, k6, k7⟩ := ok₁ hB.free
      simp only at e
      cases ho : out.any (Nat.beq g) with
      | true =>
        rw [ho] at e
        simp only [cond_true] at e
        cases he : enterA E g args false with
        | none => rw [he] at e; cases e
        | some f2 =>
          rw [he] at e
          cases e
          exact ⟨_, w', es, k1, k6, .stop fun w₂ hr₂ => ⟨ι', _, fr' :: frs, rfl, hB.grow k2, enter_ok FF he k4 rfl, ⟨fr', frs, rfl, k5, HS.mono (k2.ext hB.free)⟩, k3.rely hr₂, k7, hE0.trans (k2.ext hB.free)⟩⟩
      | false =>
        rw [ho] at e
        simp only [cond_false] at e
        cases hp : runC E (runF E n) g args false h1 with
        | none => rw [hp] at e; cases e
        | some p =>
          rw [hp] at e
          cases e
          refine ⟨_, w', es, k1, k6, ?_⟩
          rw [k7]
          have hB' := hB.grow k2
          refine (runC_ok hr hP FF hp k3 k4 rfl (fun hx => by cases hx) hB'.free).bind ?_
          rintro d' g' w'' ⟨ι'', u, rfl, g1, g2, g3, rfl⟩
          have hE := g1.ext hB'.free
          obtain ⟨x, tm, td, ds, rt⟩ := f'
          exact .stop fun w₂ hr₂ => ⟨ι'', fr'.finish u, frs, rfl, hB'.grow g1, k5 ι'' p.1 u hE g3, (HS.mono (k2.ext hB.free)).mono hE, g2.rely hr₂, rfl, (hE0.trans (k2.ext hB.free)).trans hE⟩
    | drawn x tm ops k0 ds h1 =>
      obtain ⟨rfl, t, d, k', k1, k2, k3⟩ := ok₁
      simp only at e
      cases hb : regOk ops.toList (Region.before ops) ops with
      | false => rw [hb] at e; cases e
      | true =>
        rw [hb] at e
        simp only [cond_true] at e
        split at e
        · rename_i p hp
          cases e
          refine ⟨_, _, #[], k1, FineG.drawn w₁ d, ?_⟩
          have W := hD K ι { w₁ with drawn := d } x tm ds ops t k' _ (frs ++ cs) h1 p.1 p.2 hP (S₁.drawn d) k3 hb hp hB.free
          refine W.bind ?_
          rintro d' g' w'' ⟨ι'', fr'', rfl, j1, j2, j3, rfl⟩
          have hE := j1.ext hB.free
          refine Walk.of rfl fun w₃ hr₃ => ?_
          have ht := j3.todo
          have hm := j3.mode
          refine ⟨G { fr'' with todo := k' } (frs ++ cs), w₃, #[], by simp [G, stepG, hm, stepG.exec, ht], FineG.refl w₃, .stop fun w₂ hr₂ => ?_⟩
          have R2 : RF ι'' ⟨x, p.1, k0, ds, false⟩ { fr'' with todo := k' } := ⟨j3.fn, j3.tm, k2.mono hE, j3.ds, by simpa using j3.mode, j3.kind, j3.round⟩
          exact ⟨ι'', _, frs, rfl, hB.grow j1, R2, HS.mono hE, (j2.rely hr₃).rely hr₂, rfl, hE0.trans hE⟩
        · cases e
    | _ => cases e

/-- So many steps, as far as it goes. -/
noncomputable def runO (E : Env) (r : RunF) (out : List FuncId) (n : Nat) : OS → OS :=
  @Nat.rec (fun _ => OS → OS) (fun s => s) (fun _ ih s => match stepO E r out s with | some s' => ih s' | none => s) n

theorem runO_ok (F : Fits P E) (FF : FitsF P E) (hP : K.P = P) (n : Nat) : ∀ (m : Nat) (s : OS) {d : Nat} {g : Goroutine} {w : World}, OAt K ι0 cs s d g w → Walk P main K (OAt K ι0 cs (runO E (runF E n) out m s)) d g w
  | 0, s, d, g, w, H => .stop fun w₁ hr => by
    obtain ⟨ι, fr, frs, h1, h2, h3, h4, h5, h6, h7⟩ := H
    exact ⟨ι, fr, frs, h1, h2, h3, h4, h5.rely hr, h6, h7⟩
  | m + 1, s, d, g, w, H => by
    have e : runO E (runF E n) out (m + 1) s = (match stepO E (runF E n) out s with | some s' => runO E (runF E n) out m s' | none => s) := rfl
    rw [e]
    cases hs : stepO E (runF E n) out s with
    | none =>
      refine .stop fun w₁ hr => ?_
      obtain ⟨ι, fr, frs, h1, h2, h3, h4, h5, h6, h7⟩ := H
      exact ⟨ι, fr, frs, h1, h2, h3, h4, h5.rely hr, h6, h7⟩
    | some s' => exact (stepO_ok F FF hP n hs H).bind fun d' g' w' H' => runO_ok F FF hP n m s' H'
end
end Go.Ev
/- The go statement; the worker from its birth to 'Done'; goroutine 0 up to the other side of 'Wait'. -/
namespace Go.Ev
open Go.Conc
open Go.ConcX (WgAt wgBlock stA smA KK OfWg RCa RCd DC0 KCa Full Payload Shy DCs EvQ)
open Go.ConcN (sumTo sumTo_upd upd_same)
open Go.Conc.Lib (WgLib WgLink)

/-- The bottom of a goroutine's stack. -/
noncomputable def bot (P : Program) : Frame := { (default : Frame) with fn := P.funcs.size, defers := [], mode := .panicking [goexitEntry] }
theorem bot_calm (P : Program) : Calm (bot P) := fun e l h => by
  simp only [bot, FrameMode.panicking.injEq, List.cons.injEq] at h
  rw [← h.1]; rfl

section
variable {P : Program} {E : Env} {ι : Nm}

/-- The worker's frame, once its last deferred call is made: it only leaves. -/
theorem quits_tail (F : Fits P E) (FF : FitsF P E) {f : AF} {v : AV} (hd : f.x.deferred = true) (e : stepT E f = some (.ret v)) {fr : Frame} (R : RF ι f fr) : QuitsD P 2 0 (G fr [bot P]) := by
  obtain ⟨u, _, h2⟩ := tame_ok (main := false) (cs := [bot P]) F FF R e
  have hk : fr.kind = .deferred := by rw [R.kind, hd]; rfl
  refine QuitsD.ctl (g' := G (bot P) []) rfl (fun w => ?_) ?_
  · rw [h2 w, doReturn_back (.inr hk) (fun _ => bot_calm P), hk]; rfl
  · refine QuitsD.ctl (g' := { G (bot P) [] with status := .finished }) rfl (fun w => ?_) ⟨rfl, rfl⟩
    simp [G, stepG, unwind, bot, goexitEntry, Frame.catches]
    rfl

/-- The worker's first step. -/
theorem born_step (FF : FitsF P E) {g : FuncId} {c : Code} {n : Nat} {rs : List ResultVar} {x : EX} (hg : E.ft.get g = some ⟨some c, n, rs, x⟩) (fs as cs' : Array Value) (w : World) :
    stepG P false (born P { target := .fn (.func g) cs', args := fs ++ as }) w = .go (G (Frame.enter P g ((fs ++ as) ++ cs') .deferred) [bot P]) w #[] := by
  obtain ⟨fn, h1, h2, _, _, h5⟩ := FF.code g c n rs x hg
  have h5' : ¬ fn.name = "runtime.NumGoroutine" := by simpa using h5
  simp [born, stepG, unwind, callDeferred, invoke, callFunc, h1, h2, h5', seen, GStep.after, G, bot]

/-- In 'Done'. -/
theorem done_ok (F : Fits P E) (FF : FitsF P E) {L : WgLink} (H : WgLib P L) {K : Ctx} {h : AH} {w : World} (hP : K.P = P) (S : Sat K ι h w) {Wg : Nat} (hWg : ¬ K.own Wg) (hW : Wg < w.heap.size) {c : Nat} {vs : List AV} {el : TypeId} (hc : h.obj c = .cells vs el false false)
    {f : AF} {v : AV} (hd : f.x.deferred = true) (e : stepT E f = some (.ret v)) {fr : Frame} (R : RF ι f fr) (hm : fr.mode = .returning) : AtDone P L.tWg Wg K (G (Frame.enter P L.done #[.pointer (some ⟨Wg, 0, none⟩)] .deferred) (fr :: [bot P])) w := by
  obtain ⟨p, ob, hp, hb1, hown, hlt, hb, ca, lo, hi, rfl, ⟨l1, l2, hl, hv⟩, h1, h2, h3⟩ := S.at hc trivial
  obtain ⟨rfl, rfl⟩ := (h3 rfl).2 rfl
  have hne : p.1 ≠ Wg := fun x => hWg (x ▸ hown)
  refine ⟨rfl, ⟨el⟩, p.1, ca.toList, hne, hb1, hown, fun _ => by rw [hb, Array.toArray_toList]; rfl, fun sh Mine hK => ?_⟩
  have hD := @Go.ConcX.Gen.doneD ⟨el⟩ L P H Mine Wg p.1 w.heap.size sh ca.toList hW hlt hne fr [bot P] 2 hm (quits_tail F FF hd e R) w ⟨hK, fun _ => by rw [hb, Array.toArray_toList]; rfl⟩
  have he : Frame.enter P L.done #[.pointer (some ⟨Wg, 0, none⟩)] .deferred = (baseD L.done).at ⟨#[.pointer (some ⟨Wg, 0, none⟩), undef, undef, undef], []⟩ [.code (@Go.ConcX.Gen.body_done L)] := by
    rw [enter_atD _ H.f_done (c := @Go.ConcX.Gen.body_done L) (by rfl)]
    rfl
  rw [he]
  exact ⟨23, hD⟩
end

/-! ### goroutine 0 beside leavers, where it does not go on by an ordinary step -/
section
variable {P : Program} {Shun : Loc → Prop} {ty : TypeId} {Wg : Nat}

/-- Its turn. -/
theorem pick_main {a : Goroutine} (hrun : a.status = .running) {B d N0 : Nat} {w0 : World} : ∀ (S : Nat) (gs : Array Goroutine) (w : World) (sl : Option (Nat × Nat)) (t : Trace) (q : Nat → Nat), sumTo gs.size q = S → gs.size = N0 → gs[0]? = some a → Leavers P t gs q → PastD Shun B d t → (∃ x, w = w0.at x) →
    Reaches P gs w sl t (fun gs' w' sl' t' => gs'.size = N0 ∧ gs'[0]? = some a ∧ (∃ x, w' = w0.at x) ∧ ∃ q', Leavers P t' gs' q' ∧ PastD Shun B d t' ∧ ∃ dr sl'', Go.stepT P (crowd gs' w' sl') = runT P (crowd gs' (w'.at dr) sl'') 0) := by
  intro S
  induction S using Nat.strongRecOn with
  | ind S ih =>
    intro gs w sl t q hS hN h0 hL hP hw
    obtain ⟨i, g, dr, sl', hi, hg, hpk⟩ := crowd_pick (P := P) (w := w) (sl := sl) (solo_awake hL h0 hrun) ⟨0, a, h0, hrun⟩
    rcases Nat.eq_zero_or_pos i with rfl | hpos
    · exact .here ⟨hN, h0, hw, q, hL, hP, dr, sl', hpk⟩
    · obtain ⟨k, g1, es1, hqi, hrunT, hm, hsz, h0', hL', hlt⟩ := leaver_step (w := w) (sl' := sl') (d := dr) hL h0 hrun hpos hi hg
      exact Reaches.step (by rw [hpk]; exact hrunT) (ih _ (by rw [← hS]; exact hlt) _ (w.at dr) sl' _ (ConcN.upd q i k) (by rw [hsz]) (hsz.trans hN) h0' hL' (hP.mute (by omega) hm) (by obtain ⟨x, rfl⟩ := hw; exact ⟨dr, rfl⟩))

/-- It goes on, leaving the world alone. -/
theorem mw_past {N0 : Nat} {Stop : Nat → Goroutine → Prop} (hSr : ∀ d g, Stop d g → g.status = .running) {w0 : World} {st sm : Int} (hw0 : WgAt ty Wg w0 st sm) : ∀ (n S : Nat) (a : Goroutine) (d : Nat) (gs : Array Goroutine) (w : World) (sl : Option (Nat × Nat)) (t : Trace) (q : Nat → Nat), sumTo gs.size q = S → gs.size = N0 → gs[0]? = some a → MW P ty Wg Stop n d a → Leavers P t gs q → PastD Shun w0.heap.size d t → (∃ x, w = w0.at x) →
    Reaches P gs w sl t (fun gs' w' sl' t' => ∃ d' a' q', gs'.size = N0 ∧ gs'[0]? = some a' ∧ Stop d' a' ∧ (∃ x, w' = w0.at x) ∧ Leavers P t' gs' q' ∧ PastD Shun w0.heap.size d' t') := by
  intro n
  induction n with
  | zero => exact fun S a d gs w sl t q _ hN h0 hM hL hP hw => .here ⟨d, a, q, hN, h0, hM, hw, hL, hP⟩
  | succ n ih =>
    intro S a d gs w sl t q hS hN h0 hM hL hP hw
    rcases mw_cases hM with hs | ⟨m, hm, hrun, hst⟩
    · exact .here ⟨d, a, q, hN, h0, hs, hw, hL, hP⟩
    · cases hm
      refine Reaches.then (pick_main hrun S gs w sl t q hS hN h0 hL hP hw) ?_
      rintro gs1 w1 sl1 t1 ⟨hN1, h01, ⟨x, rfl⟩, q1, hL1, hP1, dr, sl2, hpk⟩
      obtain ⟨g', es, h1, h2, h3⟩ := hst ((w0.at x).at dr) ⟨st, sm, hw0⟩
      have hrunT := runT_crowd_go (P := P) (sl := sl2) (i := 0) h01 (show stepG P (0 == 0) a ((w0.at x).at dr) = _ from h1)
      refine Reaches.step (by rw [hpk]; exact hrunT) ?_
      exact ih _ g' _ _ _ sl2 _ q1 rfl (gs_size.trans hN1) (gs_same h01) h3 (leavers_own hL1 h01) (hP1.own (fn := a.frame.fn) (pos := a.frame.place) (fun e he x hx _ => (jev_touch (.inl (h2 e he)) hx).2) (fun e he => jev_low (.inl (h2 e he)) (wg_lt hw0))) ⟨dr, rfl⟩
end
end Go.Ev
/- From a go statement to the other side of 'Wait'. -/
namespace Go.Ev
open Go.Conc
open Go.ConcX (WgAt wgBlock stA smA KK OfWg RCa RCd DC0 KCa Full Payload Shy DCs EvQ)
open Go.ConcN (sumTo sumTo_upd upd_same)
open Go.Conc.Lib (WgLib WgLink)

noncomputable def toCallO (E : Env) (n : Nat) : AF → Option (AF × Option Tmp × FuncId × List AV) :=
  @Nat.rec (fun _ => AF → Option (AF × Option Tmp × FuncId × List AV)) (fun _ => none) (fun _ ih f => match stepT E f with
    | some (.go f') => ih f'
    | some (.call f' d g args) => some (f', d, g, args)
    | _ => none) n

noncomputable def wgHere (ty : TypeId) (h : AH) (id : Nat) : Bool := match h.obj id with
  | .cells [.int .u64 st, .int .u32 sm] el false false => st == KK && sm == 0 && Nat.beq el ty
  | _ => false
noncomputable def plainHere (h : AH) (id : Nat) : Bool := match h.obj id with | .cells _ _ false false => true | _ => false

def isRetT : Option T1 → Bool
  | some (.ret _) => true
  | _ => false

/-- At the deferred 'Done'. -/
noncomputable def endW (E : Env) (D : FuncId) (wg : Nat) (s : OS) : Option AH :=
  match s.k, stepA E s.f s.h with
  | [], some (.dcall f' g [.ptr i 0] h') => cond (Nat.beq g D && (Nat.beq i wg && (Nat.beq h'.df 0 && (isRetT (stepT E f') && f'.x.deferred)))) (some h') none
  | _, _ => none

def blkOf : List AV → Option Nat
  | _ :: .ptr c 0 :: _ => some c
  | _ => none

noncomputable def spawnO (E : Env) (I : WgIds) (D : FuncId) (ty : TypeId) (n m : Nat) (out : List FuncId) (s : OS) : Option OS :=
  match stepT E s.f with
  | some (.spawn f' g args) => match toCallO E 200 f' with
    | some (fw, dw, gw, [.ptr wg 0]) => cond (Nat.beq gw I.wait && (wgHere ty s.h wg && Nat.beq s.h.df 0)) (match enterA E g args true, blkOf args with
      | some f2, some c => match endW E D wg (runO E (runF E n) out m ⟨f2, [], s.h.put wg .dead⟩) with
        | some h' => cond (plainHere h' c) (some ⟨resO fw dw (.tup []), s.k, h'⟩) none
        | none => none
      | _, _ => none) none
    | _ => none
  | _ => none

/-! ### the joiner's end may be put wider -/
section
variable {P : Program} {ty : TypeId} {Wg : Nat} {Fin Fin' : Goroutine → Prop}
theorem MW.mono {Stop Stop' : Nat → Goroutine → Prop} (h : ∀ d g, Stop d g → Stop' d g) : ∀ {n d : Nat} {g : Goroutine}, MW P ty Wg Stop n d g → MW P ty Wg Stop' n d g
  | 0, _, _, H => h _ _ H
  | n + 1, d, g, H => H.elim (fun x => .inl (h _ _ x)) fun x => .inr ⟨x.1, fun w hw => by
      obtain ⟨g', es, h1, h2, h3⟩ := x.2 w hw
      exact ⟨g', es, h1, h2, MW.mono h h3⟩⟩
theorem AtAcq.mono (h : ∀ g, Fin g → Fin' g) {g : Goroutine} (H : AtAcq P Wg Fin g) : AtAcq P Wg Fin' g := ⟨H.1, fun w => by obtain ⟨g', h1, h2⟩ := H.2 w; exact ⟨g', h1, h _ h2⟩⟩
theorem MAcq.mono (h : ∀ g, Fin g → Fin' g) {n : Nat} {g : Goroutine} (H : MAcq P ty Wg Fin n g) : MAcq P ty Wg Fin' n g := MW.mono (fun _ _ x => ⟨x.1, x.2.mono h⟩) H
theorem AtLd0.mono (h : ∀ g, Fin g → Fin' g) {g : Goroutine} (H : AtLd0 P ty Wg Fin g) : AtLd0 P ty Wg Fin' g := ⟨H.1, fun w sm hw => by obtain ⟨g', h1, n, h2⟩ := H.2 w sm hw; exact ⟨g', h1, n, h2.mono h⟩⟩
theorem MLd0.mono (h : ∀ g, Fin g → Fin' g) {n : Nat} {g : Goroutine} (H : MLd0 P ty Wg Fin n g) : MLd0 P ty Wg Fin' n g := MW.mono (fun _ _ x => ⟨x.1, x.2.mono h⟩) H
theorem AtSem.mono (h : ∀ g, Fin g → Fin' g) {g : Goroutine} (H : AtSem P ty Wg Fin g) : AtSem P ty Wg Fin' g := ⟨H.1, H.2.1, H.2.2.1, fun w hw => by obtain ⟨g', h1, n, h2⟩ := H.2.2.2 w hw; exact ⟨g', h1, n, h2.mono h⟩⟩
theorem MSem.mono (h : ∀ g, Fin g → Fin' g) {n : Nat} {g : Goroutine} (H : MSem P ty Wg Fin n g) : MSem P ty Wg Fin' n g := MW.mono (fun _ _ x => ⟨x.1, x.2.mono h⟩) H
theorem AtCas.mono (h : ∀ g, Fin g → Fin' g) {g : Goroutine} (H : AtCas P ty Wg Fin g) : AtCas P ty Wg Fin' g :=
  ⟨H.1, fun w hw => by obtain ⟨g', h1, n, h2⟩ := H.2.1 w hw; exact ⟨g', h1, n, h2.mono h⟩, fun w hw => by obtain ⟨g', h1, n, h2⟩ := H.2.2 w hw; exact ⟨g', h1, n, h2.mono h⟩⟩
theorem MCas.mono (h : ∀ g, Fin g → Fin' g) {n : Nat} {g : Goroutine} (H : MCas P ty Wg Fin n g) : MCas P ty Wg Fin' n g := MW.mono (fun _ _ x => ⟨x.1, x.2.mono h⟩) H
theorem AtLd.mono (h : ∀ g, Fin g → Fin' g) {g : Goroutine} (H : AtLd P ty Wg Fin g) : AtLd P ty Wg Fin' g :=
  ⟨H.1, fun w hw => by obtain ⟨g', h1, n, h2⟩ := H.2.1 w hw; exact ⟨g', h1, n, h2.mono h⟩, fun w hw => by obtain ⟨g', h1, n, h2⟩ := H.2.2 w hw; exact ⟨g', h1, n, h2.mono h⟩⟩
theorem MLd.mono (h : ∀ g, Fin g → Fin' g) {d n : Nat} {g : Goroutine} (H : MLd P ty Wg Fin d n g) : MLd P ty Wg Fin' d n g := MW.mono (fun _ _ x => ⟨x.1, x.2.mono h⟩) H
end

section
variable {P : Program} {E : Env} {I : WgIds} {ι : Nm}

/-- At the entry of what is called. -/
def AtEntry (P : Program) (ι : Nm) (fw : AF) (dw : Option Tmp) (g : FuncId) (args : List AV) (cs : List Frame) (dd : Nat) : Nat → Goroutine → Prop := fun d a =>
  d = dd ∧ ∃ fr' vs, a = G (Frame.enter P g vs .normal) (fr' :: cs) ∧ WaitsS ι fw dw fr' ∧ RVs ι args vs.toList

theorem toCallO_ok (F : Fits P E) (FF : FitsF P E) {ty : TypeId} {Wg : Nat} {g : FuncId} {args : List AV} {fw : AF} {dw : Option Tmp} {c : Code} {nt : Nat} {rs : List ResultVar} {x : EX} (hg : E.ft.get g = some ⟨some c, nt, rs, x⟩) (cs : List Frame) (dd : Nat) : ∀ (n : Nat) (f : AF) (fr : Frame), toCallO E n f = some (fw, dw, g, args) → RF ι f fr →
    MW P ty Wg (AtEntry P ι fw dw g args cs dd) n dd (G fr cs)
  | 0, _, _, e, _ => by cases e
  | n + 1, f, fr, e, R => by
    have e : (match stepT E f with
      | some (.go f') => toCallO E n f'
      | some (.call f' d g args) => some (f', d, g, args)
      | _ => none) = some (fw, dw, g, args) := e
    split at e
    · rename_i f' hs
      have h := tame_ok (main := true) (cs := cs) F FF R hs
      refine .inr ⟨rfl, fun w _ => ?_⟩
      obtain ⟨fr', ⟨es, h1, h2⟩, h3⟩ := h w
      refine ⟨_, es, h1, mev_noRoom h2, ?_⟩
      rw [deaf_noRoom h2]
      exact toCallO_ok F FF hg cs dd n f' fr' e h3
    · rename_i f' d g' args' hs
      cases e
      obtain ⟨h1, _, vs, h2, h3⟩ := tame_ok (main := true) (cs := cs) F FF R hs
      refine .inr ⟨rfl, fun w _ => ⟨_, #[], (h3 w).1 _ _ _ _ hg, by simp, ?_⟩⟩
      have : AtEntry P ι fw dw g args cs dd dd (G (Frame.enter P g vs .normal) (fr :: cs)) := ⟨rfl, fr, vs, rfl, h1, h2⟩
      cases n with
      | zero => exact this
      | succ n => exact .inl this
    · cases e

/-- The joiner, from behind the go statement. -/
theorem join_ok (X : Tabs P E I) (hwait : waitOk E I = true) {ty : TypeId} {Wg cp wg : Nat} (hι : ι wg = some (Wg, cp)) {fw : AF} {dw : Option Tmp} {f : AF} {fr : Frame} (cs : List Frame) {n : Nat} (e : toCallO E n f = some (fw, dw, I.wait, [.ptr wg 0])) (R : RF ι f fr) :
    ∃ m, MLd P ty Wg (fun a => ∃ fr', WaitsS ι fw dw fr' ∧ FinAt P ty Wg fr' cs a) 0 m (G fr cs) := by
  have hg : ∃ c nt rs x, E.ft.get I.wait = some ⟨some c, nt, rs, x⟩ := by
    unfold waitOk at hwait
    split at hwait
    · rename_i f hf
      unfold enterA at hf
      split at hf
      · rename_i c n rs x hx
        exact ⟨c, n, rs, x, hx⟩
      · cases hf
    · cases hwait
  obtain ⟨c, nt, rs, x, hg⟩ := hg
  have h1 := toCallO_ok (ty := ty) (Wg := Wg) X.F X.FF hg cs 0 n f fr e R
  refine ⟨n + 200, acq_ok.mw_then (m := 200) (fun d g hd => ?_) h1⟩
  obtain ⟨rfl, fr', vs, rfl, hw, hv⟩ := hd
  obtain ⟨v, rfl, hv1⟩ := args1 hv
  obtain ⟨p, hp, rfl⟩ := ptr_inv hv1
  rw [hι] at hp; cases hp
  exact MLd.mono (fun a ha => ⟨fr', hw, ha⟩) (wait_ok (ty := ty) (Wg := Wg) X hwait fr' cs)
end

/-! ### goroutine 0's stack on the machine -/

/-- Goroutine 0 is at this, all others leaving. -/
def MAt (P : Program) (W : World) (B0 : Nat) (cs : List Frame) (s : OS) : Array Goroutine → World → Option (Nat × Nat) → Trace → Prop := fun gs w _ t =>
  ∃ K Shun a q, K.P = P ∧ K.W0 = W ∧ K.base = B0 ∧ Away K Shun ∧ gs[0]? = some a ∧ OAt K (fun _ => none) cs s s.h.df a w ∧ Leavers P t gs q ∧ PastD Shun w.heap.size s.h.df t

section
variable {P : Program} {E : Env} {I : WgIds} {W : World} {B0 : Nat} {cs : List Frame} {gs : Array Goroutine} {w : World} {sl : Option (Nat × Nat)} {t : Trace} {s s' : OS}

theorem run_past (F : Fits P E) (FF : FitsF P E) (n m : Nat) (out : List FuncId) (H : MAt P W B0 cs s gs w sl t) : Reaches P gs w sl t (MAt P W B0 cs (runO E (runF E n) out m s)) := by
  obtain ⟨K, Shun, a, q, h1, h2, h3, hA, h0, hO, hL, hP⟩ := H
  refine Reaches.then (walk_past hA (runO_ok (main := true) F FF h1 n (out := out) m s hO) w (Rely.refl w) gs sl t q h0 hL hP) ?_
  rintro gs1 w1 sl1 t1 ⟨a1, d1, q1, hN, h01, hO1, hL1, hP1⟩
  obtain ⟨ι, fr, frs, k1, k2, k3, k4, k5, rfl, k6⟩ := hO1
  exact .here ⟨K, Shun, a1, q1, h1, h2, h3, hA, h01, ⟨ι, fr, frs, k1, k2, k3, k4, k5, rfl, k6⟩, hL1, hP1⟩

theorem wgHere_inv {ty : TypeId} {h : AH} {id : Nat} (e : wgHere ty h id = true) : h.obj id = .cells [.int .u64 KK, .int .u32 0] ty false false := by
  unfold wgHere at e
  split at e
  · rename_i st sm el ho
    simp only [Bool.and_eq_true, beq_iff_eq] at e
    obtain ⟨⟨rfl, rfl⟩, e⟩ := e
    rw [Nat.eq_of_beq_eq_true e] at ho
    exact ho
  · cases e
theorem plainHere_inv {h : AH} {id : Nat} (e : plainHere h id = true) : ∃ vs el, h.obj id = .cells vs el false false := by
  unfold plainHere at e
  split at e
  · exact ⟨_, _, ‹_›⟩
  · cases e
theorem endW_inv {D wg : Nat} {s : OS} {h : AH} (e : endW E D wg s = some h) : s.k = [] ∧ h.df = 0 ∧ ∃ f' v, stepA E s.f s.h = some (.dcall f' D [.ptr wg 0] h) ∧ stepT E f' = some (.ret v) ∧ f'.x.deferred = true := by
  unfold endW at e
  split at e
  · rename_i f' g i h' hk hs
    cases hc : (Nat.beq g D && (Nat.beq i wg && (Nat.beq h'.df 0 && (isRetT (stepT E f') && f'.x.deferred)))) with
    | false => rw [hc] at e; cases e
    | true =>
      rw [hc] at e
      cases e
      simp only [Bool.and_eq_true] at hc
      obtain ⟨c1, c2, c3, c4, c5⟩ := hc
      rw [Nat.eq_of_beq_eq_true c1, Nat.eq_of_beq_eq_true c2] at hs
      refine ⟨hk, Nat.eq_of_beq_eq_true c3, f', ?_⟩
      unfold isRetT at c4
      split at c4
      · exact ⟨_, hs, ‹_›, c5⟩
      · cases c4
  · cases e

theorem push2 (t : Trace) (g : Nat) (fn : FuncId) (pos : String) (a b : MemOp) : t ++ ((MemOp.ofEvents g fn pos #[]).push a).push b = (t.push a).push b := by
  rw [ofEvents_none]; apply Array.toList_inj.1; simp
theorem deaf_fork (t : Trace) (i j : Nat) (fn fn' : FuncId) (pos pos' : String) (g g' : Nat) : Deaf ((t.push { g := g, fn, pos, act := .go j }).push { g := g', fn := fn', pos := pos', act := .start }) i = Deaf t i := by
  have e : (t.push { g := g, fn, pos, act := .go j }).push { g := g', fn := fn', pos := pos', act := .start } = t ++ (#[{ g := g, fn, pos, act := .go j }, { g := g', fn := fn', pos := pos', act := .start }] : Trace) := by
    apply Array.toList_inj.1; simp
  rw [e]
  have := Deaf_append t i [({ g := g, fn, pos, act := .go j } : MemOp), { g := g', fn := fn', pos := pos', act := .start }]
  simp only [List.foldl_cons, List.foldl_nil, deafStep] at this
  rw [show (#[{ g := g, fn, pos, act := .go j }, { g := g', fn := fn', pos := pos', act := .start }] : Trace) = ⟨[{ g := g, fn, pos, act := .go j }, { g := g', fn := fn', pos := pos', act := .start }]⟩ from rfl, this]

/-- THE GO STATEMENT, THE WORKER, THE JOIN. -/
theorem spawn_past (X : Tabs P E I) (hwait : waitOk E I = true) {L : WgLink} (H : WgLib P L) {n m : Nat} {out : List FuncId} (e : spawnO E I L.done L.tWg n m out s = some s') (HM : MAt P W B0 cs s gs w sl t) : Reaches P gs w sl t (MAt P W B0 cs s') := by
  unfold spawnO at e
  split at e
  · rename_i f' g args hsp
    split at e
    · rename_i fw dw gw wg hcall
      cases hc : (Nat.beq gw I.wait && (wgHere L.tWg s.h wg && Nat.beq s.h.df 0)) with
      | false => rw [hc] at e; cases e
      | true =>
        rw [hc] at e
        simp only [cond_true] at e
        simp only [Bool.and_eq_true] at hc
        obtain ⟨hgw, hwg, hdf⟩ := hc
        have hgw := Nat.eq_of_beq_eq_true hgw
        have hdf := Nat.eq_of_beq_eq_true hdf
        have hwg := wgHere_inv hwg
        subst hgw
        split at e
        · rename_i f2 c hf2 hbl
          split at e
          · rename_i h' hend
            cases hpl : plainHere h' c with
            | false => rw [hpl] at e; cases e
            | true =>
              rw [hpl] at e
              cases e
              obtain ⟨vsc, elc, hcobj⟩ := plainHere_inv hpl
              obtain ⟨hke, hdf', fd, vd, hsd, hrd, hdd⟩ := endW_inv hend
              obtain ⟨K, Shun, a, q, hKP, hKW0, hKB, hA, h0, hO, hL, hP⟩ := HM
              rw [hdf] at hO hP
              obtain ⟨ι, fr, frs, rfl, hB, R, HS, S, _, _⟩ := hO
              -- its turn
              refine Reaches.then (pick_main (w0 := w) (B := w.heap.size) (d := 0) rfl _ gs w sl t q rfl rfl h0 hL hP ⟨w.drawn, rfl⟩) ?_
              rintro gs1 w1 sl1 t1 ⟨hN1, h01, ⟨x1, rfl⟩, q1, hL1, hP1, dr, sl2, hpk⟩
              have S1 : Sat K ι s.h ((w.at x1).at dr) := S.rely (Rely.drawn w dr)
              obtain ⟨fs, as, cs', hargs, fr', R', hspawn⟩ := tame_ok (main := true) (cs := frs ++ cs) X.F X.FF R hsp
              have hpos : 0 < gs1.size := (Array.getElem?_eq_some_iff.1 h01).1
              have hrunT := runT_crowd_spawn (P := P) (sl := sl2) (i := 0) h01 (show stepG P (0 == 0) _ ((w.at x1).at dr) = _ from hspawn _)
              -- the group's block
              obtain ⟨p, ob, hp, hb1, hown, hlt, hb, ca, lo, hi, rfl, ⟨l1, l2, hl, hv⟩, z1, z2, z3⟩ := S1.at hwg trivial
              obtain ⟨rfl, rfl⟩ := (z3 rfl).2 rfl
              have hca : ca = #[.int .u64 KK, .int .u32 0] := by
                have hl2 : l2 = [] := by
                  have e1 := z1 rfl
                  have e2 := congrArg List.length hl
                  have e3 := hv.length
                  simp at e1 e2 e3
                  exact List.length_eq_zero_iff.1 (by omega)
                subst hl2
                obtain ⟨v1, r1, e1, hv1, hr1⟩ := RVs_cons_inv hv
                obtain ⟨v2, r2, e2, hv2, hr2⟩ := RVs_cons_inv hr1
                rw [RVs_nil_inv hr2] at e2
                unfold RV at hv1 hv2
                subst hv1; subst hv2
                apply Array.toList_inj.1
                rw [hl, e1, e2]; rfl
              subst hca
              have hgrp : WgAt L.tWg p.1 ((w.at x1).at dr) KK 0 := hb
              have hSW : ∀ l, Shun l → ¬ OfWg p.1 l := fun l hs ⟨y, hy, hyb⟩ => hA l p.1 hs (by rw [hy]; simp [blockOf, hyb]) ⟨hb1, hown⟩
              -- what the worker owns
              have SM : SatM K ι (fun i o => s.h.tr.get i = some o) ((w.at x1).at dr) := S1.toM fun _ _ h _ => h
              have hdead : ∀ i o, (s.h.put wg .dead).tr.get i = some o → o.live → s.h.tr.get i = some o ∧ ¬ i = wg := fun i o hi hl => by
                have hi : (s.h.tr.set wg .dead).get i = some o := hi
                rcases Tr.get_set hi with ⟨rfl, rfl⟩ | ⟨h1, h2⟩
                · exact hl.elim
                · exact ⟨h2, h1⟩
              have SW := SM.less (X := fun i => i = wg) (h := s.h.put wg .dead) hdead
              obtain ⟨K', hK'⟩ : ∃ K', K' = Ctx.less K ι (fun i o => s.h.tr.get i = some o) (fun i => i = wg) ((w.at x1).at dr) SM.lo SM.lt := ⟨_, rfl⟩
              rw [← hK'] at SW
              have hK'P : K'.P = P := by rw [hK']; exact hKP
              have hK'own : ¬ K'.own p.1 := by
                rw [hK']
                rintro ⟨_, hx⟩
                have ho : s.h.tr.get wg = some (.cells [.int .u64 KK, .int .u32 0] L.tWg false false) := AH.obj_live hwg trivial
                exact hx ⟨wg, _, p, rfl, ho, trivial, hp, rfl⟩
              have hK'sub : Sub K' K := by rw [hK']; exact less_sub
              have hA' : Away K' (fun l => Shun l ∨ OfWg p.1 l) := fun l b hl hb => by
                rintro ⟨h1, h2⟩
                rcases hl with hl | ⟨y, hy, hyb⟩
                · exact hA l b hl hb ⟨by rw [← hK'sub.base]; exact h1, hK'sub.own _ h2⟩
                · rw [hy] at hb
                  simp only [blockOf, Option.some.injEq] at hb
                  exact hK'own (by rw [← hyb, hb]; exact h2)
              have hA0 : Away K' Shun := fun l b hl hb => hA' l b (.inl hl) hb
              -- the worker's life
              have hf2' := hf2
              unfold enterA at hf2'
              split at hf2'
              · rename_i cw nw rsw xw hgw
                have hfd : f2.x.deferred = true := by
                  cases hble : Nat.ble args.length nw with
                  | false => rw [hble] at hf2'; cases hf2'
                  | true => rw [hble] at hf2'; cases hf2'; rfl
                have RW : RF ι f2 (Frame.enter P g ((fs ++ as) ++ cs') .deferred) := enter_ok X.FF hf2 (vs := (fs ++ as) ++ cs') hargs rfl
                have hdfw : (s.h.put wg .dead).df = 0 := hdf
                have hO2 : OAt K' ι [bot P] ⟨f2, [], s.h.put wg .dead⟩ 0 (G (Frame.enter P g ((fs ++ as) ++ cs') .deferred) [bot P]) ((w.at x1).at dr) := ⟨ι, _, [], rfl, hB, RW, rfl, SW, hdfw.symm, fun _ _ h => h⟩
                let Stop : Nat → Goroutine → World → Prop := fun d b ws => d = 0 ∧ AtDone P L.tWg p.1 K' b ws ∧ ∃ ι', Sat K' ι' h' ws ∧ Ext ι ι' ∧ Bare ι' h'.nx
                have hwalk : Walk P false K' Stop 0 (born P { target := .fn (.func g) cs', args := fs ++ as }) ((w.at x1).at dr) := by
                  refine Walk.of rfl fun w₁ hr₁ => ⟨_, w₁, #[], born_step X.FF hgw fs as cs' w₁, FineG.refl w₁, ?_⟩
                  show Walk P false K' Stop 0 _ w₁
                  refine ((runO_ok (main := false) X.F X.FF hK'P n (out := out) m _ hO2).rely hr₁).bind ?_
                  rintro d2 g2 w2 ⟨ι2, fr2, frs2, rfl, b1, b2, b3, b4, rfl, b5⟩
                  rw [hke] at b3
                  have b3 : frs2 = [] := b3
                  subst b3
                  refine Walk.of rfl fun w₃ hr₃ => ?_
                  have ok : A1Ok P false K' ι2 _ w₃ fr2 ([] ++ [bot P]) _ := step_ok hK'P X.F X.FF (b4.rely hr₃) b2 hsd
                  obtain ⟨ι3, fr3, vs3, w4, es, k1, k2, k3, k4, ⟨k5, k5'⟩, k6, k7⟩ := ok b1.free
                  have hE3 : Ext ι ι3 := b5.trans (k2.ext b1.free)
                  obtain ⟨v3, rfl, hv3⟩ := args1 k4
                  obtain ⟨p3, hp3, rfl⟩ := ptr_inv hv3
                  rw [hE3 _ _ hp] at hp3; cases hp3
                  refine ⟨_, w4, es, k1, k6, .stop fun w₅ hr₅ => ⟨k7.trans hdf', ?_, ι3, k3.rely hr₅, hE3, b1.grow k2⟩⟩
                  have S5 := k3.rely hr₅
                  exact done_ok X.F X.FF H hK'P S5 hK'own (by have := S5.lo; rw [hK'] at this; exact Nat.lt_of_lt_of_le hlt this) hcobj hdd hrd k5 k5'
                have hP1' : PastD Shun ((w.at x1).at dr).heap.size 0 t1 := hP1
                have hj : gs1.size ≠ 0 := by omega
                have hfork := PhT.fork hP1' hj (hL1.above _ (Nat.le_refl _)) hSW (G fr (frs ++ cs)).frame.fn (born P { target := .fn (.func g) cs', args := fs ++ as }).frame.fn (G fr (frs ++ cs)).frame.place (G fr (frs ++ cs)).frame.place
                refine Reaches.step (by rw [hpk]; exact hrunT) ?_
                rw [push2]
                obtain ⟨mj, hmj⟩ := join_ok (P := P) (ty := L.tWg) X hwait hp (frs ++ cs) hcall R'
                have hPA : PA P L.tWg p.1 gs1.size (fun a => ∃ fr', WaitsS ι fw dw fr' ∧ FinAt P L.tWg p.1 fr' (frs ++ cs) a) Shun false KK 0 0 3 mj none ((gs1.setIfInBounds 0 (G fr' (frs ++ cs))).push (born P { target := .fn (.func g) cs', args := fs ++ as })) ((w.at x1).at dr) _ (G fr' (frs ++ cs)) (born P { target := .fn (.func g) cs', args := fs ++ as }) q1 :=
                  ⟨by rw [Array.getElem?_push_lt (by simpa using hpos)]; simp [hpos], by rw [show gs1.size = (gs1.setIfInBounds 0 (G fr' (frs ++ cs))).size by simp]; exact Array.getElem?_push_size, .ld hmj, hgrp, fun _ => rfl, rfl, ⟨fun i x h1 h2 hx => (by
                    have hx' : gs1[i]? = some x := by
                      rw [Array.getElem?_push, if_neg (by simpa using h2), Array.getElem?_setIfInBounds_ne (by omega)] at hx
                      exact hx
                    rw [deaf_fork]
                    exact hL1.old i x h1 hx'), fun i hi => (by
                    rw [deaf_fork]
                    exact hL1.above i (by simp at hi; omega))⟩, hfork⟩
                have hKW : K'.base ≤ p.1 := by rw [hK'sub.base]; exact hb1
                refine Reaches.then (st0 (Fin := fun a => ∃ fr', WaitsS ι fw dw fr' ∧ FinAt P L.tWg p.1 fr' (frs ++ cs) a) hj hSW hA0 hK'own hKW _ (fun d b w hs => ⟨hs.1, hs.2.1⟩) hwalk _ sl2 _ q1 _ false KK 0 3 mj _ (Rely.refl _) rfl (fun h => by cases h) hPA) ?_
                rintro gs4 w4 sl4 t4 ⟨b4, ws, ⟨_, _, ι', S', hE', hB'⟩, a4, q4, hN4, h04, ⟨fr4, hw4, n4, hm4⟩, hL4, hP4, hR4, hg4⟩
                refine Reaches.then (mw_past (ty := L.tWg) (Wg := p.1) (fun d g hs => by rw [hs.2]; rfl) hg4 n4 _ a4 0 gs4 w4 sl4 t4 q4 rfl rfl h04 hm4 hL4 hP4 ⟨w4.drawn, rfl⟩) ?_
                rintro gs5 w5 sl5 t5 ⟨d5, a5, q5, hN5, h05, ⟨rfl, rfl⟩, ⟨x5, rfl⟩, hL5, hP5⟩
                have hrel : Rely K' ws (w4.at x5) := ⟨hR4.size, fun x _ hx => hR4.block x fun e => hK'own (e ▸ hx), fun x hx => hR4.block x (by omega), hR4.os, hR4.tape, hR4.output⟩
                refine .here ⟨K', _, _, q5, hK'P, by rw [hK'sub.W0]; exact hKW0, by rw [hK'sub.base]; exact hKB, hA', h05, ⟨ι', fr4.finish (.tuple #[]), frs, rfl, hB', ?_, HS.mono hE', S'.rely hrel, rfl, fun i p h => (by cases h)⟩, hL5, ?_⟩
                · have := (hw4 (.tup []) (.tuple #[]) (by unfold RV; exact ⟨#[], rfl, RVs_nil⟩)).mono hE'
                  obtain ⟨x, tm, td, ds, rt⟩ := fw
                  exact this
                · show PastD _ _ h'.df t5
                  rw [hdf']
                  exact hP5
              · cases hf2'
          · cases e
        · cases e
    · cases e
  · cases e
end
end Go.Ev
/- The whole run. -/
namespace Go.Ev
open Go.Conc
open Go.Conc.Lib (WgLib WgLink)

/-- What can be reached from these alone. -/
noncomputable def gcO (ids : List Nat) (s : OS) : OS := match s with | ⟨f, k, ⟨tr, nx, df⟩⟩ => ⟨f, k, ⟨reach tr 100000 ids .e, nx, df⟩⟩

/-- From stack to stack. -/
inductive Path (E : Env) (I : WgIds) (D : FuncId) (ty : TypeId) (out : List FuncId) : OS → OS → Prop
  | run {s s' : OS} (n m : Nat) : runO E (runF E n) out m s = s' → Path E I D ty out s s'
  | spawn {s s' : OS} (n m : Nat) : spawnO E I D ty n m out s = some s' → Path E I D ty out s s'
  | gc {s s' : OS} (ids : List Nat) : gcO ids s = s' → Path E I D ty out s s'
  | trans {s s' s'' : OS} : Path E I D ty out s s' → Path E I D ty out s' s'' → Path E I D ty out s s''

section
variable {P : Program} {E : Env} {I : WgIds} {W : World} {B0 : Nat} {cs : List Frame}

theorem gc_past (ids : List Nat) {s : OS} {gs : Array Goroutine} {w : World} {sl : Option (Nat × Nat)} {t : Trace} (H : MAt P W B0 cs s gs w sl t) : MAt P W B0 cs (gcO ids s) gs w sl t := by
  obtain ⟨f, k, tr, nx, df⟩ := s
  obtain ⟨K, Shun, a, q, h1, h2, h3, hA, h0, ⟨ι, fr, frs, k1, k2, k3, k4, k5, k6, k7⟩, hL, hP⟩ := H
  refine ⟨K, Shun, a, q, h1, h2, h3, hA, h0, ⟨ι, fr, frs, k1, k2, k3, k4, ?_, k6, k7⟩, hL, hP⟩
  exact (k5.toM (M := fun i o => tr.get i = some o) fun _ _ h _ => h).toSat fun i o e _ => reach_get (t := tr) 100000 ids .e (fun i o h => by rw [Tr.get_e] at h; cases h) i o e

theorem path_past (X : Tabs P E I) (hwait : waitOk E I = true) {L : WgLink} (H : WgLib P L) {out : List FuncId} {s s' : OS} (p : Path E I L.done L.tWg out s s') : ∀ {gs : Array Goroutine} {w : World} {sl : Option (Nat × Nat)} {t : Trace}, MAt P W B0 cs s gs w sl t → Reaches P gs w sl t (MAt P W B0 cs s') := by
  induction p with
  | run n m e => intro gs w sl t h; rw [← e]; exact run_past X.F X.FF n m out h
  | spawn n m e => intro gs w sl t h; exact spawn_past X hwait H e h
  | gc ids e => intro gs w sl t h; rw [← e]; exact .here (gc_past ids h)
  | trans _ _ ih1 ih2 => intro gs w sl t h; exact Reaches.then (ih1 h) fun _ _ _ _ h => ih2 h

/-- What is known behind the run. -/
structure Ends (W : World) (v : AV) (u : Value) (w : World) : Prop where
  val : ∃ ι, RV ι v u
  size : W.heap.size ≤ w.heap.size
  old : ∀ b, b < W.heap.size → w.heap[b]? = W.heap[b]?
  os : w.os = W.os
  tape : w.tape = W.tape
  output : w.output = W.output

/-- THE RUN. -/
theorem the_run (X : Tabs P E I) (hwait : waitOk E I = true) {L : WgLink} (H : WgLib P L) {out : List FuncId} {fid : FuncId} {argsA : List AV} {f0 : AF} (hf0 : enterA E fid argsA false = some f0) {s' : OS} (p : Path E I L.done L.tWg out ⟨f0, [], eAH⟩ s') (hk : s'.k = []) {v : AV} (hr : stepT E s'.f = some (.ret v)) (hd : s'.f.x.deferred = false) (hdf : s'.h.df = 0)
    (hin : P.inits.idxOf? s'.f.x.fn = none) (W : World) (args : Array Value) (hargs : RVs (fun _ => none) argsA args.toList) :
    ∃ M last o w' t', runNT P (M + 1) (solo (G (Frame.enter P fid args .normal) []) W) #[] = (.ended o w', t') ∧ runN P M (solo (G (Frame.enter P fid args .normal) []) W) = .next last ∧ step P last = .ended o w' ∧ Conc.Good P (Ends W v) last o w' t' := by
  have h0 : MAt P W W.heap.size [] ⟨f0, [], eAH⟩ #[G (Frame.enter P fid args .normal) []] W none #[] :=
    ⟨here P W, fun _ => False, _, fun _ => 0, rfl, rfl, rfl, fun _ _ h => h.elim, rfl, ⟨fun _ => none, _, [], rfl, fun _ _ => rfl, enter_ok X.FF hf0 hargs rfl, rfl, sat_here P _ W, rfl, fun _ _ h => h⟩, leavers_one P _, PastD.of (past_nil.mono (Nat.zero_le _))⟩
  obtain ⟨N, gs1, w1, sl1, t1, hrun, K, Shun, a, q, hKP, hKW, hKB, hA, h01, ⟨ι, fr, frs, rfl, hB, R, HS, S, _, _⟩, hL, hP⟩ := path_past X hwait H p h0
  rw [hk] at HS
  have HS : frs = [] := HS
  subst HS
  rw [hdf] at hP
  obtain ⟨u, hu1, hu2⟩ := tame_ok (main := true) (cs := []) X.F X.FF R hr
  have hkind : fr.kind = .normal := by rw [R.kind, hd]; rfl
  have hend : ∀ w, stepG P true (G fr []) w = .ended (.done u) w #[] := fun w => by
    rw [hu2 w]
    unfold doReturn
    simp only [hkind, R.fn, hin]
    rfl
  have hE : Ends W v u w1 := ⟨⟨ι, hu1⟩, by have := S.bs; rw [hKB] at this; exact this, fun b hb => (S.old b (by rw [hKB]; exact hb)).trans (by rw [hKW]), by rw [S.os, hKW], by rw [S.tape, hKW], by rw [S.output, hKW]⟩
  obtain ⟨N2, last, o, w', t', e1, e2, e3, e4⟩ := beside_ends (P := P) (Shun := Shun) (B := w1.heap.size) (D := fun _ _ _ => False) (Post := Ends W v) (sl := sl1) (n := 0) (fun _ _ _ h => h.elim) h01 hL hP.to (fun w₂ hw => by
    obtain ⟨d, rfl⟩ := hw
    exact ⟨rfl, u, #[], hend _, by simp, ⟨hE.val, hE.size, hE.old, hE.os, hE.tape, hE.output⟩⟩)
  rw [solo_eq_crowd]
  refine ⟨N + N2, last, o, w', t', ?_, ?_, e3, e4⟩
  · rw [Nat.add_assoc, runNT_add, hrun]; exact e1
  · rw [runN_add, ← runNT_fst P _ _ #[], hrun]; exact e2
end
end Go.Ev
/- What functions without a body come to. -/
namespace Go.Ev

section
variable {P : Program} {E : Env} {K : Ctx} {ι : Nm} {h h' : AH} {w : World}

theorem SRun.det {α : Type} {s : Sem α} {a b : α} {w1 w2 : World} {e1 e2 : List Event} (h1 : SRun P s w a w1 e1) (h2 : SRun P s w b w2 e2) : w1 = w2 := by
  have := (h1 #[]).symm.trans (h2 #[])
  simp only [Prod.mk.injEq, Result.ok.injEq] at this
  exact this.1.2

theorem Grow.none {ι' : Nm} {n : Nat} (g : Grow ι ι' n n) : ι' = ι := funext fun i => g.same i (by omega)

/-- A cell that is known. -/
theorem Sat.cellOf (S : Sat K ι h w) {id off : Nat} {vs : List AV} {el : TypeId} {g z : Bool} (ho : h.obj id = .cells vs el g z) {p : Nat × Nat} (hp : ι id = some p) {k : IntKind} {n : Int} (hv : vs[off]? = some (.int k n)) :
    w.cell? ⟨p.1, off, none⟩ = some (.int k n) ∧ K.base ≤ p.1 ∧ K.own p.1 ∧ p.1 < w.heap.size ∧ (z = false → w.frozen? ⟨p.1, off, none⟩ = false) := by
  obtain ⟨q, ob, hq, hb1, hown, hlt, hb, c, lo, hi, rfl, ⟨l1, l2, hc, hl⟩, h1, h2, h3⟩ := S.at ho trivial
  obtain rfl : p = q := by rw [hp] at hq; exact Option.some.inj hq
  obtain ⟨v, hv1, hv2⟩ := hl.get hv
  unfold RV at hv2
  subst hv2
  have hlen : off < l1.length := (List.getElem?_eq_some_iff.1 hv1).1
  have hoff : c[off]? = some (.int k n) := by rw [← Array.getElem?_toList, hc, List.getElem?_append_left hlen]; exact hv1
  refine ⟨by rw [cell_of hb]; exact hoff, hb1, hown, hlt, fun hz => ?_⟩
  rw [frozen_of hb]
  have hk := (Array.getElem?_eq_some_iff.1 hoff).1
  have := (h3 hz).1 off hk
  by_cases h3 : lo ≤ off
  · simp only [h3, decide_true, Bool.true_and, decide_eq_false_iff_not]; omega
  · simp [h3]

/-- One cell is written. -/
theorem Sat.write1 (S : Sat K ι h w) {id off : Nat} {k : IntKind} {m : Int} (e : storeC h id off [.int k m] = some h') {p : Nat × Nat} (hp : ι id = some p) {u : Value} (hc : w.cell? ⟨p.1, off, none⟩ = some u) (hf : w.frozen? ⟨p.1, off, none⟩ = false) :
    Sat K ι h' (w.setCell ⟨p.1, off, none⟩ (.int k m)) ∧ w.heap.size ≤ (w.setCell ⟨p.1, off, none⟩ (.int k m)).heap.size ∧ (∀ b, b < w.heap.size → ¬ (K.base ≤ b ∧ K.own b) → (w.setCell ⟨p.1, off, none⟩ (.int k m)).heap[b]? = w.heap[b]?) ∧ h'.nx = h.nx ∧ h'.df = h.df := by
  have hn : h'.nx = h.nx ∧ h'.df = h.df := by
    unfold storeC at e
    split at e
    · obtain ⟨_, rfl⟩ := cond_some e
      exact ⟨AH.put_nx, AH.put_df⟩
    · cases e
  obtain ⟨ι', w', es, h1, h2, h3, h4, h5⟩ := storeC_ok (P := K.P) S hp e (vs := [.int k m]) (RVs_cons (by unfold RV; rfl) RVs_nil) (by rw [hn.1]; intro i h1 h2; omega)
  rw [hn.1] at h2
  obtain rfl := h2.none
  have hst : SRun K.P (storeCells ⟨p.1, off, none⟩ [.int k m] 0) w () (w.setCell ⟨p.1, off, none⟩ (.int k m)) ([⟨.cell ⟨p.1, off, none⟩, true, false⟩] ++ []) := by
    unfold storeCells
    rw [add_none]
    exact SRun.bind (SRun.store (P := K.P) hc hf (by simp) (by simp)) (SRun.pure _)
  obtain rfl := SRun.det h1 hst
  exact ⟨h3, h4.size, h4.kept, hn⟩

/-- A function without a body that says these. -/
theorem eok_of {e : Array Value → Sem Value} {g : FuncId} (hx : ExtFn P g e) {vs : Array Value} {u : Value} {v : AV} {w' : World} {es : List Event} (hr : SRun P (e vs) w u w' es) (hs : ∀ x ∈ es, x.sync = true ∧ ∀ g, x.loc ≠ .mark (.extern g)) (hn : h'.nx = h.nx) (S' : Sat K ι h' w') (hv : RV ι v u)
    (hf : FineG K w w' es.toArray) (hd : deafBehind h.df es.toArray = h'.df) : EOk P K ι h w (callFunc g vs) v h' := fun _ =>
  ⟨ι, w', .value u, _, ext_run hx hr, by rw [hn]; exact Grow.refl _ _, S', hv, fun fn => by rw [seen_sync fn hs]; exact ⟨hf, hd⟩⟩

theorem RVs_arg {a : AV} {l : List AV} {vs : Array Value} (h : RVs ι (a :: l) vs.toList) : ∃ v r, vs.toList = v :: r ∧ vs[0]? = some v ∧ RV ι a v ∧ RVs ι l r := by
  obtain ⟨v, r, h1, h2, h3⟩ := RVs_cons_inv h
  exact ⟨v, r, h1, by rw [← Array.getElem?_toList, h1]; rfl, h2, h3⟩

theorem Sat.df (S : Sat K ι h w) (d : Nat) : Sat K ι { h with df := d } w := ⟨S.objs, S.inj, S.lo, S.bs, S.old, S.os, S.tape, S.output⟩

theorem fine_own {w' : World} {es : List Event} (hs : w.heap.size ≤ w'.heap.size) (hk : ∀ b, b < w.heap.size → ¬ (K.base ≤ b ∧ K.own b) → w'.heap[b]? = w.heap[b]?) (he : ∀ e ∈ es, EvG K w'.heap.size e) (ho : w'.os = w.os) (ht : w'.tape = w.tape) (hu : w'.output = w.output) : FineG K w w' es.toArray :=
  ⟨hs, hk, fun e h => he e (by simpa using h), ho, ht, hu⟩

theorem evg_cell {n b off : Nat} {wr : Bool} (h1 : K.base ≤ b) (h2 : K.own b) (h3 : b < n) : EvG K n ⟨.cell ⟨b, off, none⟩, wr, true⟩ := .inl ⟨h1, h2, h3⟩

/-- FUNCTIONS WITHOUT A BODY. -/
theorem ext_ok (FX : FitsX P E) : ∀ g n rs x, E.ft.get g = some ⟨none, n, rs, x⟩ → ∀ (K : Ctx) ι h w args (vs : Array Value) v h', K.P = P → Sat K ι h w → RVs ι args vs.toList → extA x args h = some (.val v h') → EOk P K ι h w (callFunc g vs) v h' := by
  intro g n rs x hg K ι h w args vs v h' hP S ha e
  unfold extA at e
  split at e
  · -- noEscape
    cases e
    obtain ⟨ef, hx, hev⟩ := FX.noEscape g n rs hg
    obtain ⟨u, rfl, hu⟩ := args1 ha
    exact eok_of hx (es := []) (by rw [hev]; exact SRun.pure _) (by simp) rfl S hu (FineG.refl w) rfl
  · cases e
    obtain ⟨ef, hx, hev⟩ := FX.false_ g n rs hg
    exact eok_of hx (es := []) (by rw [hev]; exact SRun.pure _) (by simp) rfl S (by unfold RV; rfl) (FineG.refl w) rfl
  · -- race
    rename_i id off
    obtain ⟨m, hx, hm⟩ := FX.race g n rs hg
    split at e
    · rename_i cvs el cg cz ho
      cases e
      obtain ⟨u, rfl, hu⟩ := args1 ha
      obtain ⟨p, hp, rfl⟩ := ptr_inv hu
      obtain ⟨q, ob, hq, hb1, hown, hlt, _⟩ := S.at ho trivial
      obtain rfl : p = q := by rw [hp] at hq; exact Option.some.inj hq
      have hev : EvG K w.heap.size (mkE (m ⟨p.1, off, none⟩)) := by
        rcases hm with rfl | rfl | rfl | rfl | rfl <;> exact .inl ⟨hb1, hown, hlt⟩
      have hnd : (mkE (m ⟨p.1, off, none⟩)).loc ≠ .mark .disable ∧ (mkE (m ⟨p.1, off, none⟩)).loc ≠ .mark .enable := by
        rcases hm with rfl | rfl | rfl | rfl | rfl <;> simp [mkE]
      refine eok_of hx (run_marked m ⟨p.1, off, none⟩ rfl) (fun x hx => ?_) rfl S (by unfold RV; exact ⟨#[], rfl, RVs_nil⟩) (fine_own (Nat.le_refl _) (fun _ _ _ => rfl) (fun e he => ?_) rfl rfl rfl) (deaf_still (fun e he => ?_) _)
      · simp at hx; subst hx
        refine ⟨rfl, fun f => ?_⟩
        rcases hm with rfl | rfl | rfl | rfl | rfl <;> simp [mkE]
      · simp at he; subst he; exact hev
      · simp at he; subst he; exact hnd
    · cases e
  · -- disable
    cases e
    have hx := FX.dis g n rs hg
    refine eok_of hx (run_mark0 .disable vs) (fun x hx => ?_) rfl (S.df _) (by unfold RV; exact ⟨#[], rfl, RVs_nil⟩) (fine_own (Nat.le_refl _) (fun _ _ _ => rfl) (fun e he => ?_) rfl rfl rfl) rfl
    · simp at hx; subst hx; exact ⟨rfl, by simp [mkE]⟩
    · simp at he; subst he; exact .inr (.inl rfl)
  · -- enable
    cases hz : Nat.beq h.df 0 with
    | true => rw [hz] at e; cases e
    | false =>
      rw [hz] at e
      cases e
      have hx := FX.en g n rs hg
      refine eok_of hx (run_mark0 .enable vs) (fun x hx => ?_) rfl (S.df _) (by unfold RV; exact ⟨#[], rfl, RVs_nil⟩) (fine_own (Nat.le_refl _) (fun _ _ _ => rfl) (fun e he => ?_) rfl rfl rfl) rfl
      · simp at hx; subst hx; exact ⟨rfl, by simp [mkE]⟩
      · simp at he; subst he; exact .inr (.inr rfl)
  · -- add
    rename_i k id off k' d
    have hx := FX.atAdd g n rs k hg
    split at e
    · rename_i cvs el cg cz ho
      split at e
      · rename_i k'' m hm
        cases hc : (ikEq k k' && ikEq k k'') with
        | false => rw [hc] at e; cases e
        | true =>
          rw [hc] at e
          rw [Bool.and_eq_true] at hc
          obtain rfl := ikEq_true hc.1
          obtain rfl := ikEq_true hc.2
          simp only [cond_true, Option.map_eq_some_iff] at e
          obtain ⟨h1, hst, e⟩ := e
          cases e
          obtain ⟨u, r, hvs, _, hu, hr⟩ := RVs_arg ha
          obtain ⟨p, hp, rfl⟩ := ptr_inv hu
          obtain ⟨u2, r2, hr', hu2, hr2⟩ := RVs_cons_inv hr
          rw [RVs_nil_inv hr2] at hr'
          unfold RV at hu2
          subst hu2
          have hvs : vs = #[.pointer (some ⟨p.1, off, none⟩), .int k d] := by apply Array.toList_inj.1; rw [hvs, hr']
          subst hvs
          have hz : cz = false := by
            unfold storeC at hst
            rw [ho] at hst
            cases cz with
            | false => rfl
            | true => cases hst
          obtain ⟨c1, c2, c3, c4, c5⟩ := S.cellOf ho hp hm
          obtain ⟨s1, s2, s3, s4, s5⟩ := S.write1 hst hp c1 (c5 hz)
          refine eok_of hx (run_add c1 (c5 hz)) (fun x hx => ?_) s4 s1 (by unfold RV; rfl) (fine_own s2 s3 (fun e he => ?_) (s1.os.trans S.os.symm) (s1.tape.trans S.tape.symm) (s1.output.trans S.output.symm)) ?_
          · simp at hx; rcases hx with rfl | rfl <;> exact ⟨rfl, by simp [rdA, wrA]⟩
          · simp at he; rcases he with rfl | rfl <;> exact evg_cell c2 c3 (by omega)
          · rw [s5]; exact deaf_still (fun e he => by simp at he; rcases he with rfl | rfl <;> simp [rdA, wrA]) _
      · cases e
    · cases e
  · -- load
    rename_i k id off
    have hx := FX.atLoad g n rs k hg
    split at e
    · rename_i cvs el cg cz ho
      split at e
      · rename_i k'' m hm
        cases hc : ikEq k k'' with
        | false => rw [hc] at e; cases e
        | true =>
          rw [hc] at e
          obtain rfl := ikEq_true hc
          cases e
          obtain ⟨u, rfl, hu⟩ := args1 ha
          obtain ⟨p, hp, rfl⟩ := ptr_inv hu
          obtain ⟨c1, c2, c3, c4, c5⟩ := S.cellOf ho hp hm
          refine eok_of hx (run_loadT c1) (fun x hx => ?_) rfl S (by unfold RV; rfl) (fine_own (Nat.le_refl _) (fun _ _ _ => rfl) (fun e he => ?_) rfl rfl rfl) (deaf_still (fun e he => ?_) _)
          · simp at hx; subst hx; exact ⟨rfl, by simp [rdA]⟩
          · simp at he; subst he; exact evg_cell c2 c3 c4
          · simp at he; subst he; simp [rdA]
      · cases e
    · cases e
  · -- compare and swap
    rename_i k id off k' o k1 b
    have hx := FX.atCas g n rs k hg
    split at e
    · rename_i cvs el cg ho
      split at e
      · rename_i k'' m hm
        cases hc : (ikEq k k' && ikEq k k'' && ikEq k k1) with
        | false => rw [hc] at e; cases e
        | true =>
          rw [hc] at e
          rw [Bool.and_eq_true, Bool.and_eq_true] at hc
          obtain rfl := ikEq_true hc.1.1
          obtain rfl := ikEq_true hc.1.2
          obtain rfl := ikEq_true hc.2
          obtain ⟨u, r, hvs, _, hu, hr⟩ := RVs_arg ha
          obtain ⟨p, hp, rfl⟩ := ptr_inv hu
          obtain ⟨u2, r2, hr', hu2, hr2⟩ := RVs_cons_inv hr
          obtain ⟨u3, r3, hr3', hu3, hr3⟩ := RVs_cons_inv hr2
          rw [RVs_nil_inv hr3] at hr3'
          unfold RV at hu2 hu3
          subst hu2; subst hu3
          have hvs : vs = #[.pointer (some ⟨p.1, off, none⟩), .int k o, .int k b] := by apply Array.toList_inj.1; rw [hvs, hr', hr3']
          subst hvs
          obtain ⟨c1, c2, c3, c4, c5⟩ := S.cellOf ho hp hm
          simp only [cond_true] at e
          cases hno : (m == o) with
          | true =>
            rw [hno] at e
            simp only [cond_true, Option.map_eq_some_iff] at e
            obtain ⟨h1, hst, e⟩ := e
            cases e
            obtain rfl := eq_of_beq hno
            obtain ⟨s1, s2, s3, s4, s5⟩ := S.write1 hst hp c1 (c5 rfl)
            refine eok_of hx (run_cas_hit c1 (c5 rfl)) (fun x hx => ?_) s4 s1 (by unfold RV; rfl) (fine_own s2 s3 (fun e he => ?_) (s1.os.trans S.os.symm) (s1.tape.trans S.tape.symm) (s1.output.trans S.output.symm)) ?_
            · simp at hx; rcases hx with rfl | rfl <;> exact ⟨rfl, by simp [rdA, wrA]⟩
            · simp at he; rcases he with rfl | rfl <;> exact evg_cell c2 c3 (by omega)
            · rw [s5]; exact deaf_still (fun e he => by simp at he; rcases he with rfl | rfl <;> simp [rdA, wrA]) _
          | false =>
            rw [hno] at e
            cases e
            have hne : m ≠ o := by simpa using hno
            refine eok_of hx (run_cas_miss c1 (c5 rfl) hne) (fun x hx => ?_) rfl S (by unfold RV; rfl) (fine_own (Nat.le_refl _) (fun _ _ _ => rfl) (fun e he => ?_) rfl rfl rfl) (deaf_still (fun e he => ?_) _)
            · simp at hx; subst hx; exact ⟨rfl, by simp [rdA]⟩
            · simp at he; subst he; exact evg_cell c2 c3 c4
            · simp at he; subst he; simp [rdA]
      · cases e
    · cases e
  · cases e
  · cases e
end
end Go.Ev
/- Structs and arrays whose parts, to the bottom, are bools, integers and strings: compared, and as keys. -/
namespace Go.Ev

def valO (ag : Bool) (x : Array Value) : Value := if ag then .agg x else x.getD 0 undef

structure FlatT (P : Program) (D : Nat) (t : TypeId) (ks : List Nat) (ag : Bool) : Prop where
  agg : ∀ w, SRun P (isAgg t) w ag w []
  size : ∀ w, SRun P (sizeOf t) w ks.length w []
  sc : ag = false → ks.length = 1
  pos : 0 < ks.length
  ck : ∀ (n : Nat) (b : Bool) (w : World) (x : Array Value) (l : List AV) (ι : Nm), D ≤ n → RVs ι l x.toList → kindL ks l = true → SRun P (Instr.checkKey b n t (valO ag x)) w () w []
  eq : ∀ (n : Nat) (w : World) (x y : Array Value) (l m : List AV) (ι : Nm) (r : Bool), D ≤ n → RVs ι l x.toList → RVs ι m y.toList → kindL ks l = true → eqL l m = some r → SRun P (Op.equalIn n t (valO ag x) (valO ag y)) w r w []

theorem FlatT.mono {P : Program} {D D' : Nat} {t : TypeId} {ks : List Nat} {ag : Bool} (h : FlatT P D t ks ag) (hD : D ≤ D') : FlatT P D' t ks ag :=
  ⟨h.agg, h.size, h.sc, h.pos, fun n b w x l ι hn => h.ck n b w x l ι (by omega), fun n w x y l m ι r hn => h.eq n w x y l m ι r (by omega)⟩

theorem kindL_len : ∀ {ks : List Nat} {l : List AV}, kindL ks l = true → l.length = ks.length
  | [], [], _ => rfl
  | [], _ :: _, h => by cases h
  | _ :: _, [], h => by cases h
  | k :: ks, a :: l, h => by
    unfold kindL at h
    rw [Bool.and_eq_true] at h
    simp [kindL_len h.2]
theorem kindL_app : ∀ {ks ks' : List Nat} {l : List AV}, kindL (ks ++ ks') l = true → ∃ l1 l2, l = l1 ++ l2 ∧ kindL ks l1 = true ∧ kindL ks' l2 = true
  | [], ks', l, h => ⟨[], l, rfl, rfl, h⟩
  | k :: ks, ks', [], h => by cases h
  | k :: ks, ks', a :: l, h => by
    have h : (_ && kindL (ks ++ ks') l) = true := h
    rw [Bool.and_eq_true] at h
    obtain ⟨l1, l2, rfl, h1, h2⟩ := kindL_app h.2
    exact ⟨a :: l1, l2, rfl, by unfold kindL; rw [Bool.and_eq_true]; exact ⟨h.1, h1⟩, h2⟩
theorem eqL_app : ∀ {l1 l2 m : List AV} {r : Bool}, eqL (l1 ++ l2) m = some r → ∃ m1 m2 r1 r2, m = m1 ++ m2 ∧ l1.length = m1.length ∧ eqL l1 m1 = some r1 ∧ eqL l2 m2 = some r2 ∧ r = (r1 && r2)
  | [], l2, m, r, h => ⟨[], m, true, r, rfl, rfl, rfl, h, by simp⟩
  | a :: l1, l2, [], r, h => by cases h
  | a :: l1, l2, b :: m, r, h => by
    have h : (match eqS a b with | none => none | some false => (match eqL (l1 ++ l2) m with | none => none | some _ => some false) | some true => eqL (l1 ++ l2) m) = some r := h
    cases he : eqS a b with
    | none => rw [he] at h; cases h
    | some q =>
      rw [he] at h
      cases q with
      | true =>
        obtain ⟨m1, m2, r1, r2, rfl, hl, h1, h2, rfl⟩ := eqL_app (show eqL (l1 ++ l2) m = some r from h)
        exact ⟨b :: m1, m2, r1, r2, rfl, by simp [hl], by unfold eqL; rw [he]; exact h1, h2, rfl⟩
      | false =>
        simp only at h
        cases hq : eqL (l1 ++ l2) m with
        | none => rw [hq] at h; cases h
        | some q =>
          rw [hq] at h
          cases h
          obtain ⟨m1, m2, r1, r2, rfl, hl, h1, h2, _⟩ := eqL_app hq
          exact ⟨b :: m1, m2, false, r2, rfl, by simp [hl], by unfold eqL; rw [he]; simp only [h1], h2, rfl⟩
theorem eqL_len {l m : List AV} {r : Bool} (h : eqL l m = some r) : l.length = m.length := by
  obtain ⟨m1, m2, r1, r2, rfl, h1, h2, h3, _⟩ := eqL_app (l1 := l) (l2 := []) (by simpa using h)
  cases m2 with
  | nil => simpa using h1
  | cons _ _ => cases h3

theorem RVs_app_inv {ι : Nm} {l1 l2 : List AV} {vs : List Value} (h : RVs ι (l1 ++ l2) vs) : RVs ι l1 (vs.take l1.length) ∧ RVs ι l2 (vs.drop l1.length) := by
  induction l1 generalizing vs with
  | nil => exact ⟨by simpa using RVs_nil, by simpa using h⟩
  | cons a l1 ih =>
    obtain ⟨v, r, rfl, h1, h2⟩ := RVs_cons_inv (show RVs ι (a :: (l1 ++ l2)) vs from h)
    obtain ⟨h3, h4⟩ := ih h2
    exact ⟨by simpa using RVs_cons h1 h3, by simpa using h4⟩

section
variable {P : Program} {D : Nat} {w : World}

theorem part_ok {t : TypeId} {ks : List Nat} {ag : Bool} (h : FlatT P D t ks ag) {cs : Array Value} {off : Nat} (hs : off + ks.length ≤ cs.size) : SRun P (part t cs off) w (valO ag (cs.extract off (off + ks.length))) w [] := by
  unfold part
  refine SRun.bind0 (h.agg w) ?_
  cases ag with
  | true => exact SRun.bind0 (h.size w) (SRun.pure _)
  | false =>
    have h1 := h.sc rfl
    have hlt : off < cs.size := by omega
    have hc : cs[off]? = some cs[off] := Array.getElem?_eq_getElem hlt
    have : valO false (cs.extract off (off + ks.length)) = cs[off] := by
      unfold valO
      rw [h1]
      simp only [Bool.false_eq_true, if_false, Array.getD_eq_getD_getElem?, Array.getElem?_extract]
      rw [if_pos (by omega), Nat.add_zero, hc]
      rfl
    rw [this]
    simp only [hc]
    exact SRun.pure _

/-- Parts, one behind the other. -/
inductive Itm {α : Type} (P : Program) (D : Nat) (ty : α → TypeId) (off : α → Nat) : Nat → List α → List Nat → Prop
  | nil {o : Nat} : Itm P D ty off o [] []
  | cons {o : Nat} {a : α} {as : List α} {ks ks' : List Nat} {ag : Bool} : off a = o → FlatT P D (ty a) ks ag → Itm P D ty off (o + ks.length) as ks' → Itm P D ty off o (a :: as) (ks ++ ks')

theorem extract_list (x : Array Value) (o n : Nat) : (x.extract o (o + n)).toList = (x.toList.drop o).take n := by
  rw [Array.toList_extract]
  simp [List.extract_eq_take_drop]

theorem items_eq {α : Type} {ty : α → TypeId} {off : α → Nat} {d : Nat} (hd : D ≤ d) {x y : Array Value} {B : α → Option Bool × Unit → Sem (ForInStep (Option Bool × Unit))} {ι : Nm} : ∀ {o : Nat} {as : List α} {ks : List Nat}, Itm P D ty off o as ks → (∀ a ∈ as, ∀ s, B a s = (do
      let u ← part (ty a) x (off a)
      let v ← part (ty a) y (off a)
      let r ← Op.equalIn d (ty a) u v
      if (!r) = true then pure (ForInStep.done (some false, ())) else pure (ForInStep.yield (none, ())))) →
    ∀ {l m : List AV} {r : Bool}, RVs ι l (x.toList.drop o) → RVs ι m (y.toList.drop o) → kindL ks l = true → eqL l m = some r → SRun P (forIn as ((none, ()) : Option Bool × Unit) B) w (if r then (none, ()) else (some false, ())) w [] := by
  intro o as ks H
  induction H with
  | nil =>
    intro _ l m r hx hy hk he
    have : l = [] := by cases l with | nil => rfl | cons _ _ => cases hk
    subst this
    cases m with
    | nil => cases he; rw [List.forIn_nil]; exact SRun.pure _
    | cons _ _ => cases he
  | @cons o a as ks ks' ag ho hf _ ih =>
    intro hB l m r hx hy hk he
    obtain ⟨l1, l2, rfl, hk1, hk2⟩ := kindL_app hk
    obtain ⟨m1, m2, r1, r2, rfl, hl, he1, he2, rfl⟩ := eqL_app he
    obtain ⟨hx1, hx2⟩ := RVs_app_inv hx
    obtain ⟨hy1, hy2⟩ := RVs_app_inv hy
    have hlk := kindL_len hk1
    have hxl := hx1.length
    have hyl := hy1.length
    rw [← hl] at hy1 hy2 hyl
    rw [hlk] at hx1 hx2 hxl hy1 hy2 hyl
    simp only [List.length_take, List.length_drop, Array.length_toList] at hxl hyl
    have hpos := hf.pos
    rw [← extract_list] at hx1 hy1
    rw [List.drop_drop] at hx2 hy2
    rw [List.forIn_cons, hB a (by simp)]
    subst ho
    have hs := hf.eq d w _ _ l1 m1 ι r1 hd hx1 hy1 hk1 he1
    have hb : SRun P (do
        let u ← part (ty a) x (off a)
        let v ← part (ty a) y (off a)
        let r ← Op.equalIn d (ty a) u v
        if (!r) = true then pure (ForInStep.done (some false, ())) else pure (ForInStep.yield (none, ()))) w (if r1 then ForInStep.yield (none, ()) else ForInStep.done (some false, ())) w [] := by
      refine SRun.bind0 (part_ok hf (by omega)) (SRun.bind0 (part_ok hf (by omega)) (SRun.bind0 hs ?_))
      cases r1
      · exact SRun.pure _
      · exact SRun.pure _
    refine SRun.bind0 hb ?_
    cases r1 with
    | false => exact SRun.pure _
    | true =>
      simp only [Bool.true_and]
      exact ih (fun a ha => hB a (by simp [ha])) hx2 hy2 hk2 he2

theorem items_ck {α : Type} {ty : α → TypeId} {off : α → Nat} {d : Nat} (hd : D ≤ d) {b : Bool} {x : Array Value} {B : α → PUnit → Sem (ForInStep PUnit)} {ι : Nm} : ∀ {o : Nat} {as : List α} {ks : List Nat}, Itm P D ty off o as ks → (∀ a ∈ as, ∀ s, ∀ n ag, SRun P (part (ty a) x (off a)) w n w [] → SRun P (Instr.checkKey b d (ty a) n) w () w [] → ∀ z, SRun P (sizeOf (ty a)) w z w [] → ag = z → SRun P (B a s) w (.yield ⟨⟩) w []) →
    ∀ {l : List AV}, RVs ι l (x.toList.drop o) → kindL ks l = true → SRun P (forIn as PUnit.unit B) w PUnit.unit w [] := by
  intro o as ks H
  induction H with
  | nil =>
    intro _ l hx hk
    rw [List.forIn_nil]; exact SRun.pure _
  | @cons o a as ks ks' ag ho hf _ ih =>
    intro hB l hx hk
    obtain ⟨l1, l2, rfl, hk1, hk2⟩ := kindL_app hk
    obtain ⟨hx1, hx2⟩ := RVs_app_inv hx
    have hlk := kindL_len hk1
    have hxl := hx1.length
    rw [hlk] at hx1 hx2 hxl
    simp only [List.length_take, List.length_drop, Array.length_toList] at hxl
    have hpos := hf.pos
    rw [← extract_list] at hx1
    rw [List.drop_drop] at hx2
    rw [List.forIn_cons]
    subst ho
    refine SRun.bind0 (hB a (by simp) _ _ ks.length (part_ok hf (by omega)) (hf.ck d b w _ l1 ι hd hx1 hk1) _ (hf.size w) rfl) ?_
    exact ih (fun a ha => hB a (by simp [ha])) hx2 hk2
end
end Go.Ev
/- Flat types, put together. -/
namespace Go.Ev

section
variable {P : Program} {D : Nat} {w : World}

theorem agg_run {t : TypeId} {d : TypeDesc} {ag : Bool} (h : P.underlying t = some d) (ha : ag = match d with | .struct _ | .array _ _ => true | _ => false) : SRun P (isAgg t) w ag w [] := by
  unfold isAgg
  refine SRun.bind0 (SRun.underlying h) ?_
  subst ha
  cases d <;> exact SRun.pure _

theorem flat_one {ι : Nm} {k : Nat} {l : List AV} {x : Array Value} (hx : RVs ι l x.toList) (hk : kindL [k] l = true) : ∃ a v, l = [a] ∧ x = #[v] ∧ RV ι a v ∧ (match a with | .bool _ => Nat.beq k 0 | .int _ _ => Nat.beq k 1 | .str _ => Nat.beq k 2 | _ => false) = true := by
  cases l with
  | nil => cases hk
  | cons a l =>
    unfold kindL at hk
    rw [Bool.and_eq_true] at hk
    cases l with
    | cons _ _ => have := hk.2; cases this
    | nil =>
      obtain ⟨v, rfl, hv⟩ := args1 hx
      exact ⟨a, v, rfl, rfl, hv, hk.1⟩
theorem eqL_one {a : AV} {m : List AV} {r : Bool} (h : eqL [a] m = some r) : ∃ b, m = [b] ∧ eqS a b = some r := by
  have hl := eqL_len h
  cases m with
  | nil => simp at hl
  | cons b m =>
    cases m with
    | cons _ _ => simp at hl
    | nil =>
      refine ⟨b, rfl, ?_⟩
      unfold eqL at h
      cases he : eqS a b with
      | none => rw [he] at h; cases h
      | some q => rw [he] at h; cases q <;> exact h

theorem flat_int {t : TypeId} {k : IntKind} {i : TypeInfo} (h : P.underlying t = some (.int k)) (hi : P.info? t = some i) (hs : i.size = 1) : FlatT P 1 t [1] false := by
  refine ⟨fun w => agg_run h rfl, fun w => by have := SRun.sizeOf (w := w) hi; rw [hs] at this; exact this, fun _ => rfl, by decide, fun n b w x l ι hn hx hk => ?_, fun n w x y l m ι r hn hx hy hk he => ?_⟩
  · obtain ⟨a, v, rfl, rfl, hv, hka⟩ := flat_one hx hk
    obtain ⟨n, rfl⟩ : ∃ n', n = n' + 1 := ⟨n - 1, by omega⟩
    unfold Instr.checkKey
    refine SRun.bind0 (SRun.underlying h) ?_
    cases a <;> first | (cases hka; done) | skip
    unfold RV at hv; subst hv
    exact SRun.pure _
  · obtain ⟨a, v, rfl, rfl, hv, hka⟩ := flat_one hx hk
    obtain ⟨b, rfl, he1⟩ := eqL_one he
    clear he
    obtain ⟨u, rfl, hu⟩ := args1 hy
    obtain ⟨n, rfl⟩ : ∃ n', n = n' + 1 := ⟨n - 1, by omega⟩
    unfold Op.equalIn
    refine SRun.bind0 (SRun.underlying h) ?_
    cases a <;> first | (cases hka; done) | skip
    rename_i k1 a
    cases b <;> first | (cases he1; done) | skip
    rename_i k2 b
    unfold RV at hv hu; subst hv; subst hu
    have he1 : cond (ikEq k1 k2) (some (a == b)) none = some r := he1
    cases hik : ikEq k1 k2 with
    | false => rw [hik] at he1; cases he1
    | true =>
      rw [hik] at he1
      cases he1
      obtain rfl := ikEq_true hik
      show SRun P (if k1 = k1 then pure (a == b) else _) w _ w _
      rw [if_pos rfl]
      exact SRun.pure _

theorem flat_str {t : TypeId} {i : TypeInfo} (h : P.underlying t = some .string) (hi : P.info? t = some i) (hs : i.size = 1) : FlatT P 1 t [2] false := by
  refine ⟨fun w => agg_run h rfl, fun w => by have := SRun.sizeOf (w := w) hi; rw [hs] at this; exact this, fun _ => rfl, by decide, fun n b w x l ι hn hx hk => ?_, fun n w x y l m ι r hn hx hy hk he => ?_⟩
  · obtain ⟨a, v, rfl, rfl, hv, hka⟩ := flat_one hx hk
    obtain ⟨n, rfl⟩ : ∃ n', n = n' + 1 := ⟨n - 1, by omega⟩
    unfold Instr.checkKey
    refine SRun.bind0 (SRun.underlying h) ?_
    cases a <;> first | (cases hka; done) | skip
    unfold RV at hv; subst hv
    exact SRun.pure _
  · obtain ⟨a, v, rfl, rfl, hv, hka⟩ := flat_one hx hk
    obtain ⟨b, rfl, he1⟩ := eqL_one he
    clear he
    obtain ⟨u, rfl, hu⟩ := args1 hy
    obtain ⟨n, rfl⟩ : ∃ n', n = n' + 1 := ⟨n - 1, by omega⟩
    unfold Op.equalIn
    refine SRun.bind0 (SRun.underlying h) ?_
    cases a <;> first | (cases hka; done) | skip
    rename_i a
    cases b <;> first | (cases he1; done) | skip
    rename_i b
    unfold RV at hv hu; subst hv; subst hu
    unfold eqS at he1
    cases he1
    show SRun P (pure ((⟨a.toArray⟩ : ByteArray) == ⟨b.toArray⟩)) w _ w _
    rw [bytes_beq]
    exact SRun.pure _

theorem flat_struct {t : TypeId} {fs : Array Field} {i : TypeInfo} {ks : List Nat} (h : P.underlying t = some (.struct fs)) (hi : P.info? t = some i) (hs : i.size = ks.length) (hst : P.stoodInHeld t = false) (hn : ∀ f ∈ fs.toList, f.name ≠ "_")
    (hI : Itm P D (fun f : Field => f.type) (fun f : Field => f.offset) 0 fs.toList ks) (hpos : 0 < ks.length) : FlatT P (D + 1) t ks true := by
  refine ⟨fun w => agg_run h rfl, fun w => by have := SRun.sizeOf (w := w) hi; rw [hs] at this; exact this, fun h => (by cases h), hpos, fun n b w x l ι hd hx hk => ?_, fun n w x y l m ι r hd hx hy hk he => ?_⟩
  · obtain ⟨n, rfl⟩ : ∃ n', n = n' + 1 := ⟨n - 1, by omega⟩
    unfold Instr.checkKey
    refine SRun.bind0 (SRun.underlying h) ?_
    simp only [valO, if_true]
    rw [← Array.forIn_toList]
    refine SRun.bind0 (items_ck (d := n) (b := b) (x := x) (by omega) hI (fun f hf s v ag hp hc _ _ _ => ?_) (by simpa using hx) hk) (SRun.pure _)
    simp only [hn f hf, ne_eq, not_false_eq_true, if_true]
    exact SRun.bind0 hp (SRun.bind0 hc (SRun.pure _))
  · obtain ⟨n, rfl⟩ : ∃ n', n = n' + 1 := ⟨n - 1, by omega⟩
    unfold Op.equalIn
    refine SRun.bind0 (SRun.underlying h) ?_
    simp only [valO, if_true]
    refine SRun.bind0 SRun.program ?_
    simp only [hst, Bool.false_eq_true, if_false]
    rw [← Array.forIn_toList]
    refine SRun.bind0 (items_eq (d := n) (x := x) (y := y) (by omega) hI (fun f hf s => ?_) (by simpa using hx) (by simpa using hy) hk he) ?_
    · simp only [hn f hf, ne_eq, not_false_eq_true, if_true]
    · cases r <;> exact SRun.pure _

theorem itm_array {e : TypeId} {ks : List Nat} {ag : Bool} (hF : FlatT P D e ks ag) : ∀ (n s : Nat), Itm P D (fun _ : Nat => e) (fun i => i * ks.length) (s * ks.length) (List.range' s n 1) (List.replicate n ks).flatten
  | 0, s => Itm.nil
  | n + 1, s => by
    rw [List.range'_succ, List.replicate_succ, List.flatten_cons]
    refine Itm.cons rfl hF ?_
    have := itm_array hF n (s + 1)
    rw [Nat.add_mul, Nat.one_mul] at this
    exact this

theorem flat_array {t e : TypeId} {len : Nat} {i : TypeInfo} {ks : List Nat} {ag : Bool} (h : P.underlying t = some (.array len e)) (hi : P.info? t = some i) (hF : FlatT P D e ks ag) (hs : i.size = (List.replicate len ks).flatten.length) (hpos : 0 < (List.replicate len ks).flatten.length) : FlatT P (D + 1) t (List.replicate len ks).flatten true := by
  have hI := itm_array hF len 0
  rw [Nat.zero_mul] at hI
  refine ⟨fun w => agg_run h rfl, fun w => by have := SRun.sizeOf (w := w) hi; rw [hs] at this; exact this, fun h => (by cases h), hpos, fun n b w x l ι hd hx hk => ?_, fun n w x y l m ι r hd hx hy hk he => ?_⟩
  · obtain ⟨n, rfl⟩ : ∃ n', n = n' + 1 := ⟨n - 1, by omega⟩
    unfold Instr.checkKey
    refine SRun.bind0 (SRun.underlying h) ?_
    simp only [valO, if_true]
    rw [Std.Legacy.Range.forIn_eq_forIn_range']
    have e1 : (Std.Legacy.Range.size { start := 0, stop := len, step := 1, step_pos := Nat.one_pos }) = len := by simp [Std.Legacy.Range.size]
    rw [e1]
    refine SRun.bind0 (items_ck (d := n) (b := b) (x := x) (by omega) hI (fun f hf s v z hp hc z' hz hzz => ?_) (by simpa using hx) hk) (SRun.pure _)
    refine SRun.bind0 (hF.size w) ?_
    exact SRun.bind0 hp (SRun.bind0 hc (SRun.pure _))
  · obtain ⟨n, rfl⟩ : ∃ n', n = n' + 1 := ⟨n - 1, by omega⟩
    unfold Op.equalIn
    refine SRun.bind0 (SRun.underlying h) ?_
    simp only [valO, if_true]
    refine SRun.bind0 (hF.size w) ?_
    rw [Std.Legacy.Range.forIn_eq_forIn_range']
    have e1 : (Std.Legacy.Range.size { start := 0, stop := len, step := 1, step_pos := Nat.one_pos }) = len := by simp [Std.Legacy.Range.size]
    rw [e1]
    refine SRun.bind0 (items_eq (d := n) (x := x) (y := y) (by omega) hI (fun f hf s => rfl) (by simpa using hx) (by simpa using hy) hk he) ?_
    cases r <;> exact SRun.pure _

/-- What the table says of flat types. -/
theorem FlatT.says {t : TypeId} {ks : List Nat} {gs : TypeDesc} (h : FlatT P D t ks true) (hD : D ≤ 10000) (hu : P.underlying t = some gs) (hg : P.eqGuardType P.depth t = false) : ∃ gs, P.underlying t = some gs ∧ ∀ (x : Array Value) (l : List AV) (ι : Nm) (w : World), RVs ι l x.toList → kindL ks l = true →
    (∀ b, SRun P (Instr.checkKey b 10000 t (.agg x)) w () w []) ∧
    ∀ (y : Array Value) (m : List AV) (r : Bool), RVs ι m y.toList → eqL l m = some r →
    ∀ (o1 o2 : Operand), ∀ op, (op = BinOp.eql ∨ op = BinOp.neq) → SRun P (eqGuard op t o1 o2 (.agg x) (.agg y)) w () w [] ∧ SRun P (Op.equal t (.agg x) (.agg y)) w r w [] := by
  refine ⟨gs, hu, fun x l ι w hx hk => ⟨fun b => h.ck 10000 b w x l ι hD hx hk, fun y m r hy he o1 o2 op hop => ⟨?_, h.eq 10000 w x y l m ι r hD hx hy hk he⟩⟩⟩
  unfold eqGuard
  have hp : SRun P (do
      let p ← program
      let q ← program
      if (!p.eqGuardType q.depth t) = true then pure () else (do
        let b ← Op.eqGuardIn Op.maxDepth t (.agg x) (.agg y)
        if b = true then unsupported (.noEntry "binop/eql: two nil values of an interface type with methods, in a part of a struct or an array") else pure ())) w () w [] := by
    refine SRun.bind0 SRun.program (SRun.bind0 SRun.program ?_)
    simp only [hg, Bool.not_false, if_true]
    exact SRun.pure _
  rcases hop with rfl | rfl
  · exact hp
  · exact hp
end
end Go.Ev
