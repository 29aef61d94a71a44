/- A part of the proof that the law ProofNil returns true for every input (its card: YtfemddccapnonaaGreatDoorMyCard): EvPhA, EvPhC, EvPhD, EvOut, EvSpawn, EvSpawn2. Conditions: those of the given row alone. -/
import Derived.Test.YtfemddccapnonaaGreatDoorEv5
import Derived.Conc.Own2
namespace Go.Ev
open Go.Conc
open Go.ConcX (WgAt wgBlock stA smA KK OfWg)
open Go.ConcN (sumTo sumTo_upd upd_same)
structure LvBut (P : Program) (j : Nat) (t : Trace) (gs : Array Goroutine) (q : Nat → Nat) : Prop where
  old : ∀ i g, 0 < i → i ≠ j → gs[i]? = some g → QuitsD P (q i) (Deaf t i) g
  above : ∀ i, gs.size ≤ i → Deaf t i = 0
structure PA (P : Program) (ty : TypeId) (Wg j : Nat) (Fin : Goroutine → Prop) (Shun : Loc → Prop) (reg : Bool) (st : Int) (d0 d1 r n : Nat) (rel : Option Nat) (gs : Array Goroutine) (w : World) (t : Trace) (a b : Goroutine) (q : Nat → Nat) : Prop where
  h0 : gs[0]? = some a
  hj : gs[j]? = some b
  jq : JQ P ty Wg Fin reg d0 r n a
  grp : WgAt ty Wg w st 0
  st0 : reg = false → st = KK
  run : b.status = .running
  lv : LvBut P j t gs q
  tr : PhT Shun Wg j w.heap.size d0 d1 rel t
section
variable {P : Program} {ty : TypeId} {Wg j : Nat} {Fin : Goroutine → Prop} {Shun : Loc → Prop} {reg : Bool} {st : Int} {d0 d1 r n : Nat} {rel : Option Nat} {gs : Array Goroutine} {w : World} {sl : Option (Nat × Nat)} {t : Trace} {a b : Goroutine} {q : Nat → Nat}
theorem gs_get {i m : Nat} {g g' x : Goroutine} {w' : World} (hm : i ≠ m) (h : gs[m]? = some x) : ((gs.map (woken P g g' w')).setIfInBounds i g')[m]? = some (woken P g g' w' x) := by
  rw [Array.getElem?_setIfInBounds_ne hm, Array.getElem?_map, h]; rfl
theorem gs_same {i : Nat} {g g' : Goroutine} {w' : World} {x : Goroutine} (h : gs[i]? = some x) : ((gs.map (woken P g g' w')).setIfInBounds i g')[i]? = some g' := by
  have hlt : i < gs.size := (Array.getElem?_eq_some_iff.1 h).1
  rw [Array.getElem?_setIfInBounds_self_of_lt (by simpa using hlt)]
theorem gs_size {i : Nat} {g g' : Goroutine} {w' : World} : ((gs.map (woken P g g' w')).setIfInBounds i g').size = gs.size := by simp
theorem g_ofEvents {g : Nat} {fn : FuncId} {pos : String} {es : Array Event} : ∀ op ∈ MemOp.ofEvents g fn pos es, op.g = g := fun op hop => by obtain ⟨e, _, rfl⟩ := Go.Conc.mem_ofEvents hop; rfl
theorem LvBut.own (hL : LvBut P j t gs q) {i : Nat} (hi : i = 0 ∨ i = j) {g g' x : Goroutine} {w' : World} {fn : FuncId} {pos : String} {es : Array Event} (hx : gs[i]? = some x) : LvBut P j (t ++ MemOp.ofEvents i fn pos es) ((gs.map (woken P g g' w')).setIfInBounds i g') q := by
  refine ⟨fun m y h1 h2 hy => ?_, fun m hm => ?_⟩
  · have hne : i ≠ m := by rcases hi with rfl | rfl <;> omega
    rw [Array.getElem?_setIfInBounds_ne hne, Array.getElem?_map] at hy
    obtain ⟨z, hz, rfl⟩ := Option.map_eq_some_iff.1 hy
    have hq := hL.old m z h1 h2 hz
    rw [woken_quitsD hq, Deaf_other t (g' := i) hne _ g_ofEvents]
    exact hq
  · have hlt : i < gs.size := (Array.getElem?_eq_some_iff.1 hx).1
    rw [gs_size] at hm
    rw [Deaf_other t (g' := i) (by omega) _ g_ofEvents]
    exact hL.above m hm
theorem LvBut.step (hL : LvBut P j t gs q) {sl' : Option (Nat × Nat)} {i d : Nat} {g : Goroutine} (hpos : 0 < i) (hij : i ≠ j) (hi : gs[i]? = some g) (hg : g.status = .running) :
    ∃ k g' es, runT P (crowd gs (w.at d) sl') i = (.next (crowd ((gs.map (woken P g g' (w.at d))).setIfInBounds i g') (w.at d) sl'), MemOp.ofEvents i g.frame.fn g.frame.place es) ∧ (∀ e ∈ es, e.mute = true) ∧
      LvBut P j (t ++ MemOp.ofEvents i g.frame.fn g.frame.place es) ((gs.map (woken P g g' (w.at d))).setIfInBounds i g') (ConcN.upd q i k) ∧ sumTo gs.size (ConcN.upd q i k) < sumTo gs.size q := by
  have hq := hL.old i g hpos hij hi
  have hi0 : (i == 0) = false := by simp; omega
  have hlt : i < gs.size := (Array.getElem?_eq_some_iff.1 hi).1
  cases hqi : q i with
  | zero => rw [hqi] at hq; rw [hq.1] at hg; cases hg
  | succ k =>
    rw [hqi] at hq
    rcases hq with ⟨hf, _⟩ | ⟨_, g', es, hm, hstp, hq'⟩
    · rw [hf] at hg; cases hg
    have hrunT := runT_crowd_go (P := P) (sl := sl') (i := i) hi (by rw [hi0]; exact hstp (w.at d))
    have hsum : sumTo gs.size (ConcN.upd q i k) + (k + 1) = sumTo gs.size q + k := by
      have := sumTo_upd q k id hlt
      simpa [hqi] using this
    refine ⟨k, g', es, hrunT, hm, ⟨fun m x h1 h2 hx => ?_, fun m hm' => ?_⟩, by omega⟩
    · by_cases hji : i = m
      · subst hji
        rw [gs_same hi] at hx
        obtain rfl := Option.some.inj hx
        rw [upd_same, Deaf_own]
        exact hq'
      · rw [Array.getElem?_setIfInBounds_ne hji, Array.getElem?_map] at hx
        obtain ⟨y, hy, rfl⟩ := Option.map_eq_some_iff.1 hx
        have hqj := hL.old m y h1 h2 hy
        rw [woken_quitsD hqj, ConcN.upd_ne q k (Ne.symm hji), Deaf_other t (g' := i) hji _ g_ofEvents]
        exact hqj
    · rw [gs_size] at hm'
      rw [Deaf_other t (g' := i) (by omega) _ g_ofEvents]
      exact hL.above m hm'
theorem PA.awake (h : PA P ty Wg j Fin Shun reg st d0 d1 r n rel gs w t a b q) : ∀ g ∈ gs, Go.Conc.awake g := by
  intro g hg
  obtain ⟨i, hi, rfl⟩ := Array.mem_iff_getElem.1 hg
  rcases Nat.eq_zero_or_pos i with rfl | hpos
  · have : gs[0] = a := by simpa [Array.getElem?_eq_getElem hi] using h.h0
    rw [this]
    intro t ht
    rcases h.jq.status with x | ⟨x, _⟩ <;> rw [x] at ht <;> cases ht
  · by_cases hij : i = j
    · subst hij
      have : gs[i] = b := by simpa [Array.getElem?_eq_getElem hi] using h.hj
      rw [this]; exact awake_of (.inl h.run)
    · exact awake_of ((h.lv.old i _ hpos hij (Array.getElem?_eq_getElem hi)).status.elim .inl fun x => .inr (.inr x))
def Picked (P : Program) (ty : TypeId) (Wg j : Nat) (Fin : Goroutine → Prop) (Shun : Loc → Prop) (N0 : Nat) (w0 : World) (reg : Bool) (st : Int) (d1 : Nat) (rel : Option Nat) (b : Goroutine) : Array Goroutine → World → Option (Nat × Nat) → Trace → Prop := fun gs w sl t =>
  ∃ dr sl' reg' st' d0' r' n' a' q', gs.size = N0 ∧ Go.stepT P (crowd gs w sl) = runT P (crowd gs (w.at dr) sl') j ∧ JRel Wg w0 w ∧ ((reg' = reg ∧ st' = st) ∨ (reg = false ∧ reg' = true ∧ st' = KK + 1)) ∧ PA P ty Wg j Fin Shun reg' st' d0' d1 r' n' rel gs w t a' b q'
theorem wait_worker (hj0 : j ≠ 0) (hSW : ∀ l, Shun l → ¬ OfWg Wg l) (N0 : Nat) (w0 : World) (reg0 : Bool) (st0 : Int) (hst0 : reg0 = false → st0 = KK) : ∀ (S r n : Nat) (gs : Array Goroutine) (w : World) (sl : Option (Nat × Nat)) (t : Trace) (q : Nat → Nat) (a : Goroutine) (d0 : Nat) (reg : Bool) (st : Int),
    sumTo gs.size q = S → gs.size = N0 → JRel Wg w0 w → ((reg = reg0 ∧ st = st0) ∨ (reg0 = false ∧ reg = true ∧ st = KK + 1)) → PA P ty Wg j Fin Shun reg st d0 d1 r n rel gs w t a b q →
    Reaches P gs w sl t (Picked P ty Wg j Fin Shun N0 w0 reg0 st0 d1 rel b) := by
  intro S
  induction S using Nat.strongRecOn with
  | ind S ihS =>
  intro r
  induction r using Nat.strongRecOn with
  | ind r ihr =>
  intro n
  induction n using Nat.strongRecOn with
  | ind n ihn =>
  intro gs w sl t q a d0 reg st hS hN hR hrs h
  obtain ⟨i, g, dr, sl', hi, hg, hpk⟩ := crowd_pick (P := P) (w := w) (sl := sl) h.awake ⟨j, b, h.hj, h.run⟩
  by_cases hij : i = j
  · subst hij
    exact .here ⟨dr, sl', reg, st, d0, r, n, a, q, hN, hpk, hR, hrs, h⟩
  have hw' : WgAt ty Wg (w.at dr) st 0 := h.grp
  have hR' : JRel Wg w0 (w.at dr) := hR.trans (.at_ w dr)
  have hP : PhT Shun Wg j (w.at dr).heap.size d0 d1 rel t := h.tr
  rcases Nat.eq_zero_or_pos i with rfl | hpos
  · obtain rfl : g = a := by rw [h.h0] at hi; exact (Option.some.inj hi).symm
    obtain ⟨a', w', es, h1, h2, h3, reg', st', r', n', h4, h5, h6, h7⟩ := h.jq.step hg hw' h.st0
    have hrunT := runT_crowd_go (P := P) (sl := sl') (i := 0) hi (show stepG P (0 == 0) g (w.at dr) = _ from h1)
    have hP' := hP.main (fn := g.frame.fn) (pos := g.frame.place) (B' := w'.heap.size) hj0 (by rw [h3.size]; exact Nat.le_refl _) hSW (fun e he x hx => jev_touch (h2 e he) hx) (fun e he => jev_norel (h2 e he)) (fun e he => jev_low (h2 e he) (wg_lt h4))
    have hrs' : (reg' = reg0 ∧ st' = st0) ∨ (reg0 = false ∧ reg' = true ∧ st' = KK + 1) := by
      rcases h5 with ⟨rfl, rfl⟩ | ⟨e1, e2, e3⟩
      · exact hrs
      · rcases hrs with ⟨rfl, rfl⟩ | ⟨e4, e5, e6⟩
        · exact .inr ⟨e1, e2, e3⟩
        · rw [e1] at e5; cases e5
    have hPA : PA P ty Wg j Fin Shun reg' st' (deafBehind d0 es) d1 r' n' rel ((gs.map (woken P g a' w')).setIfInBounds 0 a') w' (t ++ MemOp.ofEvents 0 g.frame.fn g.frame.place es) a' b q :=
      ⟨gs_same hi, by rw [gs_get (Ne.symm hj0) h.hj, woken_run h.run], h6, h4, fun e => (by
        rcases h5 with ⟨rfl, rfl⟩ | ⟨e1, e2, e3⟩
        · exact h.st0 e
        · rw [e2] at e; cases e), h.run, h.lv.own (.inl rfl) hi, hP'⟩
    refine Reaches.step (by rw [hpk]; exact hrunT) ?_
    rcases h7 with h7 | ⟨rfl, h7⟩
    · exact ihr r' h7 n' _ w' sl' _ q a' _ reg' st' (by rw [gs_size]; exact hS) (gs_size.trans hN) (hR'.trans h3) hrs' hPA
    · exact ihn n' h7 _ w' sl' _ q a' _ reg' st' (by rw [gs_size]; exact hS) (gs_size.trans hN) (hR'.trans h3) hrs' hPA
  · obtain ⟨k, g1, es1, hrunT, hm, hL', hlt'⟩ := h.lv.step (w := w) (sl' := sl') (d := dr) hpos hij hi hg
    have hP' := hP.leaver (g := i) (fn := g.frame.fn) (pos := g.frame.place) (by omega) hij hm
    obtain ⟨r', n', hjq⟩ := h.jq.awoken (b := g) (b' := g1) (w := w.at dr)
    refine Reaches.step (by rw [hpk]; exact hrunT) ?_
    exact ihS _ (by rw [← hS]; exact hlt') r' n' _ (w.at dr) sl' _ (ConcN.upd q i k) _ d0 reg st (by rw [gs_size]) (gs_size.trans hN) hR' hrs
      ⟨gs_get (by omega) h.h0, by rw [gs_get hij h.hj, woken_run h.run], hjq, hw', h.st0, h.run, hL', hP'⟩
theorem PA.work (h : PA P ty Wg j Fin Shun reg st d0 d1 r n rel gs w t a b q) (hj0 : j ≠ 0) {b' : Goroutine} {w2 : World} {es : Array Event} (hrun : b'.status = .running) {st2 : Int} (hg : WgAt ty Wg w2 st2 0) (hst : reg = false → st2 = KK) {rel' : Option Nat}
    (hP : PhT Shun Wg j w2.heap.size d0 (deafBehind d1 es) rel' (t ++ MemOp.ofEvents j b.frame.fn b.frame.place es)) :
    ∃ r' n', PA P ty Wg j Fin Shun reg st2 d0 (deafBehind d1 es) r' n' rel' ((gs.map (woken P b b' w2)).setIfInBounds j b') w2 (t ++ MemOp.ofEvents j b.frame.fn b.frame.place es) (woken P b b' w2 a) b' q := by
  obtain ⟨r', n', hjq⟩ := h.jq.awoken (b := b) (b' := b') (w := w2)
  exact ⟨r', n', gs_get hj0 h.h0, gs_same h.hj, hjq, hg, hst, hrun, h.lv.own (.inr rfl) h.hj, hP⟩
theorem LvBut.toAll (hj0 : j ≠ 0) (h : LvBut P j t gs q) {b : Goroutine} (hb : gs[j]? = some b) {k : Nat} (hq : QuitsD P k (Deaf t j) b) : Leavers P t gs (ConcN.upd q j k) := by
  refine ⟨fun i g h1 h2 => ?_, h.above⟩
  by_cases hij : i = j
  · subst hij
    rw [hb] at h2; cases h2
    rw [upd_same]; exact hq
  · rw [ConcN.upd_ne q k hij]
    exact h.old i g h1 hij h2
end
end Go.Ev
namespace Go.Ev
open Go.Conc
open Go.ConcX (WgAt wgBlock stA smA KK OfWg RCa RCd DC0 KCa Full Payload Shy DCs EvQ)
open Go.ConcN (sumTo sumTo_upd upd_same)
section
variable {P : Program} {ty : TypeId} {Wg j : Nat} {Fin : Goroutine → Prop} {Shun : Loc → Prop} {reg : Bool} {st : Int} {d0 d1 r n : Nat} {rel : Option Nat} {gs : Array Goroutine} {w : World} {sl : Option (Nat × Nat)} {t : Trace} {a b : Goroutine} {q : Nat → Nat}
theorem PA.at_ (h : PA P ty Wg j Fin Shun reg st d0 d1 r n rel gs w t a b q) (d : Nat) : PA P ty Wg j Fin Shun reg st d0 d1 r n rel gs (w.at d) t a b q := ⟨h.h0, h.hj, h.jq, h.grp, h.st0, h.run, h.lv, h.tr⟩
theorem worker_go {T : Array Goroutine → World → Option (Nat × Nat) → Trace → Prop} (hj0 : j ≠ 0) (hSW : ∀ l, Shun l → ¬ OfWg Wg l) (h : PA P ty Wg j Fin Shun reg st d0 d1 r n rel gs w t a b q)
    (K : ∀ gs1 w1 sl1 t1 reg1 st1 d01 r1 n1 a1 q1, gs1.size = gs.size → JRel Wg w w1 → ((reg1 = reg ∧ st1 = st) ∨ (reg = false ∧ reg1 = true ∧ st1 = KK + 1)) → PA P ty Wg j Fin Shun reg1 st1 d01 d1 r1 n1 rel gs1 w1 t1 a1 b q1 →
      ∃ b' w2 es, stepG P false b w1 = .go b' w2 es ∧ Reaches P ((gs1.map (woken P b b' w2)).setIfInBounds j b') w2 sl1 (t1 ++ MemOp.ofEvents j b.frame.fn b.frame.place es) T) :
    Reaches P gs w sl t T := by
  refine Reaches.then (wait_worker hj0 hSW gs.size w reg st h.st0 _ r n gs w sl t q a d0 reg st rfl rfl (.refl w) (.inl ⟨rfl, rfl⟩) h) ?_
  rintro gs1 w1 sl1 t1 ⟨dr, sl', reg1, st1, d01, r1, n1, a1, q1, hN, hpk, hR, hrs, hPA⟩
  obtain ⟨b', w2, es, h1, h2⟩ := K gs1 (w1.at dr) sl' t1 reg1 st1 d01 r1 n1 a1 q1 hN (hR.trans (.at_ w1 dr)) hrs (hPA.at_ dr)
  have hi0 : (j == 0) = false := by simp; exact hj0
  have hrunT := runT_crowd_go (P := P) (sl := sl') (i := j) hPA.hj (by rw [hi0]; exact h1)
  exact Reaches.step (by rw [hpk]; exact hrunT) h2
theorem nil_ops (t : Trace) (g : Nat) (fn : FuncId) (pos : String) : t ++ MemOp.ofEvents g fn pos #[] = t := by rw [ofEvents_none]; simp
theorem PA.idle (h : PA P ty Wg j Fin Shun reg st d0 d1 r n rel gs w t a b q) (hj0 : j ≠ 0) {b' : Goroutine} (hrun : b'.status = .running) :
    ∃ r' n', PA P ty Wg j Fin Shun reg st d0 d1 r' n' rel ((gs.map (woken P b b' w)).setIfInBounds j b') w (t ++ MemOp.ofEvents j b.frame.fn b.frame.place #[]) (woken P b b' w a) b' q := by
  have e : deafBehind d1 #[] = d1 := rfl
  have := h.work (es := #[]) (w2 := w) (rel' := rel) hj0 hrun h.grp h.st0 (by rw [e, nil_ops]; exact h.tr)
  rw [e] at this
  exact this
theorem same_block {w' : World} (hR : JRel Wg w w') {st : Int} (h : WgAt ty Wg w st 0) (h' : WgAt ty Wg w' st 0) (x : Nat) : w'.heap[x]? = w.heap[x]? := by
  by_cases hx : x = Wg
  · subst hx; exact (show w'.heap[x]? = some _ from h').trans (show w.heap[x]? = some _ from h).symm
  · exact hR.block x hx
theorem one_or (hk : reg = true → st = KK + 1) {reg1 : Bool} {st1 : Int} (hrs : (reg1 = reg ∧ st1 = st) ∨ (reg = false ∧ reg1 = true ∧ st1 = KK + 1)) : reg1 = true → st1 = KK + 1 := by
  rcases hrs with ⟨rfl, rfl⟩ | ⟨_, _, rfl⟩
  · exact hk
  · exact fun _ => rfl
theorem rca_of (hk : reg = true → st = KK + 1) (h : PA P ty Wg j Fin Shun reg st d0 d1 r n rel gs w t a b q) {w1 : World} {Low : Nat} (hR : JRel Wg w1 w) : RCa ty Wg Low w1 w :=
  ⟨fun x _ hx => hR.block x hx, fun _ => by
    cases hr : reg with
    | false => left; rw [← h.st0 hr]; exact h.grp
    | true => right; rw [← hk hr]; exact h.grp⟩
section
variable (hj0 : j ≠ 0) (hSW : ∀ l, Shun l → ¬ OfWg Wg l) (N0 : Nat) (w0 : World) (Low rr : Nat)
include hj0 hSW
theorem st6 : ∀ (m : Nat) (gs : Array Goroutine) (w : World) (sl : Option (Nat × Nat)) (t : Trace) (q : Nat → Nat) (a b : Goroutine) (d0 r n : Nat), gs.size = N0 → JRel Wg w0 w → Goes P false (RCd Low) DC0 (Go.ConcX.AtD4 P Wg) m b w →
    PA P ty Wg j Fin Shun true 0 d0 1 r n (some rr) gs w t a b q → Reaches P gs w sl t (Joined P ty Wg Fin Shun N0 w0) := by
  intro m
  induction m with
  | zero => exact fun gs w sl t q a b d0 r n hN hR hG h => fin gs w sl t q a b d0 r n hN hR hG h
  | succ m ih =>
    intro gs w sl t q a b d0 r n hN hR hG h
    rcases Goes.cases hG with hs | ⟨m', hm, hs⟩
    · exact fin gs w sl t q a b d0 r n hN hR hs h
    · cases hm
      refine worker_go hj0 hSW h fun gs1 w1 sl1 t1 reg1 st1 d01 r1 n1 a1 q1 hN1 hR1 hrs hPA => ?_
      obtain ⟨rfl, rfl⟩ : reg1 = true ∧ st1 = 0 := hrs.elim id fun x => by cases x.1
      obtain ⟨b', w2, es, h1, ⟨rfl, rfl⟩, h2⟩ := hs w1 fun x _ => same_block hR1 h.grp hPA.grp x
      have hrun : b'.status = .running := Goes.running (fun _ _ x => x.1) w2 (RCd.refl w2) h2
      obtain ⟨r2, n2, h3⟩ := hPA.idle hj0 hrun
      exact ⟨b', w2, #[], h1, ih _ w2 sl1 _ q1 _ b' d01 r2 n2 (gs_size.trans (hN1.trans hN)) (hR.trans hR1) h2 h3⟩
where
  fin (gs : Array Goroutine) (w : World) (sl : Option (Nat × Nat)) (t : Trace) (q : Nat → Nat) (a b : Goroutine) (d0 r n : Nat) (hN : gs.size = N0) (hR : JRel Wg w0 w) (hG : ∀ w₁, RCd Low w w₁ → Go.ConcX.AtD4 P Wg b w₁)
      (h : PA P ty Wg j Fin Shun true 0 d0 1 r n (some rr) gs w t a b q) : Reaches P gs w sl t (Joined P ty Wg Fin Shun N0 w0) := by
    refine worker_go hj0 hSW h fun gs1 w1 sl1 t1 reg1 st1 d01 r1 n1 a1 q1 hN1 hR1 hrs hPA => ?_
    obtain ⟨rfl, rfl⟩ : reg1 = true ∧ st1 = 0 := hrs.elim id fun x => by cases x.1
    obtain ⟨_, hmw, b', h1, k, hq⟩ := hG w1 fun x _ => same_block hR1 h.grp hPA.grp x
    have hb' : b'.status = .running := by
      cases k with
      | zero => exact absurd hq.2 (by decide)
      | succ k => exact hq.elim (fun x => absurd x.2 (by decide)) (fun x => x.1)
    have e1 : deafBehind 1 (semEvents (smA Wg)) = 1 := rfl
    have hsz : (w1.setCell (smA Wg) (.int .u32 1)).heap.size = w1.heap.size := (JRel.setCell (Wg := Wg) w1 (smA Wg) (.int .u32 1) rfl).size
    have hP' := hPA.tr.tail (fn := b.frame.fn) (pos := b.frame.place) (es := semEvents (smA Wg)) hj0 hSW (wg_lt hPA.grp) (fun k e hk => by
      have : k = 0 ∨ k = 1 ∨ k = 2 ∨ k = 3 := by have := (Array.getElem?_eq_some_iff.1 hk).1; simp [semEvents] at this; omega
      rcases this with rfl | rfl | rfl | rfl <;> (simp [semEvents] at hk; subst hk)
      · exact .inl rfl
      · exact .inr ⟨⟨1, false, rfl⟩, by simp [deafBehind, semEvents, rdA, wrA]⟩
      · exact .inr ⟨⟨1, true, rfl⟩, by simp [deafBehind, semEvents, rdA, wrA]⟩
      · exact .inl rfl) (fun e he => jev_norel (jev_sem e he)) (fun e he => jev_low (jev_sem e he) (wg_lt hPA.grp))
    rw [e1] at hP'
    obtain ⟨n', hjb⟩ := hPA.jq.up (w := w1.setCell (smA Wg) (.int .u32 1)) hmw hb'
    have hL := (hPA.lv.own (g := b) (g' := b') (w' := w1.setCell (smA Wg) (.int .u32 1)) (fn := b.frame.fn) (pos := b.frame.place) (es := semEvents (smA Wg)) (.inr rfl) hPA.hj).toAll hj0 (gs_same hPA.hj) (k := k) (by rw [hP'.deaf1]; exact hq)
    exact ⟨b', _, _, h1, join_past hj0 hSW rr N0 w0 3 _ n' _ _ sl1 _ (ConcN.upd q1 j k) _ d01 1 1 (Nat.le_refl _) (gs_size.trans (hN1.trans hN)) ((hR.trans hR1).trans (.setCell w1 (smA Wg) _ rfl)) hjb (gs_get hj0 hPA.h0) hL (Go.ConcX.WgAt.setSm hPA.grp 1) (by rw [hsz]; exact hP')⟩
theorem st5 : ∀ (m : Nat) (gs : Array Goroutine) (w : World) (sl : Option (Nat × Nat)) (t : Trace) (q : Nat → Nat) (a b : Goroutine) (d0 r n : Nat), gs.size = N0 → JRel Wg w0 w → Goes P false (RCd Low) DC0 (Go.ConcX.AtD3 P Wg Low) m b w →
    PA P ty Wg j Fin Shun true 1 d0 1 r n (some rr) gs w t a b q → Reaches P gs w sl t (Joined P ty Wg Fin Shun N0 w0) := by
  intro m
  induction m with
  | zero => exact fun gs w sl t q a b d0 r n hN hR hG h => fin gs w sl t q a b d0 r n hN hR hG h
  | succ m ih =>
    intro gs w sl t q a b d0 r n hN hR hG h
    rcases Goes.cases hG with hs | ⟨m', hm, hs⟩
    · exact fin gs w sl t q a b d0 r n hN hR hs h
    · cases hm
      refine worker_go hj0 hSW h fun gs1 w1 sl1 t1 reg1 st1 d01 r1 n1 a1 q1 hN1 hR1 hrs hPA => ?_
      obtain ⟨rfl, rfl⟩ : reg1 = true ∧ st1 = 1 := hrs.elim id fun x => by cases x.1
      obtain ⟨b', w2, es, h1, ⟨rfl, rfl⟩, h2⟩ := hs w1 fun x _ => same_block hR1 h.grp hPA.grp x
      have hrun : b'.status = .running := Goes.running (fun _ _ x => x.1) w2 (RCd.refl w2) h2
      obtain ⟨r2, n2, h3⟩ := hPA.idle hj0 hrun
      exact ⟨b', w2, #[], h1, ih _ w2 sl1 _ q1 _ b' d01 r2 n2 (gs_size.trans (hN1.trans hN)) (hR.trans hR1) h2 h3⟩
where
  fin (gs : Array Goroutine) (w : World) (sl : Option (Nat × Nat)) (t : Trace) (q : Nat → Nat) (a b : Goroutine) (d0 r n : Nat) (hN : gs.size = N0) (hR : JRel Wg w0 w) (hG : ∀ w₁, RCd Low w w₁ → Go.ConcX.AtD3 P Wg Low b w₁)
      (h : PA P ty Wg j Fin Shun true 1 d0 1 r n (some rr) gs w t a b q) : Reaches P gs w sl t (Joined P ty Wg Fin Shun N0 w0) := by
    refine worker_go hj0 hSW h fun gs1 w1 sl1 t1 reg1 st1 d01 r1 n1 a1 q1 hN1 hR1 hrs hPA => ?_
    obtain ⟨rfl, rfl⟩ : reg1 = true ∧ st1 = 1 := hrs.elim id fun x => by cases x.1
    obtain ⟨_, b', h1, m, h2⟩ := hG w1 fun x _ => same_block hR1 h.grp hPA.grp x
    have hrun : b'.status = .running := Goes.running (fun _ _ x => x.1) _ (RCd.refl _) h2
    have e1 : deafBehind 1 #[wrA (stA Wg)] = 1 := rfl
    have hsz : (w1.setCell (stA Wg) (.int .u64 0)).heap.size = w1.heap.size := (JRel.setCell (Wg := Wg) w1 (stA Wg) (.int .u64 0) rfl).size
    have hP' := hPA.tr.tail (fn := b.frame.fn) (pos := b.frame.place) (es := #[wrA (stA Wg)]) hj0 hSW (wg_lt hPA.grp) (fun k e hk => by
      have : k = 0 := by have := (Array.getElem?_eq_some_iff.1 hk).1; simp at this; omega
      subst this; simp at hk; subst hk
      exact .inr ⟨⟨0, true, rfl⟩, by simp [deafBehind, semEvents, rdA, wrA]⟩) (fun e he => by simp at he; subst he; exact jev_norel jev_wr) (fun e he => by simp at he; subst he; exact jev_low jev_wr (wg_lt hPA.grp))
    obtain ⟨r2, n2, h3⟩ := hPA.work (es := #[wrA (stA Wg)]) (rel' := some rr) hj0 hrun (Go.ConcX.WgAt.setSt hPA.grp 0) (fun e => by cases e) (by rw [hsz]; exact hP')
    rw [e1] at h3
    exact ⟨b', _, _, h1, st6 (Fin := Fin) (ty := ty) hj0 hSW N0 w0 Low rr m _ _ sl1 _ q1 _ b' d01 r2 n2 (gs_size.trans (hN1.trans hN)) ((hR.trans hR1).trans (.setCell w1 (stA Wg) _ rfl)) h2 h3⟩
theorem st4 : ∀ (m : Nat) (gs : Array Goroutine) (w : World) (sl : Option (Nat × Nat)) (t : Trace) (q : Nat → Nat) (a b : Goroutine) (d0 r n : Nat), gs.size = N0 → JRel Wg w0 w → Goes P false (RCd Low) DC0 (Go.ConcX.AtD2 P Wg Low) m b w →
    PA P ty Wg j Fin Shun true 1 d0 1 r n (some rr) gs w t a b q → Reaches P gs w sl t (Joined P ty Wg Fin Shun N0 w0) := by
  intro m
  induction m with
  | zero => exact fun gs w sl t q a b d0 r n hN hR hG h => fin gs w sl t q a b d0 r n hN hR hG h
  | succ m ih =>
    intro gs w sl t q a b d0 r n hN hR hG h
    rcases Goes.cases hG with hs | ⟨m', hm, hs⟩
    · exact fin gs w sl t q a b d0 r n hN hR hs h
    · cases hm
      refine worker_go hj0 hSW h fun gs1 w1 sl1 t1 reg1 st1 d01 r1 n1 a1 q1 hN1 hR1 hrs hPA => ?_
      obtain ⟨rfl, rfl⟩ : reg1 = true ∧ st1 = 1 := hrs.elim id fun x => by cases x.1
      obtain ⟨b', w2, es, h1, ⟨rfl, rfl⟩, h2⟩ := hs w1 fun x _ => same_block hR1 h.grp hPA.grp x
      have hrun : b'.status = .running := Goes.running (fun _ _ x => x.1) w2 (RCd.refl w2) h2
      obtain ⟨r2, n2, h3⟩ := hPA.idle hj0 hrun
      exact ⟨b', w2, #[], h1, ih _ w2 sl1 _ q1 _ b' d01 r2 n2 (gs_size.trans (hN1.trans hN)) (hR.trans hR1) h2 h3⟩
where
  fin (gs : Array Goroutine) (w : World) (sl : Option (Nat × Nat)) (t : Trace) (q : Nat → Nat) (a b : Goroutine) (d0 r n : Nat) (hN : gs.size = N0) (hR : JRel Wg w0 w) (hG : ∀ w₁, RCd Low w w₁ → Go.ConcX.AtD2 P Wg Low b w₁)
      (h : PA P ty Wg j Fin Shun true 1 d0 1 r n (some rr) gs w t a b q) : Reaches P gs w sl t (Joined P ty Wg Fin Shun N0 w0) := by
    refine worker_go hj0 hSW h fun gs1 w1 sl1 t1 reg1 st1 d01 r1 n1 a1 q1 hN1 hR1 hrs hPA => ?_
    obtain ⟨rfl, rfl⟩ : reg1 = true ∧ st1 = 1 := hrs.elim id fun x => by cases x.1
    obtain ⟨_, b', h1, m, h2⟩ := hG w1 fun x _ => same_block hR1 h.grp hPA.grp x
    have hrun : b'.status = .running := Goes.running (fun _ _ x => x.1) _ (RCd.refl _) h2
    have e1 : deafBehind 1 #[rdA (stA Wg)] = 1 := rfl
    have hP' := hPA.tr.tail (fn := b.frame.fn) (pos := b.frame.place) (es := #[rdA (stA Wg)]) hj0 hSW (wg_lt hPA.grp) (fun k e hk => by
      have : k = 0 := by have := (Array.getElem?_eq_some_iff.1 hk).1; simp at this; omega
      subst this; simp at hk; subst hk
      exact .inr ⟨⟨0, false, rfl⟩, by simp [deafBehind, semEvents, rdA, wrA]⟩) (fun e he => by simp at he; subst he; exact jev_norel jev_rd) (fun e he => by simp at he; subst he; exact jev_low jev_rd (wg_lt hPA.grp))
    obtain ⟨r2, n2, h3⟩ := hPA.work (es := #[rdA (stA Wg)]) (w2 := w1) (rel' := some rr) hj0 hrun hPA.grp (fun e => by cases e) hP'
    rw [e1] at h3
    exact ⟨b', _, _, h1, st5 (Fin := Fin) (ty := ty) hj0 hSW N0 w0 Low rr m _ _ sl1 _ q1 _ b' d01 r2 n2 (gs_size.trans (hN1.trans hN)) (hR.trans hR1) h2 h3⟩
theorem st3 : ∀ (m : Nat) (gs : Array Goroutine) (w : World) (sl : Option (Nat × Nat)) (t : Trace) (q : Nat → Nat) (a b : Goroutine) (reg : Bool) (st : Int) (d0 r n : Nat), gs.size = N0 → JRel Wg w0 w → (reg = true → st = KK + 1) → Goes P false (RCa ty Wg Low) DC0 (Go.ConcX.AtD1 P ty Wg Low) m b w →
    PA P ty Wg j Fin Shun reg st d0 1 r n (some rr) gs w t a b q → Reaches P gs w sl t (Joined P ty Wg Fin Shun N0 w0) := by
  intro m
  induction m with
  | zero => exact fun gs w sl t q a b reg st d0 r n hN hR hk hG h => fin gs w sl t q a b reg st d0 r n hN hR hk hG h
  | succ m ih =>
    intro gs w sl t q a b reg st d0 r n hN hR hk hG h
    rcases Goes.cases hG with hs | ⟨m', hm, hs⟩
    · exact fin gs w sl t q a b reg st d0 r n hN hR hk hs h
    · cases hm
      refine worker_go hj0 hSW h fun gs1 w1 sl1 t1 reg1 st1 d01 r1 n1 a1 q1 hN1 hR1 hrs hPA => ?_
      have hk1 := one_or hk hrs
      obtain ⟨b', w2, es, h1, ⟨rfl, rfl⟩, h2⟩ := hs w1 (rca_of hk1 hPA hR1)
      have hrun : b'.status = .running := Goes.running (fun _ _ x => x.1) w2 (Go.ConcX.RCa.refl w2) h2
      obtain ⟨r2, n2, h3⟩ := hPA.idle hj0 hrun
      exact ⟨b', w2, #[], h1, ih _ w2 sl1 _ q1 _ b' reg1 st1 d01 r2 n2 (gs_size.trans (hN1.trans hN)) (hR.trans hR1) hk1 h2 h3⟩
where
  fin (gs : Array Goroutine) (w : World) (sl : Option (Nat × Nat)) (t : Trace) (q : Nat → Nat) (a b : Goroutine) (reg : Bool) (st : Int) (d0 r n : Nat) (hN : gs.size = N0) (hR : JRel Wg w0 w) (hk : reg = true → st = KK + 1) (hG : ∀ w₁, RCa ty Wg Low w w₁ → Go.ConcX.AtD1 P ty Wg Low b w₁)
      (h : PA P ty Wg j Fin Shun reg st d0 1 r n (some rr) gs w t a b q) : Reaches P gs w sl t (Joined P ty Wg Fin Shun N0 w0) := by
    refine worker_go hj0 hSW h fun gs1 w1 sl1 t1 reg1 st1 d01 r1 n1 a1 q1 hN1 hR1 hrs hPA => ?_
    have hk1 := one_or hk hrs
    obtain ⟨_, hA, hB⟩ := hG w1 (rca_of hk1 hPA hR1)
    have e1 : deafBehind 1 #[rdA (stA Wg), wrA (stA Wg)] = 1 := rfl
    have hsz : ∀ v, (w1.setCell (stA Wg) (.int .u64 v)).heap.size = w1.heap.size := fun v => (JRel.setCell (Wg := Wg) w1 (stA Wg) (.int .u64 v) rfl).size
    have hP' := hPA.tr.tail (fn := b.frame.fn) (pos := b.frame.place) (es := #[rdA (stA Wg), wrA (stA Wg)]) hj0 hSW (wg_lt hPA.grp) (fun k e hk => by
      have : k = 0 ∨ k = 1 := by have := (Array.getElem?_eq_some_iff.1 hk).1; simp at this; omega
      rcases this with rfl | rfl <;> (simp at hk; subst hk)
      · exact .inr ⟨⟨0, false, rfl⟩, by simp [deafBehind, semEvents, rdA, wrA]⟩
      · exact .inr ⟨⟨0, true, rfl⟩, by simp [deafBehind, semEvents, rdA, wrA]⟩)
      (fun e he => by simp at he; exact he.elim (fun x => x ▸ jev_norel jev_rd) (fun x => x ▸ jev_norel jev_wr)) (fun e he => by simp at he; exact he.elim (fun x => x ▸ jev_low jev_rd (wg_lt hPA.grp)) (fun x => x ▸ jev_low jev_wr (wg_lt hPA.grp)))
    rw [e1] at hP'
    cases hr : reg1 with
    | false =>
      subst hr
      obtain rfl := hPA.st0 rfl
      obtain ⟨b', h1, k, hq⟩ := hA hPA.grp
      obtain ⟨r', hjb⟩ := hPA.jq.toB
      have ha : woken P b b' (w1.setCell (stA Wg) (.int .u64 0)) a1 = a1 := woken_run (hPA.jq.status.elim id fun x => by cases x.2)
      have hL := (hPA.lv.own (g := b) (g' := b') (w' := w1.setCell (stA Wg) (.int .u64 0)) (fn := b.frame.fn) (pos := b.frame.place) (es := #[rdA (stA Wg), wrA (stA Wg)]) (.inr rfl) hPA.hj).toAll hj0 (gs_same hPA.hj) (k := k) (by rw [show Deaf _ j = 1 from hP'.deaf1]; exact hq)
      have h00 := gs_get (P := P) (g := b) (g' := b') (w' := w1.setCell (stA Wg) (.int .u64 0)) hj0 hPA.h0
      rw [ha] at h00
      exact ⟨b', _, _, h1, join_past hj0 hSW rr N0 w0 r' _ n1 _ _ sl1 _ (ConcN.upd q1 j k) a1 d01 1 0 (Nat.le_refl _) (gs_size.trans (hN1.trans hN)) ((hR.trans hR1).trans (.setCell w1 (stA Wg) _ rfl)) hjb h00 hL (Go.ConcX.WgAt.setSt hPA.grp 0) (by rw [hsz]; exact hP')⟩
    | true =>
      subst hr
      obtain rfl := hk1 rfl
      obtain ⟨b', h1, m, h2⟩ := hB hPA.grp
      have hrun : b'.status = .running := Goes.running (fun _ _ x => x.1) _ (RCd.refl _) h2
      obtain ⟨r2, n2, h3⟩ := hPA.work (es := #[rdA (stA Wg), wrA (stA Wg)]) (rel' := some rr) hj0 hrun (Go.ConcX.WgAt.setSt hPA.grp 1) (fun e => by cases e) (by rw [hsz, e1]; exact hP')
      rw [e1] at h3
      exact ⟨b', _, _, h1, st4 (Fin := Fin) (ty := ty) hj0 hSW N0 w0 Low rr m _ _ sl1 _ q1 _ b' d01 r2 n2 (gs_size.trans (hN1.trans hN)) ((hR.trans hR1).trans (.setCell w1 (stA Wg) _ rfl)) h2 h3⟩
theorem st2 : ∀ (m : Nat) (gs : Array Goroutine) (w : World) (sl : Option (Nat × Nat)) (t : Trace) (q : Nat → Nat) (a b : Goroutine) (reg : Bool) (st : Int) (d0 r n : Nat), gs.size = N0 → JRel Wg w0 w → (reg = true → st = KK + 1) → Goes P false (RCa ty Wg Low) DC0 (Go.ConcX.AtK1 P ty Wg Low) m b w →
    PA P ty Wg j Fin Shun reg st d0 0 r n (some rr) gs w t a b q → Reaches P gs w sl t (Joined P ty Wg Fin Shun N0 w0) := by
  intro m
  induction m with
  | zero => exact fun gs w sl t q a b reg st d0 r n hN hR hk hG h => fin gs w sl t q a b reg st d0 r n hN hR hk hG h
  | succ m ih =>
    intro gs w sl t q a b reg st d0 r n hN hR hk hG h
    rcases Goes.cases hG with hs | ⟨m', hm, hs⟩
    · exact fin gs w sl t q a b reg st d0 r n hN hR hk hs h
    · cases hm
      refine worker_go hj0 hSW h fun gs1 w1 sl1 t1 reg1 st1 d01 r1 n1 a1 q1 hN1 hR1 hrs hPA => ?_
      have hk1 := one_or hk hrs
      obtain ⟨b', w2, es, h1, ⟨rfl, rfl⟩, h2⟩ := hs w1 (rca_of hk1 hPA hR1)
      have hrun : b'.status = .running := Goes.running (fun _ _ x => x.1) w2 (Go.ConcX.RCa.refl w2) h2
      obtain ⟨r2, n2, h3⟩ := hPA.idle hj0 hrun
      exact ⟨b', w2, #[], h1, ih _ w2 sl1 _ q1 _ b' reg1 st1 d01 r2 n2 (gs_size.trans (hN1.trans hN)) (hR.trans hR1) hk1 h2 h3⟩
where
  fin (gs : Array Goroutine) (w : World) (sl : Option (Nat × Nat)) (t : Trace) (q : Nat → Nat) (a b : Goroutine) (reg : Bool) (st : Int) (d0 r n : Nat) (hN : gs.size = N0) (hR : JRel Wg w0 w) (hk : reg = true → st = KK + 1) (hG : ∀ w₁, RCa ty Wg Low w w₁ → Go.ConcX.AtK1 P ty Wg Low b w₁)
      (h : PA P ty Wg j Fin Shun reg st d0 0 r n (some rr) gs w t a b q) : Reaches P gs w sl t (Joined P ty Wg Fin Shun N0 w0) := by
    refine worker_go hj0 hSW h fun gs1 w1 sl1 t1 reg1 st1 d01 r1 n1 a1 q1 hN1 hR1 hrs hPA => ?_
    have hk1 := one_or hk hrs
    obtain ⟨_, b', h1, m, h2⟩ := hG w1 (rca_of hk1 hPA hR1)
    have hrun : b'.status = .running := Goes.running (fun _ _ x => x.1) _ (Go.ConcX.RCa.refl _) h2
    have e1 : deafBehind 0 #[mkE .disable] = 1 := rfl
    have hP' := hPA.tr.tail (fn := b.frame.fn) (pos := b.frame.place) (es := #[mkE .disable]) hj0 hSW (wg_lt hPA.grp) (fun k e hk => by
      have : k = 0 := by have := (Array.getElem?_eq_some_iff.1 hk).1; simp at this; omega
      subst this; simp at hk; subst hk
      exact .inl rfl) (fun e he => by simp at he; subst he; simp [mkE]) (fun e he => by simp at he; subst he; trivial)
    obtain ⟨r2, n2, h3⟩ := hPA.work (es := #[mkE .disable]) (w2 := w1) (rel' := some rr) hj0 hrun hPA.grp hPA.st0 hP'
    rw [e1] at h3
    exact ⟨b', _, _, h1, st3 (Fin := Fin) (ty := ty) hj0 hSW N0 w0 Low rr m _ _ sl1 _ q1 _ b' reg1 st1 d01 r2 n2 (gs_size.trans (hN1.trans hN)) (hR.trans hR1) hk1 h2 h3⟩
end
end
end Go.Ev
namespace Go.Ev
open Go.Conc
open Go.ConcX (WgAt wgBlock stA smA KK OfWg RCa RCd DC0 KCa Full Payload Shy DCs EvQ)
open Go.ConcN (sumTo sumTo_upd upd_same)
structure JRelC (Wg C : Nat) (w w' : World) : Prop where
  size : w'.heap.size = w.heap.size
  block : ∀ b, b ≠ Wg → b ≠ C → w'.heap[b]? = w.heap[b]?
  os : w'.os = w.os
  tape : w'.tape = w.tape
  output : w'.output = w.output
theorem JRel.toC {Wg : Nat} {w w' : World} (h : JRel Wg w w') (C : Nat) : JRelC Wg C w w' := ⟨h.size, fun b h1 _ => h.block b h1, h.os, h.tape, h.output⟩
theorem JRelC.trans {Wg C : Nat} {a b c : World} (h : JRelC Wg C a b) (h' : JRelC Wg C b c) : JRelC Wg C a c :=
  ⟨h'.size.trans h.size, fun x h1 h2 => (h'.block x h1 h2).trans (h.block x h1 h2), h'.os.trans h.os, h'.tape.trans h.tape, h'.output.trans h.output⟩
theorem full_at {pl : Payload} {C : Nat} {vals : List Value} {w : World} (h : Full C vals w) : w.heap[C]? = some (.cells vals.toArray Payload.ety) := h rfl
theorem JRelC.toJ {Wg C : Nat} {w w' : World} {pl : Payload} {vals : List Value} (h : JRelC Wg C w w') (hw : Full C vals w) (hw' : Full C vals w') : JRel Wg w w' :=
  ⟨h.size, fun b h1 => by
    by_cases hb : b = C
    · subst hb; exact (full_at hw').trans (full_at hw).symm
    · exact h.block b h1 hb, h.os, h.tape, h.output⟩
@[reducible] def strict (Wg C B : Nat) (hW : Wg < B) (hC : C < B) : Shy Wg C where
  ok act := (∀ x, act.touch? = some x → ∃ a, x.loc = .cell a ∧ (a.block = Wg ∨ a.block = C)) ∧ act.low B
  atomicWg a wr h := ⟨fun x hx => by simp only [MemAct.touch?, Option.some.injEq] at hx; subst hx; exact ⟨a, rfl, .inl h⟩, by show a.block < B; omega⟩
  readWg a h := ⟨fun x hx => by simp only [MemAct.touch?, Option.some.injEq] at hx; subst hx; exact ⟨a, rfl, .inl h⟩, by show a.block < B; omega⟩
  writeWg a h := ⟨fun x hx => by simp only [MemAct.touch?, Option.some.injEq] at hx; subst hx; exact ⟨a, rfl, .inl h⟩, by show a.block < B; omega⟩
  theirs a wr h := ⟨fun x hx => by simp only [MemAct.touch?, Option.some.injEq] at hx; subst hx; exact ⟨a, rfl, .inr h⟩, by show a.block < B; omega⟩
  disable := ⟨fun x hx => (by cases hx), trivial⟩
  enable := ⟨fun x hx => (by cases hx), trivial⟩
  relMerge := ⟨fun x hx => (by cases hx), hW⟩
  acquire := ⟨fun x hx => (by cases hx), hW⟩
  go1 := ⟨fun x hx => (by cases hx), trivial⟩
  start := ⟨fun x hx => (by cases hx), trivial⟩
  stop _ _ := True
def AtDone (P : Program) (ty : TypeId) (Wg : Nat) (K : Ctx) (b : Goroutine) (w : World) : Prop :=
  b.status = .running ∧ ∃ (pl : Payload) (C : Nat) (vals : List Value), C ≠ Wg ∧ K.base ≤ C ∧ K.own C ∧ Full C vals w ∧
    ∀ (sh : Shy Wg C) (Mine : Loc → Prop), KCa ty Wg w → ∃ m, Goes P false (RCa ty Wg w.heap.size) (DCs Mine Wg C) (Go.ConcX.AtR0 P ty Wg C w.heap.size vals) m b w
section
variable {P : Program} {ty : TypeId} {Wg j : Nat} {Fin : Goroutine → Prop} {Shun : Loc → Prop} {reg : Bool} {st : Int} {d0 d1 r n : Nat} {rel : Option Nat} {gs : Array Goroutine} {w : World} {sl : Option (Nat × Nat)} {t : Trace} {a b : Goroutine} {q : Nat → Nat}
section
variable (hj0 : j ≠ 0) (hSW : ∀ l, Shun l → ¬ OfWg Wg l) (N0 : Nat) (w0 : World)
include hj0 hSW
theorem st1 [pl : Payload] {C : Nat} (hCW : C ≠ Wg) {Low : Nat} (hW : Wg < Low) (hC : C < Low) (hLow : w0.heap.size = Low) (hCS : ∀ x : Addr, x.block = C → ¬ Shun (.cell x)) {vals : List Value} (hF0 : Full C vals w0) {Mine : Loc → Prop} :
    ∀ (m : Nat) (gs : Array Goroutine) (w : World) (sl : Option (Nat × Nat)) (t : Trace) (q : Nat → Nat) (a b : Goroutine) (reg : Bool) (st : Int) (d0 r n : Nat), gs.size = N0 → JRelC Wg C w0 w → (reg = true → st = KK + 1) →
      Goes P false (RCa ty Wg Low) (@DCs Mine Wg C (strict Wg C Low hW hC)) (@Go.ConcX.AtR0 pl P ty Wg C Low vals) m b w →
      PA P ty Wg j Fin Shun reg st d0 0 r n none gs w t a b q → Reaches P gs w sl t (Joined P ty Wg Fin Shun N0 w0) := by
  intro m
  induction m with
  | zero => exact fun gs w sl t q a b reg st d0 r n hN hR hk hG h => fin gs w sl t q a b reg st d0 r n hN hR hk hG h
  | succ m ih =>
    intro gs w sl t q a b reg st d0 r n hN hR hk hG h
    rcases Goes.cases hG with hs | ⟨m', hm, hs⟩
    · exact fin gs w sl t q a b reg st d0 r n hN hR hk hs h
    · cases hm
      refine worker_go hj0 hSW h fun gs1 w1 sl1 t1 reg1 st1 d01 r1 n1 a1 q1 hN1 hR1 hrs hPA => ?_
      have hk1 := one_or hk hrs
      obtain ⟨b', w2, es, h1, ⟨hA, hE⟩, h2⟩ := hs w1 (rca_of hk1 hPA hR1)
      have hR2 : JRelC Wg C w0 w2 := (hR.trans (hR1.toC C)).trans ⟨hA.size, fun x _ hx => hA.block x hx, hA.os, hA.tape, hA.output⟩
      have hrun : b'.status = .running := Goes.running (fun _ _ x => x.1) w2 (Go.ConcX.RCa.refl w2) h2
      have hd : deafBehind 0 es = 0 := deaf_still (fun e he => ⟨(hE e he).2.1, (hE e he).2.2.1⟩) 0
      have hg : WgAt ty Wg w2 st1 0 := (hA.block Wg (Ne.symm hCW)).trans hPA.grp
      have hP' := hPA.tr.worker (fn := b.frame.fn) (pos := b.frame.place) (B' := w2.heap.size) hj0 (by rw [hA.size]; exact Nat.le_refl _) hSW (es := es) (fun e he x hx => by
        obtain ⟨_, hf, _, hok⟩ := (hE e he).1 0 ""
        obtain ⟨_, hx1, hx2⟩ := hf x hx
        obtain ⟨y, hy, hyb⟩ := hok.1 x hx
        by_cases hyw : y.block = Wg
        · have ho : OfWg Wg x.loc := ⟨y, hy, hyw⟩
          obtain ⟨hp, hs⟩ := hx1 (.inl ho)
          refine .inr ⟨ho, ?_⟩
          cases hkx : x.kind with
          | atomic => rfl
          | plain => exact absurd hkx hp
          | said => exact absurd (hs hkx) (by omega)
        · have hyc : y.block = C := hyb.resolve_left hyw
          exact .inl ⟨by rw [hy]; exact hCS y hyc, fun ⟨z, hz, hzb⟩ => by rw [hy] at hz; cases hz; exact hyw hzb⟩) (fun e he => by
        have := ((hE e he).1 0 "").2.2.2.2
        rw [show w2.heap.size = Low by rw [hR2.size, hLow]]
        exact this) (rel' := none) (fun r hr => by cases hr)
      obtain ⟨r2, n2, h3⟩ := hPA.work (rel' := none) hj0 hrun hg hPA.st0 hP'
      rw [hd] at h3
      exact ⟨b', w2, es, h1, ih _ w2 sl1 _ q1 _ b' reg1 st1 d01 r2 n2 (gs_size.trans (hN1.trans hN)) hR2 hk1 h2 h3⟩
where
  fin (gs : Array Goroutine) (w : World) (sl : Option (Nat × Nat)) (t : Trace) (q : Nat → Nat) (a b : Goroutine) (reg : Bool) (st : Int) (d0 r n : Nat) (hN : gs.size = N0) (hR : JRelC Wg C w0 w) (hk : reg = true → st = KK + 1)
      (hG : ∀ w₁, RCa ty Wg Low w w₁ → @Go.ConcX.AtR0 pl P ty Wg C Low vals b w₁) (h : PA P ty Wg j Fin Shun reg st d0 0 r n none gs w t a b q) : Reaches P gs w sl t (Joined P ty Wg Fin Shun N0 w0) := by
    refine worker_go hj0 hSW h fun gs1 w1 sl1 t1 reg1 st1 d01 r1 n1 a1 q1 hN1 hR1 hrs hPA => ?_
    have hk1 := one_or hk hrs
    obtain ⟨_, hF, b', h1, m, h2⟩ := hG w1 (rca_of hk1 hPA hR1)
    have hrun : b'.status = .running := Goes.running (fun _ _ x => x.1) _ (Go.ConcX.RCa.refl _) h2
    have hP' := hPA.tr.release (fn := b.frame.fn) (pos := b.frame.place) hj0 hSW (wg_lt hPA.grp)
    obtain ⟨r2, n2, h3⟩ := hPA.work (es := #[mkE (.releaseMerge (stA Wg))]) (w2 := w1) (rel' := some t1.size) hj0 hrun hPA.grp hPA.st0 hP'
    exact ⟨b', _, _, h1, st2 (Fin := Fin) (ty := ty) hj0 hSW N0 w0 Low t1.size m _ _ sl1 _ q1 _ b' reg1 st1 d01 r2 n2 (gs_size.trans (hN1.trans hN)) ((hR.trans (hR1.toC C)).toJ hF0 hF) hk1 h2 h3⟩
end
def Joined0 (P : Program) (ty : TypeId) (Wg : Nat) (Fin : Goroutine → Prop) (Shun : Loc → Prop) (N : Nat) (Stop : Nat → Goroutine → World → Prop) : Array Goroutine → World → Option (Nat × Nat) → Trace → Prop := fun gs w sl t =>
  ∃ b ws, Stop 0 b ws ∧ Joined P ty Wg Fin Shun N ws gs w sl t
theorem st0 (hj0 : j ≠ 0) (hSW : ∀ l, Shun l → ¬ OfWg Wg l) {K : Ctx} (hA : Away K Shun) (hWg : ¬ K.own Wg) (hKW : K.base ≤ Wg) (N0 : Nat) {Stop : Nat → Goroutine → World → Prop} (hStop : ∀ d b w, Stop d b w → d = 0 ∧ AtDone P ty Wg K b w)
    {d : Nat} {b : Goroutine} {w : World} (hwalk : Walk P false K Stop d b w) : ∀ (gs : Array Goroutine) (sl : Option (Nat × Nat)) (t : Trace) (q : Nat → Nat) (a : Goroutine) (reg : Bool) (st : Int) (d0 r n : Nat) (w₁ : World), Rely K w w₁ → gs.size = N0 → (reg = true → st = KK + 1) →
      PA P ty Wg j Fin Shun reg st d0 d r n none gs w₁ t a b q → Reaches P gs w₁ sl t (Joined0 P ty Wg Fin Shun N0 Stop) := by
  have hrel : ∀ {w w₁ : World}, JRel Wg w w₁ → Rely K w w₁ := fun h => ⟨h.size, fun x _ hx => h.block x fun e => hWg (e ▸ hx), fun x hx => h.block x (by omega), h.os, h.tape, h.output⟩
  induction hwalk with
  | @stop d b w h =>
    intro gs sl t q a reg st d0 r n w₁ hr hN hk hPA
    have hS := h w₁ hr
    obtain ⟨rfl, hrun, pl, C, vals, hCW, hCb, hCo, hF, hG⟩ := hStop _ _ _ hS
    have hC : C < w₁.heap.size := (Array.getElem?_eq_some_iff.1 (full_at hF)).1
    have hW := wg_lt hPA.grp
    have hK : KCa ty Wg w₁ := by
      cases hr : reg with
      | false => left; rw [← hPA.st0 hr]; exact hPA.grp
      | true => right; rw [← hk hr]; exact hPA.grp
    obtain ⟨m, hG⟩ := hG (strict Wg C _ hW hC) (fun _ => True) hK
    refine Reaches.then (st1 (Fin := Fin) hj0 hSW N0 w₁ hCW hW hC rfl (fun x hx hs => (hA _ C hs (by simp [blockOf, hx])).1 ⟨hCb, hCo⟩) hF m gs w₁ sl t q a b reg st d0 r n hN ((JRel.refl w₁).toC C) hk hG hPA) ?_
    exact fun gs w sl t hJ => .here ⟨b, w₁, hS, hJ⟩
  | @step d b w g' w' es hrun hst hw ih =>
    intro gs sl t q a reg st d0 r n w₁ hr hN hk hPA
    refine worker_go hj0 hSW hPA fun gs1 w2 sl1 t1 reg1 st1 d01 r1 n1 a1 q1 hN1 hR1 hrs hPA => ?_
    have hk1 := one_or hk hrs
    have hr2 : Rely K w w2 := hr.trans (hrel hR1)
    obtain ⟨h1, h2⟩ := hst w2 hr2
    have hg : WgAt ty Wg (w' w2) st1 0 := (h2.kept Wg (wg_lt hPA.grp) (fun x => hWg x.2)).trans hPA.grp
    have hrun' : (g' w2).status = .running := by
      cases hw w2 hr2 with
      | stop h => exact (hStop _ _ _ (h _ (Rely.refl _))).2.1
      | step _ _ _ h => exact h
    have hP' := hPA.tr.worker (fn := b.frame.fn) (pos := b.frame.place) (B' := (w' w2).heap.size) hj0 h2.size hSW (es := es w2) (fun e he x hx => by
      obtain ⟨y, hy, hy1, _⟩ := evG_touch (h2.evs e he) hx
      refine .inl ⟨fun hs => hy1.elim (hA _ y hs hy).1 (hA _ y hs hy).2, fun ⟨z, hz, hzb⟩ => ?_⟩
      rw [hz] at hy
      simp only [blockOf, Option.some.injEq] at hy
      rcases hy1 with hy1 | hy1
      · exact hWg (by rw [← hzb, hy]; exact hy1.2)
      · have := hy1.2; omega) (fun e he => evG_low (h2.evs e he)) (rel' := none) (fun r hr => by cases hr)
    obtain ⟨r2, n2, h3⟩ := hPA.work (rel' := none) hj0 hrun' hg hPA.st0 hP'
    exact ⟨g' w2, w' w2, es w2, h1, ih w2 hr2 _ sl1 _ q1 _ reg1 st1 d01 r2 n2 (w' w2) (Rely.refl _) (gs_size.trans (hN1.trans hN)) hk1 h3⟩
end
end Go.Ev
namespace Go.Ev
open Go.Conc (G)
structure OS where
  f : AF
  k : List (AF × Option Tmp)
  h : AH
noncomputable def resO (f : AF) (d : Option Tmp) (v : AV) : AF := match f with | ⟨x, tm, td, ds, _⟩ => ⟨x, fin x d v tm, td, ds, false⟩
def allLin (ops : Array Oper) : Nat → Array Bool → List (List Nat)
  | 0, _ => [[]]
  | n + 1, listed => match Region.ready .any ops listed with
    | [] => [[]]
    | i :: l => (i :: l).flatMap fun i => (allLin ops n (listed.setIfInBounds i true)).map (i :: ·)
def listedTo (ops : Array Oper) (n : Nat) : Array Bool := (Array.range ops.size).map fun i => decide (i < n)
def lins (ops : Array Oper) (n : Nat) : List (List Nat) := allLin ops ops.size (listedTo ops n)
noncomputable def runQ (E : Env) (x : AX) (ops : Array Oper) (h : AH) : List Nat → Tr AV → Tr AV × List Nat
  | [], tm => (tm, [])
  | i :: l, tm => match ops[i]? with
    | none => (tm, i :: l)
    | some o => match wantedA o ops tm with
      | none => (tm, i :: l)
      | some false => runQ E x ops h l (fin x o.dst undefA tm)
      | some true => match quietOp o.op E tm h with
        | some v => runQ E x ops h l (fin x o.dst v tm)
        | none => (tm, i :: l)
noncomputable def runL (E : Env) (x : AX) (ops : Array Oper) : List Nat → Tr AV → AH → Option (Tr AV × AH)
  | [], tm, h => some (tm, h)
  | i :: l, tm, h => match ops[i]? with
    | none => none
    | some o => match wantedA o ops tm with
      | none => none
      | some false => runL E x ops l (fin x o.dst undefA tm) h
      | some true => match quietOp o.op E tm h with
        | some v => runL E x ops l (fin x o.dst v tm) h
        | none => match loudOp o.op E tm h with
          | some (.val v h') => runL E x ops l (fin x o.dst v tm) h'
          | _ => none
mutual
def AV.eqv : AV → AV → Bool
  | .any, .any => true
  | .one, .one => true
  | .bool a, .bool b => a == b
  | .int k a, .int j b => k == j && a == b
  | .str a, .str b => a == b
  | .nilp, .nilp => true
  | .ptr a b, .ptr c d => Nat.beq a c && Nat.beq b d
  | .nils, .nils => true
  | .emp, .emp => true
  | .sl a b c d, .sl x y z u => Nat.beq a x && Nat.beq b y && Nat.beq c z && d == u
  | .nilm, .nilm => true
  | .map a, .map b => Nat.beq a b
  | .nilf, .nilf => true
  | .fn f a b, .fn g c d => Nat.beq f g && AV.eqvL a c && AV.eqvL b d
  | .yield a, .yield b => Nat.beq a b
  | .nili, .nili => true
  | .iface t a, .iface u b => Nat.beq t u && AV.eqv a b
  | .agg a, .agg b => AV.eqvL a b
  | .tup a, .tup b => AV.eqvL a b
  | _, _ => false
def AV.eqvL : List AV → List AV → Bool
  | [], [] => true
  | a :: l, b :: m => AV.eqv a b && AV.eqvL l m
  | _, _ => false
end
def Tr.eqv : Tr AV → Tr AV → Bool
  | .e, .e => true
  | .n l v r, .n l' v' r' => Tr.eqv l l' && (match v, v' with | none, none => true | some a, some b => AV.eqv a b | _, _ => false) && Tr.eqv r r'
  | _, _ => false
def natsB : List Nat → List Nat → Bool
  | [], [] => true
  | a :: l, b :: m => Nat.beq a b && natsB l m
  | _, _ => false
noncomputable def sufO (E : Env) (x : AX) (ops : Array Oper) (n : Nat) (tm : Tr AV) (h : AH) : Option (Tr AV × AH) :=
  match lins ops n with
  | [] => none
  | l0 :: ls => cond (ls.all fun l => natsB (runQ E x ops h l tm).2 (runQ E x ops h l0 tm).2 && Tr.eqv (runQ E x ops h l tm).1 (runQ E x ops h l0 tm).1) (runL E x ops (runQ E x ops h l0 tm).2 (runQ E x ops h l0 tm).1 h) none
def outAt (out : List FuncId) (ops : Array Oper) : Option Nat :=
  ops.toList.findIdx? fun o => match o.op with | .call c => (match c.callee with | .value (.func g) => out.any (Nat.beq g) | _ => false) | _ => false
def barB (ops : Array Oper) (b : Array Nat) (j : Nat) : Bool :=
  (List.range ops.size).all fun i => cond (Nat.blt i j) true ((List.range (cond (Nat.beq i j) j (j + 1))).all fun p => (b.getD i 0).testBit p)
noncomputable def partO (E : Env) (r : RunF) (out : List FuncId) (j : Nat) (x : AX) (tm : Tr AV) (ops : Array Oper) (k0 : List AI) (ds : List AD) (k : List (AF × Option Tmp)) (h : AH) : Option OS :=
  cond (barB ops (Region.before ops) j) (match runD E (fun _ => outs E r) x (Region.before ops) ops h (ops.toList.take j) 0 tm [] [] [] h, ops[j]? with
    | some p, some o => (match wantedA o ops p.1, loudOp o.op E p.1 p.2 with
      | some true, some (.call g args) => cond (out.any (Nat.beq g)) (match enterA E g args false with | some f2 => some ⟨f2, (⟨x, p.1, .inDrawn ops (j + 1) :: k0, ds, false⟩, o.dst) :: k, p.2⟩ | none => none) none
      | _, _ => none)
    | _, _ => none) none
noncomputable def stepO (E : Env) (r : RunF) (out : List FuncId) (s : OS) : Option OS :=
  match s with
  | ⟨f, k, h⟩ => match stepA E f h with
    | some (.go f' h') => some ⟨f', k, h'⟩
    | some (.call f' d g args h') => cond (out.any (Nat.beq g))
      (match enterA E g args false with | some f2 => some ⟨f2, (f', d) :: k, h'⟩ | none => none)
      (match runC E r g args false h' with | some p => some ⟨resO f' d p.1, k, p.2⟩ | none => none)
    | some (.dcall f' g args h') => cond (out.any (Nat.beq g)) none (match runC E r g args true h' with | some p => some ⟨f', k, p.2⟩ | none => none)
    | some (.drawn x tm ops k0 ds h') => cond (regOk ops.toList (Region.before ops) ops) (match outAt out ops with
      | some j => partO E r out j x tm ops k0 ds k h'
      | none => (match runD E (fun _ => outs E r) x (Region.before ops) ops h' ops.toList 0 tm [] [] [] h' with
        | some p => some ⟨⟨x, p.1, k0, ds, false⟩, k, p.2⟩
        | none => none)) none
    | some (.ret v h') => (match k with
      | (f', d) :: k' => cond f.x.deferred none (some ⟨resO f' d v, k', h'⟩)
      | [] => none)
    | none => (match f with
      | ⟨x, tm, .inDrawn ops n :: k0, ds, false⟩ => (match sufO E x ops n tm h with
        | some p => some ⟨⟨x, p.1, k0, ds, false⟩, k, p.2⟩
        | none => none)
      | _ => none)
    | _ => none
mutual
theorem AV.eqv_eq : ∀ {a b : AV}, AV.eqv a b = true → a = b
  | .any, .any, _ => rfl
  | .one, .one, _ => rfl
  | .bool a, .bool b, h => by simp [AV.eqv] at h; rw [h]
  | .int k a, .int j b, h => by
    simp only [AV.eqv, Bool.and_eq_true] at h
    have h1 : k = j := by have := h.1; revert this; cases k <;> cases j <;> first | (intro _; rfl) | (intro h; cases h)
    have h2 : a = b := by simpa using h.2
    rw [h1, h2]
  | .str a, .str b, h => by simp [AV.eqv] at h; rw [h]
  | .nilp, .nilp, _ => rfl
  | .ptr a b, .ptr c d, h => by
    simp only [AV.eqv, Bool.and_eq_true] at h
    rw [Nat.eq_of_beq_eq_true h.1, Nat.eq_of_beq_eq_true h.2]
  | .nils, .nils, _ => rfl
  | .emp, .emp, _ => rfl
  | .sl a b c d, .sl x y z u, h => by
    simp only [AV.eqv, Bool.and_eq_true] at h
    rw [Nat.eq_of_beq_eq_true h.1.1.1, Nat.eq_of_beq_eq_true h.1.1.2, Nat.eq_of_beq_eq_true h.1.2, show d = u by simpa using h.2]
  | .nilm, .nilm, _ => rfl
  | .map a, .map b, h => by simp only [AV.eqv] at h; rw [Nat.eq_of_beq_eq_true h]
  | .nilf, .nilf, _ => rfl
  | .fn f a b, .fn g c d, h => by
    simp only [AV.eqv, Bool.and_eq_true] at h
    rw [Nat.eq_of_beq_eq_true h.1.1, AV.eqvL_eq h.1.2, AV.eqvL_eq h.2]
  | .yield a, .yield b, h => by simp only [AV.eqv] at h; rw [Nat.eq_of_beq_eq_true h]
  | .nili, .nili, _ => rfl
  | .iface t a, .iface u b, h => by
    simp only [AV.eqv, Bool.and_eq_true] at h
    rw [Nat.eq_of_beq_eq_true h.1, AV.eqv_eq h.2]
  | .agg a, .agg b, h => by simp only [AV.eqv] at h; rw [AV.eqvL_eq h]
  | .tup a, .tup b, h => by simp only [AV.eqv] at h; rw [AV.eqvL_eq h]
theorem AV.eqvL_eq : ∀ {a b : List AV}, AV.eqvL a b = true → a = b
  | [], [], _ => rfl
  | a :: l, b :: m, h => by
    simp only [AV.eqvL, Bool.and_eq_true] at h
    rw [AV.eqv_eq h.1, AV.eqvL_eq h.2]
end
theorem Tr.eqv_eq : ∀ {a b : Tr AV}, Tr.eqv a b = true → a = b
  | .e, .e, _ => rfl
  | .n l v r, .n l' v' r', h => by
    simp only [Tr.eqv, Bool.and_eq_true] at h
    rw [Tr.eqv_eq h.1.1, Tr.eqv_eq h.2]
    have h2 := h.1.2
    cases v with
    | none => cases v' with
      | none => rfl
      | some b => cases h2
    | some a => cases v' with
      | none => cases h2
      | some b => rw [AV.eqv_eq h2]
theorem natsB_eq : ∀ {a b : List Nat}, natsB a b = true → a = b
  | [], [], _ => rfl
  | a :: l, b :: m, h => by
    simp only [natsB, Bool.and_eq_true] at h
    rw [Nat.eq_of_beq_eq_true h.1, natsB_eq h.2]
theorem allLin_mem {ops : Array Oper} : ∀ (fuel t : Nat) (listed : Array Bool) (F : Nat), listed.size = ops.size → left' ops.size listed ≤ fuel → left' ops.size listed ≤ F → Region.linearise.go .any ops fuel t listed [] ∈ allLin ops F listed := by
  intro fuel
  induction fuel with
  | zero =>
    intro t listed F hs hl _
    have hr : Region.ready .any ops listed = [] := by
      cases hr : Region.ready .any ops listed with
      | nil => rfl
      | cons i l =>
        obtain ⟨h1, h2, _⟩ := (mem_ready hs (i := i)).1 (by rw [hr]; simp)
        have : i ∈ (List.range ops.size).filter fun i => Dl listed i == false := List.mem_filter.2 ⟨List.mem_range.2 h1, by rw [h2]; rfl⟩
        have := List.length_pos_of_mem this
        unfold left' at hl; omega
    have : Region.linearise.go .any ops 0 t listed [] = [] := rfl
    rw [this]
    cases F with
    | zero => simp [allLin]
    | succ F => unfold allLin; rw [hr]; simp
  | succ fuel ih =>
    intro t listed F hs hl hF
    rcases go_cases ops fuel t listed with ⟨h1, h2⟩ | ⟨i, h1, h2⟩
    · rw [h2]
      cases F with
      | zero => simp [allLin]
      | succ F => unfold allLin; rw [h1]; simp
    · rw [h2]
      obtain ⟨h3, h4, _⟩ := (mem_ready hs).1 h1
      have hlt := left_set h3 hs h4
      cases F with
      | zero => omega
      | succ F =>
        unfold allLin
        have hm := ih (t / (Region.ready .any ops listed).length) (listed.setIfInBounds i true) F (by simp [hs]) (by omega) (by omega)
        cases hr : Region.ready .any ops listed with
        | nil => rw [hr] at h1; simp at h1
        | cons a l =>
          simp only
          rw [hr] at h1 hm
          exact List.mem_flatMap.2 ⟨i, h1, List.mem_map.2 ⟨_, hm, rfl⟩⟩
theorem lins_mem {ops : Array Oper} {n : Nat} {rest : List Nat} (h : Left ops n rest) : rest ∈ lins ops n := by
  obtain ⟨fuel, t, listed, hs, hl, hD, rfl⟩ := h
  have e : listed = listedTo ops n := by
    apply Array.ext
    · simp [listedTo, hs]
    · intro i h1 h2
      have := hD i
      unfold Dl at this
      rw [Array.getD_eq_getD_getElem?, Array.getElem?_eq_getElem h1] at this
      simp only [Option.getD_some] at this
      rw [this]; simp [listedTo]
  have hle : left' ops.size listed ≤ ops.size := by
    unfold left'
    exact Nat.le_trans (List.length_filter_le _ _) (by simp)
  unfold lins
  rw [← e]
  exact allLin_mem fuel t listed ops.size hs hl hle
theorem left_next {ops : Array Oper} (R : RegFacts ops) {j : Nat} (hj : j < ops.size) (hbar : ∀ i, j < i → i < ops.size → Bf ops i j) {rest : List Nat} (h : Left ops j rest) : ∃ rest', rest = j :: rest' ∧ Left ops (j + 1) rest' := by
  obtain ⟨fuel, t, listed, hs, hl, hD, rfl⟩ := h
  have hDj : Dl listed j = false := by rw [hD j]; simp
  cases fuel with
  | zero =>
    have : j ∈ (List.range ops.size).filter fun i => Dl listed i == false := List.mem_filter.2 ⟨List.mem_range.2 hj, by rw [hDj]; rfl⟩
    have := List.length_pos_of_mem this
    unfold left' at hl; omega
  | succ fuel =>
    rcases go_cases ops fuel t listed with ⟨h1, h2⟩ | ⟨i, h1, h2⟩
    · have := all_listed R hs h1 j hj
      rw [hDj] at this; cases this
    · obtain ⟨h3, h4, o, ho, h5⟩ := (mem_ready hs).1 h1
      have hi : i = j := by
        rcases Nat.lt_trichotomy i j with h | h | h
        · rw [hD i] at h4; simp at h4; omega
        · exact h
        · have hb := hbar i h h3
          obtain ⟨e, he, hbi, hh⟩ := before_edge ho hb
          have hDe := h5 e he hbi
          rw [hD] at hDe
          have hDe := of_decide_eq_true hDe
          rcases hh with hh | ⟨_, hh⟩
          · omega
          · have := before_lt R e.on j hh; omega
      subst hi
      refine ⟨_, h2, fuel, _, listed.setIfInBounds i true, by simp [hs], by have := left_set h3 hs h4; omega, fun l => ?_, rfl⟩
      rw [Dl_set (by rw [hs]; exact h3)]
      unfold addD
      rw [hD l]
      by_cases hl : l = i
      · subst hl; simp
      · have : (l == i) = false := by simp [hl]
        rw [this, Bool.or_false]
        by_cases h : l < i
        · simp [h]; omega
        · simp [h]; omega
def RSo (ι : Nm) : List (AF × Option Tmp) → List Frame → Prop
  | [], frs => frs = []
  | (f, d) :: k, frs => ∃ fr r, frs = fr :: r ∧ Waits ι f d fr ∧ RSo ι k r
def Bare (ι : Nm) (n : Nat) : Prop := ∀ i, n ≤ i → i < OLD → ι i = none
def OAt (K : Ctx) (ι0 : Nm) (cs : List Frame) (s : OS) (d : Nat) (g : Goroutine) (w : World) : Prop :=
  ∃ ι fr frs, g = G fr (frs ++ cs) ∧ Bare ι s.h.nx ∧ RF ι s.f fr ∧ RSo ι s.k frs ∧ Sat K ι s.h w ∧ d = s.h.df ∧ Ext ι0 ι
theorem Bare.free {ι : Nm} {n m : Nat} (h : Bare ι n) (hm : m ≤ OLD) : Free ι n m := fun i hi hj => h i hi (by omega)
theorem Bare.grow {ι ι' : Nm} {n n' : Nat} (h : Bare ι n) (g : Grow ι ι' n n') : Bare ι' n' := fun i hi hj => by rw [g.same i (.inr hi)]; exact h i (by have := g.le; omega) hj
theorem RSo.mono {ι ι' : Nm} (he : Ext ι ι') : ∀ {k : List (AF × Option Tmp)} {frs : List Frame}, RSo ι k frs → RSo ι' k frs
  | [], _, h => h
  | (f, d) :: k, frs, ⟨fr, r, h1, h2, h3⟩ => ⟨fr, r, h1, fun ι'' v u he' hv => h2 ι'' v u (fun i p hp => he' i p (he i p hp)) hv, h3.mono he⟩
section
variable {P : Program} {main : Bool} {K : Ctx} {ι0 : Nm} {E : Env} {cs : List Frame} {out : List FuncId}
section
variable {x : AX} {ops : Array Oper} {ds : List AD} {k' : List Item}
theorem runQ_ok (F : Fits P E) (hP : Of K P E) : ∀ (l : List Nat) (tm : Tr AV) {ι : Nm} {h : AH} {w : World} {fr : Frame}, Sat K ι h w → AtRest ι x tm ds ops l k' fr →
    Walk P main K (AtOpEnd K ι h.nx x (runQ E x ops h l tm).1 ds ops (runQ E x ops h l tm).2 k' cs h) h.df (G fr cs) w
  | [], tm, ι, h, w, fr, S, H => .stop fun w₁ hr => ⟨ι, fr, rfl, Grow.refl _ _, S.rely hr, H, rfl⟩
  | i :: l, tm, ι, h, w, fr, S, H => by
    have hA : AtOp ι x tm ds ops i l k' fr := ⟨H.fn, H.tm, H.todo, H.ds, H.mode, H.kind, H.round⟩
    have still : Walk P main K (AtOpEnd K ι h.nx x tm ds ops (i :: l) k' cs h) h.df (G fr cs) w := .stop fun w₁ hr => ⟨ι, fr, rfl, Grow.refl _ _, S.rely hr, H, rfl⟩
    have next : ∀ {tm' : Tr AV}, Walk P main K (AtOpEnd K ι h.nx x tm' ds ops l k' cs h) h.df (G fr cs) w → Walk P main K (AtOpEnd K ι h.nx x (runQ E x ops h l tm').1 ds ops (runQ E x ops h l tm').2 k' cs h) h.df (G fr cs) w := fun {tm'} W => by
      refine W.bind ?_
      rintro d g w' ⟨ι', fr', rfl, g1, g2, g3, rfl⟩
      refine (runQ_ok F hP l tm' g2 g3).mono ?_
      rintro d g w'' ⟨ι'', fr'', rfl, j1, j2, j3, rfl⟩
      exact ⟨ι'', fr'', rfl, g1.trans j1, j2, j3, rfl⟩
    unfold runQ
    cases ho : ops[i]? with
    | none => exact still
    | some o =>
      simp only
      cases hw : wantedA o ops tm with
      | none => exact still
      | some b =>
        cases b with
        | false =>
          refine next (Walk.of rfl fun w₁ hr => ⟨_, w₁, #[], step_none hA (fun o' ho' => ?_), FineG.refl w₁, .stop fun w₂ hr₂ => ⟨ι, _, rfl, Grow.refl _ _, (S.rely hr).rely hr₂, hA.finish ho (Ext.refl ι) RV_undef, rfl⟩⟩)
          rw [ho] at ho'; cases ho'
          exact wanted_ok H.tm hw
        | true =>
          simp only
          cases hq : quietOp o.op E tm h with
          | none => exact still
          | some v => exact next (goTo_end (fun w₁ hr => quiet_step hP F (S.rely hr) hA ho (wanted_ok H.tm hw) hq) (fun j h1 h2 => by omega))
theorem runL_up : ∀ (l : List Nat) (tm : Tr AV) {h : AH} {p : Tr AV × AH}, runL E x ops l tm h = some p → h.nx ≤ p.2.nx
  | [], tm, h, p, e => by simp only [runL, Option.some.injEq] at e; subst e; exact Nat.le_refl _
  | i :: l, tm, h, p, e => by
    unfold runL at e
    cases ho : ops[i]? with
    | none => rw [ho] at e; cases e
    | some o =>
      rw [ho] at e
      simp only at e
      cases hw : wantedA o ops tm with
      | none => rw [hw] at e; cases e
      | some b =>
        rw [hw] at e
        cases b with
        | false => exact runL_up l _ e
        | true =>
          simp only at e
          cases hq : quietOp o.op E tm h with
          | some v => rw [hq] at e; exact runL_up l _ e
          | none =>
            rw [hq] at e
            simp only at e
            split at e
            · rename_i v h' hl
              have h1 : h.nx ≤ h'.nx := loud_up hl
              exact Nat.le_trans h1 (runL_up l _ e)
            · cases e
theorem sufO_up {n : Nat} {tm : Tr AV} {h : AH} {p : Tr AV × AH} (e : sufO E x ops n tm h = some p) : h.nx ≤ p.2.nx := by
  unfold sufO at e
  split at e
  · cases e
  · obtain ⟨_, e⟩ := condO_some e
    exact runL_up _ _ e
theorem runL_ok (F : Fits P E) (hP : Of K P E) : ∀ (l : List Nat) (tm : Tr AV) {ι : Nm} {h : AH} {w : World} {fr : Frame} {p : Tr AV × AH}, Sat K ι h w → Bare ι h.nx → AtRest ι x tm ds ops l k' fr → runL E x ops l tm h = some p → p.2.nx ≤ OLD →
    Walk P main K (AtOpEnd K ι h.nx x p.1 ds ops [] k' cs p.2) h.df (G fr cs) w
  | [], tm, ι, h, w, fr, p, S, hB, H, e, _ => by
    simp only [runL, Option.some.injEq] at e
    subst e
    exact .stop fun w₁ hr => ⟨ι, fr, rfl, Grow.refl _ _, S.rely hr, H, rfl⟩
  | i :: l, tm, ι, h, w, fr, p, S, hB, H, e, hO => by
    have hA : AtOp ι x tm ds ops i l k' fr := ⟨H.fn, H.tm, H.todo, H.ds, H.mode, H.kind, H.round⟩
    have next : ∀ {tm' : Tr AV} {h' : AH}, runL E x ops l tm' h' = some p → Walk P main K (AtOpEnd K ι h.nx x tm' ds ops l k' cs h') h.df (G fr cs) w → Walk P main K (AtOpEnd K ι h.nx x p.1 ds ops [] k' cs p.2) h.df (G fr cs) w := fun {tm' h'} e' W => by
      refine W.bind ?_
      rintro d g w' ⟨ι', fr', rfl, g1, g2, g3, rfl⟩
      refine (runL_ok F hP l tm' g2 (hB.grow g1) g3 e' hO).mono ?_
      rintro d g w'' ⟨ι'', fr'', rfl, j1, j2, j3, rfl⟩
      exact ⟨ι'', fr'', rfl, g1.trans j1, j2, j3, rfl⟩
    unfold runL at e
    cases ho : ops[i]? with
    | none => rw [ho] at e; cases e
    | some o =>
      rw [ho] at e
      simp only at e
      cases hw : wantedA o ops tm with
      | none => rw [hw] at e; cases e
      | some b =>
        rw [hw] at e
        cases b with
        | false =>
          refine next e (Walk.of rfl fun w₁ hr => ⟨_, w₁, #[], step_none hA (fun o' ho' => ?_), FineG.refl w₁, .stop fun w₂ hr₂ => ⟨ι, _, rfl, Grow.refl _ _, (S.rely hr).rely hr₂, hA.finish ho (Ext.refl ι) RV_undef, rfl⟩⟩)
          rw [ho] at ho'; cases ho'
          exact wanted_ok H.tm hw
        | true =>
          simp only at e
          cases hq : quietOp o.op E tm h with
          | some v =>
            rw [hq] at e
            exact next e (goTo_end (fun w₁ hr => quiet_step hP F (S.rely hr) hA ho (wanted_ok H.tm hw) hq) (fun j h1 h2 => by omega))
          | none =>
            rw [hq] at e
            simp only at e
            split at e
            · rename_i v h' hl
              exact next e (goTo_end (fun w₁ hr => loud_val hP F (S.rely hr) hA ho (wanted_ok H.tm hw) hl) (hB.free (Nat.le_trans (runL_up l _ e) hO)))
            · cases e
theorem sufO_ok (F : Fits P E) (hP : Of K P E) {n : Nat} {tm : Tr AV} {ι : Nm} {h : AH} {w : World} {fr : Frame} {rest : List Nat} {p : Tr AV × AH} (S : Sat K ι h w) (hB : Bare ι h.nx) (hl : Left ops n rest) (H : AtRest ι x tm ds ops rest k' fr) (e : sufO E x ops n tm h = some p) (hO : p.2.nx ≤ OLD) :
    Walk P main K (AtOpEnd K ι h.nx x p.1 ds ops [] k' cs p.2) h.df (G fr cs) w := by
  have hm := lins_mem hl
  unfold sufO at e
  split at e
  · cases e
  · rename_i l0 ls hls
    rw [hls] at hm
    obtain ⟨hall, e⟩ := condO_some e
    rw [List.all_eq_true] at hall
    have hsame : (runQ E x ops h rest tm).2 = (runQ E x ops h l0 tm).2 ∧ (runQ E x ops h rest tm).1 = (runQ E x ops h l0 tm).1 := by
      rcases List.mem_cons.1 hm with rfl | hm
      · exact ⟨rfl, rfl⟩
      · have := hall rest hm
        rw [Bool.and_eq_true] at this
        exact ⟨natsB_eq this.1, Tr.eqv_eq this.2⟩
    refine (runQ_ok (main := main) (cs := cs) F hP rest tm S H).bind ?_
    rintro d g w' ⟨ι', fr', rfl, g1, g2, g3, rfl⟩
    rw [hsame.1, hsame.2] at g3
    refine (runL_ok F hP _ _ g2 (hB.grow g1) g3 e hO).mono ?_
    rintro d g w'' ⟨ι'', fr'', rfl, j1, j2, j3, rfl⟩
    exact ⟨ι'', fr'', rfl, g1.trans j1, j2, j3, rfl⟩
end
theorem stepO_ok (F : Fits P E) (FF : FitsF P E) (hP : Of K P E) (n : Nat) {s s' : OS} (e : stepO E (runF E n) out s = some s') (hO : s'.h.nx ≤ OLD) {d : Nat} {g : Goroutine} {w : World} (H : OAt K ι0 cs s d g w) : Walk P main K (OAt K ι0 cs s') d g w := by
  obtain ⟨f, k, h⟩ := s
  obtain ⟨ι, fr, frs, rfl, hB, R, HS, S, rfl, hE0⟩ := H
  have hr := runF_ok (P := P) (main := main) F FF n
  have hup : RunF.Up (runF E n) := runF_up n
  have hD := draw_ok (main := main) F FF (fun _ => outs_ok hr FF) (fun _ => outs_up hup)
  unfold stepO at e
  simp only at e R HS S hB
  cases hs : stepA E f h with
  | none =>
    rw [hs] at e
    simp only at e
    split at e
    · rename_i x tm ops m k0 ds
      split at e
      · rename_i p hp
        cases e
        obtain ⟨i, k', ht, ⟨rest, hl, rfl⟩, hk⟩ := R.todo
        have H : AtRest ι x tm ds ops rest k' fr := ⟨R.fn, R.tm, ht, R.ds, by simpa using R.mode, R.kind, R.round⟩
        refine (sufO_ok (main := main) F hP S hB hl H hp hO).bind ?_
        rintro d g w' ⟨ι', fr', rfl, g1, g2, g3, rfl⟩
        have hE := g1.ext (hB.free hO)
        refine Walk.of rfl fun w₃ hr₃ => ?_
        have ht := g3.todo
        have hm := g3.mode
        refine ⟨G { fr' with todo := k' } (frs ++ cs), w₃, #[], by simp [G, stepG, hm, stepG.exec, ht], FineG.refl w₃, .stop fun w₂ hr₂ => ?_⟩
        have R2 : RF ι' ⟨x, p.1, k0, ds, false⟩ { fr' with todo := k' } := ⟨g3.fn, g3.tm, hk.mono hE, g3.ds, by simpa using g3.mode, g3.kind, g3.round⟩
        exact ⟨ι', _, frs, rfl, hB.grow g1, R2, HS.mono hE, (g2.rely hr₃).rely hr₂, rfl, hE0.trans hE⟩
      · cases e
    · cases e
  | some a =>
    rw [hs] at e
    have hx := step_x hs
    refine Walk.of rfl fun w₁ hr₁ => ?_
    have S₁ := S.rely hr₁
    have ok₁ : A1Ok P main K ι h w₁ fr (frs ++ cs) a := step_ok hP F FF S₁ R hs
    cases a with
    | go f' h1 =>
      cases e
      have hf1 := hB.free (m := h1.nx) hO
      obtain ⟨ι', fr', w', es, k1, k2, k3, k4, k5, k6⟩ := ok₁ hf1
      exact ⟨_, w', es, k1, k5, .stop fun w₂ hr₂ => ⟨ι', fr', frs, rfl, hB.grow k2, k4, HS.mono (k2.ext hf1), k3.rely hr₂, k6, hE0.trans (k2.ext hf1)⟩⟩
    | ret v h1 =>
      obtain ⟨u, w', es, k1, k2, k3, k4, k5, k6⟩ : RetTo P main K ι h w₁ fr (frs ++ cs) v h1 := ok₁
      simp only at e
      cases k with
      | nil => cases e
      | cons p k =>
        obtain ⟨f', d⟩ := p
        simp only at e
        cases hd : f.x.deferred with
        | true => rw [hd] at e; cases e
        | false =>
          rw [hd] at e
          cases e
          obtain ⟨fr1, r1, rfl, hw1, hs1⟩ := HS
          have hk : fr.kind = .normal := by rw [R.kind, hd]; rfl
          rw [List.cons_append, doReturn_back (.inl hk) (fun hx => by rw [hk] at hx; cases hx), hk] at k1
          refine ⟨G (fr1.finish u) (r1 ++ cs), w', es, by rw [List.cons_append, k1]; simp [GStep.after, back], k4, .stop fun w₂ hr₂ => ⟨ι, fr1.finish u, r1, rfl, ?_, ?_, hs1, k2.rely hr₂, k5, hE0⟩⟩
          · show Bare ι h1.nx
            rw [k6]; exact hB
          · obtain ⟨x, tm, td, ds, rt⟩ := f'
            exact hw1 ι v u (fun _ _ h => h) k3
    | call f' d g args h1 =>
      simp only at e
      have hb1 : h1.nx ≤ OLD := by
        cases ho : out.any (Nat.beq g) with
        | true =>
          rw [ho] at e; simp only [cond_true] at e
          split at e
          · cases e; exact hO
          · cases e
        | false =>
          rw [ho] at e; simp only [cond_false] at e
          split at e
          · rename_i p hp; cases e; exact Nat.le_trans (runC_up hup hp) hO
          · cases e
      have hf1 := hB.free hb1
      obtain ⟨ι', fr', vs, w', es, k1, k2, k3, k4, ⟨k5, k5'⟩, k6, k7⟩ := ok₁ hf1
      cases ho : out.any (Nat.beq g) with
      | true =>
        rw [ho] at e
        simp only [cond_true] at e
        cases he : enterA E g args false with
        | none => rw [he] at e; cases e
        | some f2 =>
          rw [he] at e
          cases e
          exact ⟨_, w', es, k1, k6, .stop fun w₂ hr₂ => ⟨ι', _, fr' :: frs, rfl, hB.grow k2, enter_ok FF he k4 rfl, ⟨fr', frs, rfl, k5, HS.mono (k2.ext hf1)⟩, k3.rely hr₂, k7, hE0.trans (k2.ext hf1)⟩⟩
      | false =>
        rw [ho] at e
        simp only [cond_false] at e
        cases hp : runC E (runF E n) g args false h1 with
        | none => rw [hp] at e; cases e
        | some p =>
          rw [hp] at e
          cases e
          refine ⟨_, w', es, k1, k6, ?_⟩
          rw [k7]
          have hB' := hB.grow k2
          refine (runC_ok hr hP FF hp k3 k4 rfl (fun hx => by cases hx) (hB'.free hO)).bind ?_
          rintro d' g' w'' ⟨ι'', u, rfl, g1, g2, g3, rfl⟩
          have hE := g1.ext (hB'.free hO)
          obtain ⟨x, tm, td, ds, rt⟩ := f'
          exact .stop fun w₂ hr₂ => ⟨ι'', fr'.finish u, frs, rfl, hB'.grow g1, k5 ι'' p.1 u hE g3, (HS.mono (k2.ext hf1)).mono hE, g2.rely hr₂, rfl, (hE0.trans (k2.ext hf1)).trans hE⟩
    | dcall f' g args h1 =>
      simp only at e
      have hb1 : h1.nx ≤ OLD := by
        obtain ⟨_, e⟩ := cond_none_some e
        split at e
        · rename_i p hp; cases e; exact Nat.le_trans (runC_up hup hp) hO
        · cases e
      have hf1 := hB.free hb1
      obtain ⟨ι', fr', vs, w', es, k1, k2, k3, k4, ⟨k5, k5'⟩, k6, k7⟩ := ok₁ hf1
      obtain ⟨_, e⟩ := cond_none_some e
      cases hp : runC E (runF E n) g args true h1 with
      | none => rw [hp] at e; cases e
      | some p =>
        rw [hp] at e
        cases e
        refine ⟨_, w', es, k1, k6, ?_⟩
        rw [k7]
        have hB' := hB.grow k2
        refine (runC_ok hr hP FF hp k3 k4 rfl (fun _ e l hm => by rw [k5'] at hm; cases hm) (hB'.free hO)).bind ?_
        rintro d' g' w'' ⟨ι'', u, rfl, g1, g2, g3, rfl⟩
        have hE := g1.ext (hB'.free hO)
        exact .stop fun w₂ hr₂ => ⟨ι'', fr', frs, rfl, hB'.grow g1, k5.mono hE, (HS.mono (k2.ext hf1)).mono hE, g2.rely hr₂, rfl, (hE0.trans (k2.ext hf1)).trans hE⟩
    | drawn x tm ops k0 ds h1 =>
      obtain ⟨rfl, t, d, k', k1, k2, k3⟩ := ok₁
      simp only at e
      cases hb : regOk ops.toList (Region.before ops) ops with
      | false => rw [hb] at e; cases e
      | true =>
        rw [hb] at e
        simp only [cond_true] at e
        split at e
        ·
          rename_i j hj
          unfold partO at e
          obtain ⟨hbar, e⟩ := condO_some e
          unfold barB at hbar
          rw [List.all_eq_true] at hbar
          split at e
          · rename_i p o hp ho
            split at e
            · rename_i g args hw hl
              obtain ⟨_, e⟩ := condO_some e
              cases he : enterA E g args false with
              | none => rw [he] at e; cases e
              | some f2 =>
                rw [he] at e
                cases e
                have hjs : j < ops.size := (Array.getElem?_eq_some_iff.1 ho).1
                have hbars : ∀ i, j ≤ i → i < ops.size → ∀ l, l < (if i = j then j else j + 1) → Bf ops i l := fun i h1 h2 l h3 => by
                  have := hbar i (List.mem_range.2 h2)
                  have hlt : Nat.blt i j = false := by cases hb : Nat.blt i j with | false => rfl | true => rw [Nat.blt_eq] at hb; omega
                  rw [hlt, cond_false, List.all_eq_true] at this
                  refine this l (List.mem_range.2 ?_)
                  by_cases hij : i = j
                  · rw [if_pos hij] at h3
                    have : Nat.beq i j = true := by rw [hij]; simp
                    rw [this]; exact h3
                  · rw [if_neg hij] at h3
                    have : Nat.beq i j = false := by cases hb : Nat.beq i j with | false => rfl | true => exact absurd (Nat.eq_of_beq_eq_true hb) hij
                    rw [this]; exact h3
                refine ⟨_, _, #[], k1, FineG.drawn w₁ d, ?_⟩
                have W := draw_part (main := main) (cs := frs ++ cs) F FF (fun _ => outs_ok hr FF) (fun _ => outs_up hup) (Nat.le_of_lt hjs) (fun i h1 h2 l h3 => hbars i h1 h2 l (by split <;> omega)) hP (S₁.drawn d) k3 hb hp (hB.free hO)
                refine W.bind ?_
                rintro d' g' w'' ⟨rest, hL, ι'', fr'', rfl, j1, j2, j3, rfl⟩
                have hE := j1.ext (hB.free hO)
                obtain ⟨rest', rfl, hL'⟩ := left_next (regFacts hb) hjs (fun i h1 h2 => hbars i (Nat.le_of_lt h1) h2 j (by rw [if_neg (by omega)]; omega)) hL
                have hA : AtOp ι'' x p.1 ds ops j rest' k' fr'' := ⟨j3.fn, j3.tm, j3.todo, j3.ds, j3.mode, j3.kind, j3.round⟩
                refine Walk.of rfl fun w₃ hr₃ => ?_
                have S₃ := j2.rely hr₃
                obtain ⟨c, nt, rs, ex, hg⟩ : ∃ c nt rs ex, E.ft.get g = some ⟨some c, nt, rs, ex⟩ := by
                  unfold enterA at he
                  split at he
                  · exact ⟨_, _, _, _, ‹_›⟩
                  · cases he
                obtain ⟨vs, h1, h2⟩ := loud_call (main := main) (cs := frs ++ cs) hP F FF S₃ hA ho (wanted_ok hA.tm hw) hl hg
                refine ⟨_, w₃, #[], h2, FineG.refl w₃, .stop fun w₂ hr₂ => ?_⟩
                refine ⟨ι'', _, fr'' :: frs, rfl, hB.grow j1, enter_ok FF he h1 rfl, ⟨fr'', frs, rfl, fun ι3 v u hE' hv => ?_, HS.mono hE⟩, S₃.rely hr₂, rfl, hE0.trans hE⟩
                have H2 := hA.finish ho hE' hv
                exact ⟨H2.fn, H2.tm, ⟨_, _, H2.todo, ⟨rest', hL', rfl⟩, (k2.mono hE).mono hE'⟩, H2.ds, by simpa using H2.mode, H2.kind, H2.round⟩
            · cases e
          · cases e
        · split at e
          · rename_i p hp
            cases e
            refine ⟨_, _, #[], k1, FineG.drawn w₁ d, ?_⟩
            have W := hD K ι { w₁ with drawn := d } x tm ds ops t k' _ (frs ++ cs) h1 p.1 p.2 hP (S₁.drawn d) k3 hb hp (hB.free hO)
            refine W.bind ?_
            rintro d' g' w'' ⟨ι'', fr'', rfl, j1, j2, j3, rfl⟩
            have hE := j1.ext (hB.free hO)
            refine Walk.of rfl fun w₃ hr₃ => ?_
            have ht := j3.todo
            have hm := j3.mode
            refine ⟨G { fr'' with todo := k' } (frs ++ cs), w₃, #[], by simp [G, stepG, hm, stepG.exec, ht], FineG.refl w₃, .stop fun w₂ hr₂ => ?_⟩
            have R2 : RF ι'' ⟨x, p.1, k0, ds, false⟩ { fr'' with todo := k' } := ⟨j3.fn, j3.tm, k2.mono hE, j3.ds, by simpa using j3.mode, j3.kind, j3.round⟩
            exact ⟨ι'', _, frs, rfl, hB.grow j1, R2, HS.mono hE, (j2.rely hr₃).rely hr₂, rfl, hE0.trans hE⟩
          · cases e
    | _ => cases e
noncomputable def runO (E : Env) (r : RunF) (out : List FuncId) (n : Nat) : OS → OS :=
  @Nat.rec (fun _ => OS → OS) (fun s => s) (fun _ ih s => match stepO E r out s with | some s' => cond (Nat.ble s'.h.nx OLD) (ih s') s | none => s) n
theorem runO_ok (F : Fits P E) (FF : FitsF P E) (hP : Of K P E) (n : Nat) : ∀ (m : Nat) (s : OS) {d : Nat} {g : Goroutine} {w : World}, OAt K ι0 cs s d g w → Walk P main K (OAt K ι0 cs (runO E (runF E n) out m s)) d g w
  | 0, s, d, g, w, H => .stop fun w₁ hr => by
    obtain ⟨ι, fr, frs, h1, h2, h3, h4, h5, h6, h7⟩ := H
    exact ⟨ι, fr, frs, h1, h2, h3, h4, h5.rely hr, h6, h7⟩
  | m + 1, s, d, g, w, H => by
    have e : runO E (runF E n) out (m + 1) s = (match stepO E (runF E n) out s with | some s' => cond (Nat.ble s'.h.nx OLD) (runO E (runF E n) out m s') s | none => s) := rfl
    rw [e]
    cases hs : stepO E (runF E n) out s with
    | none =>
      refine .stop fun w₁ hr => ?_
      obtain ⟨ι, fr, frs, h1, h2, h3, h4, h5, h6, h7⟩ := H
      exact ⟨ι, fr, frs, h1, h2, h3, h4, h5.rely hr, h6, h7⟩
    | some s' =>
      simp only
      cases hb : Nat.ble s'.h.nx OLD with
      | true => exact (stepO_ok F FF hP n hs (Nat.le_of_ble_eq_true hb) H).bind fun d' g' w' H' => runO_ok F FF hP n m s' H'
      | false =>
        refine .stop fun w₁ hr => ?_
        obtain ⟨ι, fr, frs, h1, h2, h3, h4, h5, h6, h7⟩ := H
        exact ⟨ι, fr, frs, h1, h2, h3, h4, h5.rely hr, h6, h7⟩
end
end Go.Ev
namespace Go.Ev
open Go.Conc
open Go.ConcX (WgAt wgBlock stA smA KK OfWg RCa RCd DC0 KCa Full Payload Shy DCs EvQ)
open Go.ConcN (sumTo sumTo_upd upd_same)
open Go.Conc.Lib (WgLib WgLink)
noncomputable def bot (P : Program) : Frame := { (default : Frame) with fn := P.funcs.size, defers := [], mode := .panicking [goexitEntry] }
theorem bot_calm (P : Program) : Calm (bot P) := fun e l h => by
  simp only [bot, FrameMode.panicking.injEq, List.cons.injEq] at h
  rw [← h.1]; rfl
section
variable {P : Program} {E : Env} {ι : Nm}
theorem quits_tail (F : Fits P E) (FF : FitsF P E) {f : AF} {v : AV} (hd : f.x.deferred = true) (e : stepT E f = some (.ret v)) {fr : Frame} (R : RF ι f fr) : QuitsD P 2 0 (G fr [bot P]) := by
  obtain ⟨u, _, h2⟩ := tame_ok (main := false) (cs := [bot P]) F FF R e
  have hk : fr.kind = .deferred := by rw [R.kind, hd]; rfl
  refine QuitsD.ctl (g' := G (bot P) []) rfl (fun w => ?_) ?_
  · rw [h2 w, doReturn_back (.inr hk) (fun _ => bot_calm P), hk]; rfl
  · refine QuitsD.ctl (g' := { G (bot P) [] with status := .finished }) rfl (fun w => ?_) ⟨rfl, rfl⟩
    simp [G, stepG, unwind, bot, goexitEntry, Frame.catches]
    rfl
theorem born_step (FF : FitsF P E) {g : FuncId} {c : Code} {n : Nat} {rs : List ResultVar} {x : EX} (hg : E.ft.get g = some ⟨some c, n, rs, x⟩) (fs as cs' : Array Value) (w : World) :
    stepG P false (born P { target := .fn (.func g) cs', args := fs ++ as }) w = .go (G (Frame.enter P g ((fs ++ as) ++ cs') .deferred) [bot P]) w #[] := by
  obtain ⟨fn, h1, h2, _, _, h5⟩ := FF.code g c n rs x hg
  have h5' : ¬ fn.name = "runtime.NumGoroutine" := by simpa using h5
  simp [born, stepG, unwind, callDeferred, invoke, callFunc, h1, h2, h5', seen, GStep.after, G, bot]
theorem done_ok (F : Fits P E) (FF : FitsF P E) {L : WgLink} (H : WgLib P L) {K : Ctx} {h : AH} {w : World} (hP : Of K P E) (S : Sat K ι h w) {Wg : Nat} (hWg : ¬ K.own Wg) (hW : Wg < w.heap.size) {c : Nat} {vs : List AV} {el : TypeId} (hc : h.obj c = .cells vs el false false)
    {f : AF} {v : AV} (hd : f.x.deferred = true) (e : stepT E f = some (.ret v)) {fr : Frame} (R : RF ι f fr) (hm : fr.mode = .returning) : AtDone P L.tWg Wg K (G (Frame.enter P L.done #[.pointer (some ⟨Wg, 0, none⟩)] .deferred) (fr :: [bot P])) w := by
  obtain ⟨p, ob, hp, hb1, hown, hlt, hb, ca, lo, hi, rfl, ⟨l1, l2, hl, hv⟩, h1, h2, h3⟩ := S.at hc trivial
  obtain ⟨rfl, rfl⟩ := (h3 rfl).2 rfl
  have hne : p.1 ≠ Wg := fun x => hWg (x ▸ hown)
  refine ⟨rfl, ⟨el⟩, p.1, ca.toList, hne, hb1, hown, fun _ => by rw [hb, Array.toArray_toList]; rfl, fun sh Mine hK => ?_⟩
  have hD := @Go.ConcX.Gen.doneD ⟨el⟩ L P H Mine Wg p.1 w.heap.size sh ca.toList hW hlt hne fr [bot P] 2 hm (quits_tail F FF hd e R) w ⟨hK, fun _ => by rw [hb, Array.toArray_toList]; rfl⟩
  have he : Frame.enter P L.done #[.pointer (some ⟨Wg, 0, none⟩)] .deferred = (baseD L.done).at ⟨#[.pointer (some ⟨Wg, 0, none⟩), undef, undef, undef], []⟩ [.code (@Go.ConcX.Gen.body_done L)] := by
    rw [enter_atD _ H.f_done (c := @Go.ConcX.Gen.body_done L) (by rfl)]
    rfl
  rw [he]
  exact ⟨23, hD⟩
end
section
variable {P : Program} {Shun : Loc → Prop} {ty : TypeId} {Wg : Nat}
theorem pick_main {a : Goroutine} (hrun : a.status = .running) {B d N0 : Nat} {w0 : World} : ∀ (S : Nat) (gs : Array Goroutine) (w : World) (sl : Option (Nat × Nat)) (t : Trace) (q : Nat → Nat), sumTo gs.size q = S → gs.size = N0 → gs[0]? = some a → Leavers P t gs q → PastD Shun B d t → (∃ x, w = w0.at x) →
    Reaches P gs w sl t (fun gs' w' sl' t' => gs'.size = N0 ∧ gs'[0]? = some a ∧ (∃ x, w' = w0.at x) ∧ ∃ q', Leavers P t' gs' q' ∧ PastD Shun B d t' ∧ ∃ dr sl'', Go.stepT P (crowd gs' w' sl') = runT P (crowd gs' (w'.at dr) sl'') 0) := by
  intro S
  induction S using Nat.strongRecOn with
  | ind S ih =>
    intro gs w sl t q hS hN h0 hL hP hw
    obtain ⟨i, g, dr, sl', hi, hg, hpk⟩ := crowd_pick (P := P) (w := w) (sl := sl) (solo_awake hL h0 hrun) ⟨0, a, h0, hrun⟩
    rcases Nat.eq_zero_or_pos i with rfl | hpos
    · exact .here ⟨hN, h0, hw, q, hL, hP, dr, sl', hpk⟩
    · obtain ⟨k, g1, es1, hqi, hrunT, hm, hsz, h0', hL', hlt⟩ := leaver_step (w := w) (sl' := sl') (d := dr) hL h0 hrun hpos hi hg
      exact Reaches.step (by rw [hpk]; exact hrunT) (ih _ (by rw [← hS]; exact hlt) _ (w.at dr) sl' _ (ConcN.upd q i k) (by rw [hsz]) (hsz.trans hN) h0' hL' (hP.mute (by omega) hm) (by obtain ⟨x, rfl⟩ := hw; exact ⟨dr, rfl⟩))
theorem mw_past {N0 : Nat} {Stop : Nat → Goroutine → Prop} (hSr : ∀ d g, Stop d g → g.status = .running) {w0 : World} {st sm : Int} (hw0 : WgAt ty Wg w0 st sm) : ∀ (n S : Nat) (a : Goroutine) (d : Nat) (gs : Array Goroutine) (w : World) (sl : Option (Nat × Nat)) (t : Trace) (q : Nat → Nat), sumTo gs.size q = S → gs.size = N0 → gs[0]? = some a → MW P ty Wg Stop n d a → Leavers P t gs q → PastD Shun w0.heap.size d t → (∃ x, w = w0.at x) →
    Reaches P gs w sl t (fun gs' w' sl' t' => ∃ d' a' q', gs'.size = N0 ∧ gs'[0]? = some a' ∧ Stop d' a' ∧ (∃ x, w' = w0.at x) ∧ Leavers P t' gs' q' ∧ PastD Shun w0.heap.size d' t') := by
  intro n
  induction n with
  | zero => exact fun S a d gs w sl t q _ hN h0 hM hL hP hw => .here ⟨d, a, q, hN, h0, hM, hw, hL, hP⟩
  | succ n ih =>
    intro S a d gs w sl t q hS hN h0 hM hL hP hw
    rcases mw_cases hM with hs | ⟨m, hm, hrun, hst⟩
    · exact .here ⟨d, a, q, hN, h0, hs, hw, hL, hP⟩
    · cases hm
      refine Reaches.then (pick_main hrun S gs w sl t q hS hN h0 hL hP hw) ?_
      rintro gs1 w1 sl1 t1 ⟨hN1, h01, ⟨x, rfl⟩, q1, hL1, hP1, dr, sl2, hpk⟩
      obtain ⟨g', es, h1, h2, h3⟩ := hst ((w0.at x).at dr) ⟨st, sm, hw0⟩
      have hrunT := runT_crowd_go (P := P) (sl := sl2) (i := 0) h01 (show stepG P (0 == 0) a ((w0.at x).at dr) = _ from h1)
      refine Reaches.step (by rw [hpk]; exact hrunT) ?_
      exact ih _ g' _ _ _ sl2 _ q1 rfl (gs_size.trans hN1) (gs_same h01) h3 (leavers_own hL1 h01) (hP1.own (fn := a.frame.fn) (pos := a.frame.place) (fun e he x hx _ => (jev_touch (.inl (h2 e he)) hx).2) (fun e he => jev_low (.inl (h2 e he)) (wg_lt hw0))) ⟨dr, rfl⟩
end
end Go.Ev
namespace Go.Ev
open Go.Conc
open Go.ConcX (WgAt wgBlock stA smA KK OfWg RCa RCd DC0 KCa Full Payload Shy DCs EvQ)
open Go.ConcN (sumTo sumTo_upd upd_same)
open Go.Conc.Lib (WgLib WgLink)
noncomputable def toCallO (E : Env) (n : Nat) : AF → Option (AF × Option Tmp × FuncId × List AV) :=
  @Nat.rec (fun _ => AF → Option (AF × Option Tmp × FuncId × List AV)) (fun _ => none) (fun _ ih f => match stepT E f with
    | some (.go f') => ih f'
    | some (.call f' d g args) => some (f', d, g, args)
    | _ => none) n
noncomputable def wgHere (ty : TypeId) (h : AH) (id : Nat) : Bool := match h.obj id with
  | .cells [.int .u64 st, .int .u32 sm] el false false => st == KK && sm == 0 && Nat.beq el ty
  | _ => false
noncomputable def plainHere (h : AH) (id : Nat) : Bool := match h.obj id with | .cells _ _ false false => true | _ => false
def isRetT : Option T1 → Bool
  | some (.ret _) => true
  | _ => false
noncomputable def endW (E : Env) (D : FuncId) (wg : Nat) (s : OS) : Option AH :=
  match s.k, stepA E s.f s.h with
  | [], some (.dcall f' g [.ptr i 0] h') => cond (Nat.beq g D && (Nat.beq i wg && (Nat.beq h'.df 0 && (isRetT (stepT E f') && f'.x.deferred)))) (some h') none
  | _, _ => none
def blkOf : List AV → Option Nat
  | _ :: .ptr c 0 :: _ => some c
  | _ => none
noncomputable def spawnO (E : Env) (I : WgIds) (D : FuncId) (ty : TypeId) (n m : Nat) (out : List FuncId) (s : OS) : Option OS :=
  match stepT E s.f with
  | some (.spawn f' g args) => match toCallO E 200 f' with
    | some (fw, dw, gw, [.ptr wg 0]) => cond (Nat.beq gw I.wait && (wgHere ty s.h wg && Nat.beq s.h.df 0)) (match enterA E g args true, blkOf args with
      | some f2, some c => match endW E D wg (runO E (runF E n) out m ⟨f2, [], s.h.put wg .dead⟩) with
        | some h' => cond (Nat.ble h'.nx OLD) (cond (plainHere h' c) (some ⟨resO fw dw (.tup []), s.k, h'⟩) none) none
        | none => none
      | _, _ => none) none
    | _ => none
  | _ => none
section
variable {P : Program} {ty : TypeId} {Wg : Nat} {Fin Fin' : Goroutine → Prop}
theorem MW.mono {Stop Stop' : Nat → Goroutine → Prop} (h : ∀ d g, Stop d g → Stop' d g) : ∀ {n d : Nat} {g : Goroutine}, MW P ty Wg Stop n d g → MW P ty Wg Stop' n d g
  | 0, _, _, H => h _ _ H
  | n + 1, d, g, H => H.elim (fun x => .inl (h _ _ x)) fun x => .inr ⟨x.1, fun w hw => by
      obtain ⟨g', es, h1, h2, h3⟩ := x.2 w hw
      exact ⟨g', es, h1, h2, MW.mono h h3⟩⟩
theorem AtAcq.mono (h : ∀ g, Fin g → Fin' g) {g : Goroutine} (H : AtAcq P Wg Fin g) : AtAcq P Wg Fin' g := ⟨H.1, fun w => by obtain ⟨g', h1, h2⟩ := H.2 w; exact ⟨g', h1, h _ h2⟩⟩
theorem MAcq.mono (h : ∀ g, Fin g → Fin' g) {n : Nat} {g : Goroutine} (H : MAcq P ty Wg Fin n g) : MAcq P ty Wg Fin' n g := MW.mono (fun _ _ x => ⟨x.1, x.2.mono h⟩) H
theorem AtLd0.mono (h : ∀ g, Fin g → Fin' g) {g : Goroutine} (H : AtLd0 P ty Wg Fin g) : AtLd0 P ty Wg Fin' g := ⟨H.1, fun w sm hw => by obtain ⟨g', h1, n, h2⟩ := H.2 w sm hw; exact ⟨g', h1, n, h2.mono h⟩⟩
theorem MLd0.mono (h : ∀ g, Fin g → Fin' g) {n : Nat} {g : Goroutine} (H : MLd0 P ty Wg Fin n g) : MLd0 P ty Wg Fin' n g := MW.mono (fun _ _ x => ⟨x.1, x.2.mono h⟩) H
theorem AtSem.mono (h : ∀ g, Fin g → Fin' g) {g : Goroutine} (H : AtSem P ty Wg Fin g) : AtSem P ty Wg Fin' g := ⟨H.1, H.2.1, H.2.2.1, fun w hw => by obtain ⟨g', h1, n, h2⟩ := H.2.2.2 w hw; exact ⟨g', h1, n, h2.mono h⟩⟩
theorem MSem.mono (h : ∀ g, Fin g → Fin' g) {n : Nat} {g : Goroutine} (H : MSem P ty Wg Fin n g) : MSem P ty Wg Fin' n g := MW.mono (fun _ _ x => ⟨x.1, x.2.mono h⟩) H
theorem AtCas.mono (h : ∀ g, Fin g → Fin' g) {g : Goroutine} (H : AtCas P ty Wg Fin g) : AtCas P ty Wg Fin' g :=
  ⟨H.1, fun w hw => by obtain ⟨g', h1, n, h2⟩ := H.2.1 w hw; exact ⟨g', h1, n, h2.mono h⟩, fun w hw => by obtain ⟨g', h1, n, h2⟩ := H.2.2 w hw; exact ⟨g', h1, n, h2.mono h⟩⟩
theorem MCas.mono (h : ∀ g, Fin g → Fin' g) {n : Nat} {g : Goroutine} (H : MCas P ty Wg Fin n g) : MCas P ty Wg Fin' n g := MW.mono (fun _ _ x => ⟨x.1, x.2.mono h⟩) H
theorem AtLd.mono (h : ∀ g, Fin g → Fin' g) {g : Goroutine} (H : AtLd P ty Wg Fin g) : AtLd P ty Wg Fin' g :=
  ⟨H.1, fun w hw => by obtain ⟨g', h1, n, h2⟩ := H.2.1 w hw; exact ⟨g', h1, n, h2.mono h⟩, fun w hw => by obtain ⟨g', h1, n, h2⟩ := H.2.2 w hw; exact ⟨g', h1, n, h2.mono h⟩⟩
theorem MLd.mono (h : ∀ g, Fin g → Fin' g) {d n : Nat} {g : Goroutine} (H : MLd P ty Wg Fin d n g) : MLd P ty Wg Fin' d n g := MW.mono (fun _ _ x => ⟨x.1, x.2.mono h⟩) H
end
section
variable {P : Program} {E : Env} {I : WgIds} {ι : Nm}
def AtEntry (P : Program) (ι : Nm) (fw : AF) (dw : Option Tmp) (g : FuncId) (args : List AV) (cs : List Frame) (dd : Nat) : Nat → Goroutine → Prop := fun d a =>
  d = dd ∧ ∃ fr' vs, a = G (Frame.enter P g vs .normal) (fr' :: cs) ∧ WaitsS ι fw dw fr' ∧ RVs ι args vs.toList
theorem toCallO_ok (F : Fits P E) (FF : FitsF P E) {ty : TypeId} {Wg : Nat} {g : FuncId} {args : List AV} {fw : AF} {dw : Option Tmp} {c : Code} {nt : Nat} {rs : List ResultVar} {x : EX} (hg : E.ft.get g = some ⟨some c, nt, rs, x⟩) (cs : List Frame) (dd : Nat) : ∀ (n : Nat) (f : AF) (fr : Frame), toCallO E n f = some (fw, dw, g, args) → RF ι f fr →
    MW P ty Wg (AtEntry P ι fw dw g args cs dd) n dd (G fr cs)
  | 0, _, _, e, _ => by cases e
  | n + 1, f, fr, e, R => by
    have e : (match stepT E f with
      | some (.go f') => toCallO E n f'
      | some (.call f' d g args) => some (f', d, g, args)
      | _ => none) = some (fw, dw, g, args) := e
    split at e
    · rename_i f' hs
      have h := tame_ok (main := true) (cs := cs) F FF R hs
      refine .inr ⟨rfl, fun w _ => ?_⟩
      obtain ⟨fr', ⟨es, h1, h2⟩, h3⟩ := h w
      refine ⟨_, es, h1, mev_noRoom h2, ?_⟩
      rw [deaf_noRoom h2]
      exact toCallO_ok F FF hg cs dd n f' fr' e h3
    · rename_i f' d g' args' hs
      cases e
      obtain ⟨h1, _, vs, h2, h3⟩ := tame_ok (main := true) (cs := cs) F FF R hs
      refine .inr ⟨rfl, fun w _ => ⟨_, #[], (h3 w).1 _ _ _ _ hg, by simp, ?_⟩⟩
      have : AtEntry P ι fw dw g args cs dd dd (G (Frame.enter P g vs .normal) (fr :: cs)) := ⟨rfl, fr, vs, rfl, h1, h2⟩
      cases n with
      | zero => exact this
      | succ n => exact .inl this
    · cases e
theorem join_ok (X : Tabs P E I) (hwait : waitOk E I = true) {ty : TypeId} {Wg cp wg : Nat} (hι : ι wg = some (Wg, cp)) {fw : AF} {dw : Option Tmp} {f : AF} {fr : Frame} (cs : List Frame) {n : Nat} (e : toCallO E n f = some (fw, dw, I.wait, [.ptr wg 0])) (R : RF ι f fr) :
    ∃ m, MLd P ty Wg (fun a => ∃ fr', WaitsS ι fw dw fr' ∧ FinAt P ty Wg fr' cs a) 0 m (G fr cs) := by
  have hg : ∃ c nt rs x, E.ft.get I.wait = some ⟨some c, nt, rs, x⟩ := by
    unfold waitOk at hwait
    split at hwait
    · rename_i f hf
      unfold enterA at hf
      split at hf
      · rename_i c n rs x hx
        exact ⟨c, n, rs, x, hx⟩
      · cases hf
    · cases hwait
  obtain ⟨c, nt, rs, x, hg⟩ := hg
  have h1 := toCallO_ok (ty := ty) (Wg := Wg) X.F X.FF hg cs 0 n f fr e R
  refine ⟨n + 200, acq_ok.mw_then (m := 200) (fun d g hd => ?_) h1⟩
  obtain ⟨rfl, fr', vs, rfl, hw, hv⟩ := hd
  obtain ⟨v, rfl, hv1⟩ := args1 hv
  obtain ⟨p, hp, rfl⟩ := ptr_inv hv1
  rw [hι] at hp; cases hp
  exact MLd.mono (fun a ha => ⟨fr', hw, ha⟩) (wait_ok (ty := ty) (Wg := Wg) X hwait fr' cs)
end
def MAt (P : Program) (E : Env) (W : World) (B0 : Nat) (cs : List Frame) (s : OS) : Array Goroutine → World → Option (Nat × Nat) → Trace → Prop := fun gs w _ t =>
  ∃ K Shun a q, Of K P E ∧ K.W0 = W ∧ K.base = B0 ∧ Away K Shun ∧ gs[0]? = some a ∧ OAt K (fun _ => none) cs s s.h.df a w ∧ Leavers P t gs q ∧ PastD Shun w.heap.size s.h.df t
section
variable {P : Program} {E : Env} {I : WgIds} {W : World} {B0 : Nat} {cs : List Frame} {gs : Array Goroutine} {w : World} {sl : Option (Nat × Nat)} {t : Trace} {s s' : OS}
theorem run_past (F : Fits P E) (FF : FitsF P E) (n m : Nat) (out : List FuncId) (H : MAt P E W B0 cs s gs w sl t) : Reaches P gs w sl t (MAt P E W B0 cs (runO E (runF E n) out m s)) := by
  obtain ⟨K, Shun, a, q, h1, h2, h3, hA, h0, hO, hL, hP⟩ := H
  refine Reaches.then (walk_past hA (runO_ok (main := true) F FF h1 n (out := out) m s hO) w (Rely.refl w) gs sl t q h0 hL hP) ?_
  rintro gs1 w1 sl1 t1 ⟨a1, d1, q1, hN, h01, hO1, hL1, hP1⟩
  obtain ⟨ι, fr, frs, k1, k2, k3, k4, k5, rfl, k6⟩ := hO1
  exact .here ⟨K, Shun, a1, q1, h1, h2, h3, hA, h01, ⟨ι, fr, frs, k1, k2, k3, k4, k5, rfl, k6⟩, hL1, hP1⟩
theorem wgHere_inv {ty : TypeId} {h : AH} {id : Nat} (e : wgHere ty h id = true) : h.obj id = .cells [.int .u64 KK, .int .u32 0] ty false false := by
  unfold wgHere at e
  split at e
  · rename_i st sm el ho
    simp only [Bool.and_eq_true, beq_iff_eq] at e
    obtain ⟨⟨rfl, rfl⟩, e⟩ := e
    rw [Nat.eq_of_beq_eq_true e] at ho
    exact ho
  · cases e
theorem plainHere_inv {h : AH} {id : Nat} (e : plainHere h id = true) : ∃ vs el, h.obj id = .cells vs el false false := by
  unfold plainHere at e
  split at e
  · exact ⟨_, _, ‹_›⟩
  · cases e
theorem endW_inv {D wg : Nat} {s : OS} {h : AH} (e : endW E D wg s = some h) : s.k = [] ∧ h.df = 0 ∧ ∃ f' v, stepA E s.f s.h = some (.dcall f' D [.ptr wg 0] h) ∧ stepT E f' = some (.ret v) ∧ f'.x.deferred = true := by
  unfold endW at e
  split at e
  · rename_i f' g i h' hk hs
    cases hc : (Nat.beq g D && (Nat.beq i wg && (Nat.beq h'.df 0 && (isRetT (stepT E f') && f'.x.deferred)))) with
    | false => rw [hc] at e; cases e
    | true =>
      rw [hc] at e
      cases e
      simp only [Bool.and_eq_true] at hc
      obtain ⟨c1, c2, c3, c4, c5⟩ := hc
      rw [Nat.eq_of_beq_eq_true c1, Nat.eq_of_beq_eq_true c2] at hs
      refine ⟨hk, Nat.eq_of_beq_eq_true c3, f', ?_⟩
      unfold isRetT at c4
      split at c4
      · exact ⟨_, hs, ‹_›, c5⟩
      · cases c4
  · cases e
theorem push2 (t : Trace) (g : Nat) (fn : FuncId) (pos : String) (a b : MemOp) : t ++ ((MemOp.ofEvents g fn pos #[]).push a).push b = (t.push a).push b := by
  rw [ofEvents_none]; apply Array.toList_inj.1; simp
theorem deaf_fork (t : Trace) (i j : Nat) (fn fn' : FuncId) (pos pos' : String) (g g' : Nat) : Deaf ((t.push { g := g, fn, pos, act := .go j }).push { g := g', fn := fn', pos := pos', act := .start }) i = Deaf t i := by
  have e : (t.push { g := g, fn, pos, act := .go j }).push { g := g', fn := fn', pos := pos', act := .start } = t ++ (#[{ g := g, fn, pos, act := .go j }, { g := g', fn := fn', pos := pos', act := .start }] : Trace) := by
    apply Array.toList_inj.1; simp
  rw [e]
  have := Deaf_append t i [({ g := g, fn, pos, act := .go j } : MemOp), { g := g', fn := fn', pos := pos', act := .start }]
  simp only [List.foldl_cons, List.foldl_nil, deafStep] at this
  rw [show (#[{ g := g, fn, pos, act := .go j }, { g := g', fn := fn', pos := pos', act := .start }] : Trace) = ⟨[{ g := g, fn, pos, act := .go j }, { g := g', fn := fn', pos := pos', act := .start }]⟩ from rfl, this]
theorem spawn_past (X : Tabs P E I) (hwait : waitOk E I = true) {L : WgLink} (H : WgLib P L) {n m : Nat} {out : List FuncId} (e : spawnO E I L.done L.tWg n m out s = some s') (HM : MAt P E W B0 cs s gs w sl t) : Reaches P gs w sl t (MAt P E W B0 cs s') := by
  unfold spawnO at e
  split at e
  · rename_i f' g args hsp
    split at e
    · rename_i fw dw gw wg hcall
      cases hc : (Nat.beq gw I.wait && (wgHere L.tWg s.h wg && Nat.beq s.h.df 0)) with
      | false => rw [hc] at e; cases e
      | true =>
        rw [hc] at e
        simp only [cond_true] at e
        simp only [Bool.and_eq_true] at hc
        obtain ⟨hgw, hwg, hdf⟩ := hc
        have hgw := Nat.eq_of_beq_eq_true hgw
        have hdf := Nat.eq_of_beq_eq_true hdf
        have hwg := wgHere_inv hwg
        subst hgw
        split at e
        · rename_i f2 c hf2 hbl
          split at e
          · rename_i h' hend
            cases hbO : Nat.ble h'.nx OLD with
            | false => rw [hbO] at e; cases e
            | true =>
            rw [hbO, cond_true] at e
            have hbO := Nat.le_of_ble_eq_true hbO
            cases hpl : plainHere h' c with
            | false => rw [hpl] at e; cases e
            | true =>
              rw [hpl] at e
              cases e
              obtain ⟨vsc, elc, hcobj⟩ := plainHere_inv hpl
              obtain ⟨hke, hdf', fd, vd, hsd, hrd, hdd⟩ := endW_inv hend
              obtain ⟨K, Shun, a, q, hKP, hKW0, hKB, hA, h0, hO, hL, hP⟩ := HM
              rw [hdf] at hO hP
              obtain ⟨ι, fr, frs, rfl, hB, R, HS, S, _, _⟩ := hO
              refine Reaches.then (pick_main (w0 := w) (B := w.heap.size) (d := 0) rfl _ gs w sl t q rfl rfl h0 hL hP ⟨w.drawn, rfl⟩) ?_
              rintro gs1 w1 sl1 t1 ⟨hN1, h01, ⟨x1, rfl⟩, q1, hL1, hP1, dr, sl2, hpk⟩
              have S1 : Sat K ι s.h ((w.at x1).at dr) := S.rely (Rely.drawn w dr)
              obtain ⟨fs, as, cs', hargs, fr', R', hspawn⟩ := tame_ok (main := true) (cs := frs ++ cs) X.F X.FF R hsp
              have hpos : 0 < gs1.size := (Array.getElem?_eq_some_iff.1 h01).1
              have hrunT := runT_crowd_spawn (P := P) (sl := sl2) (i := 0) h01 (show stepG P (0 == 0) _ ((w.at x1).at dr) = _ from hspawn _)
              obtain ⟨p, ob, hp, hb1, hown, hlt, hb, ca, lo, hi, rfl, ⟨l1, l2, hl, hv⟩, z1, z2, z3⟩ := S1.at hwg trivial
              obtain ⟨rfl, rfl⟩ := (z3 rfl).2 rfl
              have hca : ca = #[.int .u64 KK, .int .u32 0] := by
                have hl2 : l2 = [] := by
                  have e1 := z1 rfl
                  have e2 := congrArg List.length hl
                  have e3 := hv.length
                  simp at e1 e2 e3
                  exact List.length_eq_zero_iff.1 (by omega)
                subst hl2
                obtain ⟨v1, r1, e1, hv1, hr1⟩ := RVs_cons_inv hv
                obtain ⟨v2, r2, e2, hv2, hr2⟩ := RVs_cons_inv hr1
                rw [RVs_nil_inv hr2] at e2
                unfold RV at hv1 hv2
                subst hv1; subst hv2
                apply Array.toList_inj.1
                rw [hl, e1, e2]; rfl
              subst hca
              have hgrp : WgAt L.tWg p.1 ((w.at x1).at dr) KK 0 := hb
              have hSW : ∀ l, Shun l → ¬ OfWg p.1 l := fun l hs ⟨y, hy, hyb⟩ => (hA l p.1 hs (by rw [hy]; simp [blockOf, hyb])).1 ⟨hb1, hown⟩
              have SM : SatM K ι (fun i o => s.h.tr.get i = some o) ((w.at x1).at dr) := S1.toM fun _ _ h _ => h
              have hdead : ∀ i o, (s.h.put wg .dead).tr.get i = some o → o.live → s.h.tr.get i = some o ∧ ¬ i = wg := fun i o hi hl => by
                have hi : (s.h.tr.set wg .dead).get i = some o := hi
                rcases Tr.get_set hi with ⟨rfl, rfl⟩ | ⟨h1, h2⟩
                · exact hl.elim
                · exact ⟨h2, h1⟩
              have SW := SM.less (X := fun i => i = wg) (h := s.h.put wg .dead) hdead
              obtain ⟨K', hK'⟩ : ∃ K', K' = Ctx.less K ι (fun i o => s.h.tr.get i = some o) (fun i => i = wg) ((w.at x1).at dr) SM.lo SM.lt := ⟨_, rfl⟩
              rw [← hK'] at SW
              have hK'P : Of K' P E := by rw [hK']; exact ⟨hKP.P, hKP.mem, hKP.pk⟩
              have hK'own : ¬ K'.own p.1 := by
                rw [hK']
                rintro ⟨_, hx⟩
                have ho : s.h.tr.get wg = some (.cells [.int .u64 KK, .int .u32 0] L.tWg false false) := AH.obj_live hwg trivial
                exact hx ⟨wg, _, p, rfl, ho, trivial, hp, rfl⟩
              have hK'sub : Sub K' K := by rw [hK']; exact less_sub
              have hA' : Away K' (fun l => Shun l ∨ OfWg p.1 l) := fun l b hl hb => by
                refine ⟨?_, ?_⟩
                · rintro ⟨h1, h2⟩
                  rcases hl with hl | ⟨y, hy, hyb⟩
                  · exact (hA l b hl hb).1 ⟨by rw [← hK'sub.base]; exact h1, hK'sub.own _ h2⟩
                  · rw [hy] at hb
                    simp only [blockOf, Option.some.injEq] at hb
                    exact hK'own (by rw [← hyb, hb]; exact h2)
                · rintro ⟨h1, h2⟩
                  rcases hl with hl | ⟨y, hy, hyb⟩
                  · exact (hA l b hl hb).2 ⟨hK'sub.peek h1, by rw [← hK'sub.base]; exact h2⟩
                  · rw [hy] at hb
                    simp only [blockOf, Option.some.injEq] at hb
                    rw [hK'sub.base] at h2
                    have := hb1
                    omega
              have hA0 : Away K' Shun := fun l b hl hb => hA' l b (.inl hl) hb
              have hf2' := hf2
              unfold enterA at hf2'
              split at hf2'
              · rename_i cw nw rsw xw hgw
                have hfd : f2.x.deferred = true := by
                  cases hble : Nat.ble args.length nw with
                  | false => rw [hble] at hf2'; cases hf2'
                  | true => rw [hble] at hf2'; cases hf2'; rfl
                have RW : RF ι f2 (Frame.enter P g ((fs ++ as) ++ cs') .deferred) := enter_ok X.FF hf2 (vs := (fs ++ as) ++ cs') hargs rfl
                have hdfw : (s.h.put wg .dead).df = 0 := hdf
                have hO2 : OAt K' ι [bot P] ⟨f2, [], s.h.put wg .dead⟩ 0 (G (Frame.enter P g ((fs ++ as) ++ cs') .deferred) [bot P]) ((w.at x1).at dr) := ⟨ι, _, [], rfl, hB, RW, rfl, SW, hdfw.symm, fun _ _ h => h⟩
                let Stop : Nat → Goroutine → World → Prop := fun d b ws => d = 0 ∧ AtDone P L.tWg p.1 K' b ws ∧ ∃ ι', Sat K' ι' h' ws ∧ Ext ι ι' ∧ Bare ι' h'.nx
                have hwalk : Walk P false K' Stop 0 (born P { target := .fn (.func g) cs', args := fs ++ as }) ((w.at x1).at dr) := by
                  refine Walk.of rfl fun w₁ hr₁ => ⟨_, w₁, #[], born_step X.FF hgw fs as cs' w₁, FineG.refl w₁, ?_⟩
                  show Walk P false K' Stop 0 _ w₁
                  refine ((runO_ok (main := false) X.F X.FF hK'P n (out := out) m _ hO2).rely hr₁).bind ?_
                  rintro d2 g2 w2 ⟨ι2, fr2, frs2, rfl, b1, b2, b3, b4, rfl, b5⟩
                  rw [hke] at b3
                  have b3 : frs2 = [] := b3
                  subst b3
                  refine Walk.of rfl fun w₃ hr₃ => ?_
                  have ok : A1Ok P false K' ι2 _ w₃ fr2 ([] ++ [bot P]) _ := step_ok hK'P X.F X.FF (b4.rely hr₃) b2 hsd
                  obtain ⟨ι3, fr3, vs3, w4, es, k1, k2, k3, k4, ⟨k5, k5'⟩, k6, k7⟩ := ok (b1.free hbO)
                  have hE3 : Ext ι ι3 := b5.trans (k2.ext (b1.free hbO))
                  obtain ⟨v3, rfl, hv3⟩ := args1 k4
                  obtain ⟨p3, hp3, rfl⟩ := ptr_inv hv3
                  rw [hE3 _ _ hp] at hp3; cases hp3
                  refine ⟨_, w4, es, k1, k6, .stop fun w₅ hr₅ => ⟨k7.trans hdf', ?_, ι3, k3.rely hr₅, hE3, b1.grow k2⟩⟩
                  have S5 := k3.rely hr₅
                  exact done_ok X.F X.FF H hK'P S5 hK'own (by have := S5.lo; rw [hK'] at this; exact Nat.lt_of_lt_of_le hlt this) hcobj hdd hrd k5 k5'
                have hP1' : PastD Shun ((w.at x1).at dr).heap.size 0 t1 := hP1
                have hj : gs1.size ≠ 0 := by omega
                have hfork := PhT.fork hP1' hj (hL1.above _ (Nat.le_refl _)) hSW (G fr (frs ++ cs)).frame.fn (born P { target := .fn (.func g) cs', args := fs ++ as }).frame.fn (G fr (frs ++ cs)).frame.place (G fr (frs ++ cs)).frame.place
                refine Reaches.step (by rw [hpk]; exact hrunT) ?_
                rw [push2]
                obtain ⟨mj, hmj⟩ := join_ok (P := P) (ty := L.tWg) X hwait hp (frs ++ cs) hcall R'
                have hPA : PA P L.tWg p.1 gs1.size (fun a => ∃ fr', WaitsS ι fw dw fr' ∧ FinAt P L.tWg p.1 fr' (frs ++ cs) a) Shun false KK 0 0 3 mj none ((gs1.setIfInBounds 0 (G fr' (frs ++ cs))).push (born P { target := .fn (.func g) cs', args := fs ++ as })) ((w.at x1).at dr) _ (G fr' (frs ++ cs)) (born P { target := .fn (.func g) cs', args := fs ++ as }) q1 :=
                  ⟨by rw [Array.getElem?_push_lt (by simpa using hpos)]; simp [hpos], by rw [show gs1.size = (gs1.setIfInBounds 0 (G fr' (frs ++ cs))).size by simp]; exact Array.getElem?_push_size, .ld hmj, hgrp, fun _ => rfl, rfl, ⟨fun i x h1 h2 hx => (by
                    have hx' : gs1[i]? = some x := by
                      rw [Array.getElem?_push, if_neg (by simpa using h2), Array.getElem?_setIfInBounds_ne (by omega)] at hx
                      exact hx
                    rw [deaf_fork]
                    exact hL1.old i x h1 hx'), fun i hi => (by
                    rw [deaf_fork]
                    exact hL1.above i (by simp at hi; omega))⟩, hfork⟩
                have hKW : K'.base ≤ p.1 := by rw [hK'sub.base]; exact hb1
                refine Reaches.then (st0 (Fin := fun a => ∃ fr', WaitsS ι fw dw fr' ∧ FinAt P L.tWg p.1 fr' (frs ++ cs) a) hj hSW hA0 hK'own hKW _ (fun d b w hs => ⟨hs.1, hs.2.1⟩) hwalk _ sl2 _ q1 _ false KK 0 3 mj _ (Rely.refl _) rfl (fun h => by cases h) hPA) ?_
                rintro gs4 w4 sl4 t4 ⟨b4, ws, ⟨_, _, ι', S', hE', hB'⟩, a4, q4, hN4, h04, ⟨fr4, hw4, n4, hm4⟩, hL4, hP4, hR4, hg4⟩
                refine Reaches.then (mw_past (ty := L.tWg) (Wg := p.1) (fun d g hs => by rw [hs.2]; rfl) hg4 n4 _ a4 0 gs4 w4 sl4 t4 q4 rfl rfl h04 hm4 hL4 hP4 ⟨w4.drawn, rfl⟩) ?_
                rintro gs5 w5 sl5 t5 ⟨d5, a5, q5, hN5, h05, ⟨rfl, rfl⟩, ⟨x5, rfl⟩, hL5, hP5⟩
                have hrel : Rely K' ws (w4.at x5) := ⟨hR4.size, fun x _ hx => hR4.block x fun e => hK'own (e ▸ hx), fun x hx => hR4.block x (by omega), hR4.os, hR4.tape, hR4.output⟩
                refine .here ⟨K', _, _, q5, hK'P, by rw [hK'sub.W0]; exact hKW0, by rw [hK'sub.base]; exact hKB, hA', h05, ⟨ι', fr4.finish (.tuple #[]), frs, rfl, hB', ?_, HS.mono hE', S'.rely hrel, rfl, fun i p h => (by cases h)⟩, hL5, ?_⟩
                · have := (hw4 (.tup []) (.tuple #[]) (by unfold RV; exact ⟨#[], rfl, RVs_nil⟩)).mono hE'
                  obtain ⟨x, tm, td, ds, rt⟩ := fw
                  exact this
                · show PastD _ _ h'.df t5
                  rw [hdf']
                  exact hP5
              · cases hf2'
          · cases e
        · cases e
    · cases e
  · cases e
end
end Go.Ev
namespace Go.Ev
open Go.Conc (G)
def Does (P : Program) (E : Env) (f : AF) (h : AH) (v : AV) (h' : AH) : Prop :=
  h.nx ≤ h'.nx ∧ ∀ (K : Ctx) (ι : Nm) (w : World) (fr c : Frame) (rest : List Frame), Of K P E → Sat K ι h w → RF ι f fr → (fr.kind = .deferred → Calm c) → Free ι h.nx h'.nx →
    Walk P true K (AtBack K ι h.nx fr.kind c rest v h') h.df (G fr (c :: rest)) w
def DoesC (P : Program) (E : Env) (g : FuncId) (args : List AV) (h : AH) (v : AV) (h' : AH) : Prop := h.nx ≤ h'.nx ∧ SemCm P true E g args false h v h'
section
variable {P : Program} {E : Env} {f f' : AF} {h h1 h2 h' : AH} {v u : AV}
theorem DoesC.enter (FF : FitsF P E) {g : FuncId} {args : List AV} (e : enterA E g args false = some f) (H : Does P E f h v h') : DoesC P E g args h v h' :=
  ⟨H.1, fun K ι w vs c rest hP S ha _ hf => H.2 K ι w (Frame.enter P g vs .normal) c rest hP S (enter_ok FF e ha rfl) (fun hx => by cases hx) hf⟩
open Classical in
noncomputable def oneR (f : AF) (h : AH) (p : AV × AH) : RunF := fun f' h' => if f' = f ∧ h' = h then some p else none
theorem oneR_self (p : AV × AH) : oneR f h p f h = some p := by unfold oneR; rw [if_pos ⟨rfl, rfl⟩]
theorem oneR_inv {p q : AV × AH} (e : oneR f h p f' h' = some q) : f' = f ∧ h' = h ∧ q = p := by
  unfold oneR at e
  split at e
  · rename_i hc; cases e; exact ⟨hc.1, hc.2, rfl⟩
  · cases e
theorem Does.one (H : Does P E f h v h') : RunOk P E true (oneR f h (v, h')) := by
  intro K ι w fr c rest f1 hh v1 h1' hP e S R hc hf
  obtain ⟨rfl, rfl, e2⟩ := oneR_inv e
  cases e2
  exact H.2 K ι w fr c rest hP S R hc hf
theorem Does.oneUp (H : Does P E f h v h') : RunF.Up (oneR f h (v, h')) := by
  intro f1 hh v1 h1' e
  obtain ⟨rfl, rfl, e2⟩ := oneR_inv e
  cases e2
  exact H.1
theorem noneOk : RunOk P E true (fun _ _ => none) := fun _ _ _ _ _ _ _ _ _ _ _ e => by cases e
theorem noneUp : RunF.Up (fun _ _ => none) := fun _ _ _ _ e => by cases e
theorem Does.ret (F : Fits P E) (FF : FitsF P E) (e : stepA E f h = some (.ret v h')) : Does P E f h v h' := by
  refine ⟨by have := step_up e; exact this, fun K ι w fr c rest hP S R hc hf => ?_⟩
  exact stepR_ok F FF noneOk noneUp (draw_ok F FF (fun _ => outs_ok noneOk FF) (fun _ => outs_up noneUp)) K ι w fr c rest f h v h' hP (by simp only [e]; rfl) S R hc hf
def AtF (K : Ctx) (ι : Nm) (nx : Nat) (cs : List Frame) (f' : AF) (h' : AH) : Nat → Goroutine → World → Prop := fun d g w =>
  ∃ ι' fr', g = G fr' cs ∧ Grow ι ι' nx h'.nx ∧ Sat K ι' h' w ∧ RF ι' f' fr' ∧ d = h'.df
def DoesS (P : Program) (E : Env) (f : AF) (h : AH) (f' : AF) (h' : AH) : Prop :=
  h.nx ≤ h'.nx ∧ f'.x = f.x ∧ ∀ (K : Ctx) (ι : Nm) (w : World) (fr : Frame) (cs : List Frame), Of K P E → Sat K ι h w → RF ι f fr → Free ι h.nx h'.nx →
    Walk P true K (AtF K ι h.nx cs f' h') h.df (G fr cs) w
theorem DoesS.refl (f : AF) (h : AH) : DoesS P E f h f h :=
  ⟨Nat.le_refl _, rfl, fun _ ι _ fr _ _ S R _ => .stop fun _ hr => ⟨ι, fr, rfl, Grow.refl _ _, S.rely hr, R, rfl⟩⟩
theorem DoesS.trans {f2 : AF} (A : DoesS P E f h f' h1) (B : DoesS P E f' h1 f2 h2) : DoesS P E f h f2 h2 := by
  refine ⟨Nat.le_trans A.1 B.1, B.2.1.trans A.2.1, fun K ι w fr cs hP S R hf => ?_⟩
  refine (A.2.2 K ι w fr cs hP S R (hf.sub (Nat.le_refl _) B.1)).bind ?_
  rintro d g w' ⟨ι', fr', rfl, g1, g2, g3, rfl⟩
  refine (B.2.2 K ι' w' fr' cs hP g2 g3 (g1.free hf)).mono ?_
  rintro d g w'' ⟨ι'', fr'', rfl, k1, k2, k3, rfl⟩
  exact ⟨ι'', fr'', rfl, g1.trans k1, k2, k3, rfl⟩
theorem Does.of (A : DoesS P E f h f' h1) (B : Does P E f' h1 v h') : Does P E f h v h' := by
  refine ⟨Nat.le_trans A.1 B.1, fun K ι w fr c rest hP S R hc hf => ?_⟩
  refine (A.2.2 K ι w fr (c :: rest) hP S R (hf.sub (Nat.le_refl _) B.1)).bind ?_
  rintro d g w' ⟨ι', fr', rfl, g1, g2, g3, rfl⟩
  have hk : fr'.kind = fr.kind := R.kind_of g3 A.2.1
  have W := B.2 K ι' w' fr' c rest hP g2 g3 (by rw [hk]; exact hc) (g1.free hf)
  rw [hk] at W
  exact W.mono fun _ _ _ H => AtBack.up g1 H
theorem DoesS.go (F : Fits P E) (FF : FitsF P E) (e : stepA E f h = some (.go f' h1)) : DoesS P E f h f' h1 := by
  refine ⟨by have := step_up e; exact this, step_x e, fun K ι w fr cs hP S R hf => ?_⟩
  refine Walk.of rfl fun w₁ hr₁ => ?_
  have ok₁ : A1Ok P true K ι h w₁ fr cs _ := step_ok hP F FF (S.rely hr₁) R e
  obtain ⟨ι', fr', w', es, k1, k2, k3, k4, k5, k6⟩ := ok₁ hf
  exact ⟨_, w', es, k1, k5, .stop fun w₂ hr₂ => ⟨ι', fr', rfl, k2, k3.rely hr₂, k4, k6⟩⟩
theorem DoesS.call (F : Fits P E) (FF : FitsF P E) {d : Option Tmp} {g : FuncId} {args : List AV} (e : stepA E f h = some (.call f' d g args h1)) (C : DoesC P E g args h1 u h2) : DoesS P E f h (resK (f', d) u) h2 := by
  have hu : h.nx ≤ h1.nx := step_up e
  have hx : f'.x = f.x := step_x e
  refine ⟨Nat.le_trans hu C.1, hx, fun K ι w fr cs hP S R hf => ?_⟩
  refine Walk.of rfl fun w₁ hr₁ => ?_
  have S₁ := S.rely hr₁
  have ok₁ : A1Ok P true K ι h w₁ fr cs _ := step_ok hP F FF S₁ R e
  have hu1 := C.1
  obtain ⟨ι', fr', vs, w', es, k1, k2, k3, k4, ⟨k5, k5'⟩, k6, k7⟩ := ok₁ (hf.sub (Nat.le_refl _) hu1)
  have hf' := k2.free hf
  refine ⟨_, w', es, k1, k6, ?_⟩
  rw [k7]
  refine (C.2 K ι' w' vs fr' cs hP k3 k4 (fun hx => by cases hx) hf').bind ?_
  rintro d' g' w'' ⟨ι'', u', rfl, g1, g2, g3, rfl⟩
  have hE := g1.ext hf'
  exact .stop fun w₂ hr₂ => ⟨ι'', fr'.finish u', rfl, k2.trans g1, g2.rely hr₂, k5 ι'' u u' hE g3, rfl⟩
theorem DoesS.drawn (F : Fits P E) (FF : FitsF P E) {x : AX} {tm : Tr AV} {ops : Array Oper} {k : List AI} {ds : List AD} {r : Nat → Outs} {p : Tr AV × AH} (e : stepA E f h = some (.drawn x tm ops k ds h1)) (hb : regOk ops.toList (Region.before ops) ops = true)
    (hr : ∀ i, OutsOk P true E (r i)) (hup : ∀ i, (r i).Up) (hp : runD E r x (Region.before ops) ops h1 ops.toList 0 tm [] [] [] h1 = some p) : DoesS P E f h ⟨x, p.1, k, ds, false⟩ p.2 := by
  have hu : h.nx ≤ h1.nx := step_up e
  have hu1 := runD_up hup _ _ _ _ _ _ _ _ hp
  have hx : x = f.x := step_x e
  refine ⟨Nat.le_trans hu hu1, hx, fun K ι w fr cs hP S R hf => ?_⟩
  refine Walk.of rfl fun w₁ hr₁ => ?_
  have S₁ := S.rely hr₁
  have ok₁ : A1Ok P true K ι h w₁ fr cs _ := step_ok hP F FF S₁ R e
  obtain ⟨rfl, t, d, k', k1, k2, k3⟩ := ok₁
  refine ⟨_, _, #[], k1, FineG.drawn w₁ d, ?_⟩
  have W := draw_ok F FF hr hup K ι { w₁ with drawn := d } x tm ds ops t k' _ cs h1 p.1 p.2 hP (S₁.drawn d) k3 hb hp hf
  refine W.bind ?_
  rintro d' g' w'' ⟨ι'', fr'', rfl, j1, j2, j3, rfl⟩
  have hE := j1.ext hf
  refine Walk.of rfl fun w₃ hr₃ => ?_
  have ht := j3.todo
  have hm := j3.mode
  refine ⟨G { fr'' with todo := k' } cs, w₃, #[], by simp [G, stepG, hm, stepG.exec, ht], FineG.refl w₃, ?_⟩
  have R2 : RF ι'' ⟨x, p.1, k, ds, false⟩ { fr'' with todo := k' } := ⟨j3.fn, j3.tm, k2.mono hE, j3.ds, by simpa using j3.mode, j3.kind, j3.round⟩
  exact .stop fun w₂ hr₂ => ⟨ι'', _, rfl, j1, (j2.rely hr₃).rely hr₂, R2, rfl⟩
theorem Does.of_run (F : Fits P E) (FF : FitsF P E) {n : Nat} (e : runF E n f h = some (v, h')) : Does P E f h v h' :=
  ⟨runF_up n _ _ _ _ e, fun K ι w fr c rest hP S R hc hf => runF_ok F FF n K ι w fr c rest f h v h' hP e S R hc hf⟩
theorem DoesC.of_run (F : Fits P E) (FF : FitsF P E) {n : Nat} {g : FuncId} {args : List AV} {p : AV × AH} (e : runC E (runF E n) g args false h = some p) : DoesC P E g args h p.1 p.2 :=
  ⟨runC_up (runF_up n) e, SemCm.of_runC (runF_ok F FF n) FF e⟩
end
end Go.Ev
namespace Go.Ev
open Go.Conc (G)
inductive DA where
  | c
  | s
  | v (v : AV)
  | l (v : AV) (h' : AH)
  | k (v : AV) (h' : AH)
inductive Ans where
  | n (k : Nat)
  | br (b : Bool)
  | s
  | v (v : AV)
  | l (v : AV) (h' : AH)
  | k (v : AV) (h' : AH)
  | d (l : List DA)
noncomputable def goN (E : Env) (k : Nat) : AF → AH → Option (AF × AH) :=
  @Nat.rec (fun _ => AF → AH → Option (AF × AH)) (fun f h => some (f, h)) (fun _ ih f h => match stepA E f h with
    | some (.go f' h') => ih f' h'
    | _ => none) k
noncomputable def quietP (E : Env) (b : Array Nat) (q : DQ) : List (Nat × AH) → List Prop
  | [] => []
  | p :: l => cond ((b.getD p.1 0).testBit q.i || l.any fun x => (b.getD q.i 0).testBit x.1) (quietP E b q l) ((quietOp q.op E q.tm p.2 = some q.v) :: quietP E b q l)
noncomputable def quietsP (E : Env) (b : Array Nat) (hs : List (Nat × AH)) (h0 : AH) : List DQ → List Prop
  | [] => []
  | q :: qs => cond (hs.any fun p => (b.getD q.i 0).testBit p.1) (quietP E b q hs ++ quietsP E b hs h0 qs) ((quietOp q.op E q.tm h0 = some q.v) :: (quietP E b q hs ++ quietsP E b hs h0 qs))
abbrev RP := Option (Tr AV × AH × List Prop)
def RP.add (l : List Prop) : RP → RP
  | some (tm, h, m) => some (tm, h, l ++ m)
  | none => none
noncomputable def runP (P : Program) (E : Env) (x : AX) (b : Array Nat) (ops : Array Oper) (h0 : AH) : List DA → List Oper → Nat → Tr AV → List DQ → List (Nat × AH) → List (Nat × Nat × AO) → AH → RP
  | _, [], _, tm, qs, hs, ps, h => cond (chainOk b hs.reverse) (some (tm, putAll ps h, quietsP E b hs.reverse h0 qs)) none
  | [], _ :: _, _, _, _, _, _, _ => none
  | a :: as, o :: os, i, tm, qs, hs, ps, h => match a with
    | .s => RP.add [wantedA o ops tm = some false] (runP P E x b ops h0 as os (Nat.succ i) (fin x o.dst undefA tm) qs hs ps h)
    | .v v => cond (freshKind o.op) none (RP.add [wantedA o ops tm = some true, quietOp o.op E tm h = some v] (runP P E x b ops h0 as os (Nat.succ i) (fin x o.dst v tm) (cond (readsHeap o.op) (⟨o.op, i, tm, v⟩ :: qs) qs) hs ps h))
    | .l v h' => cond (freshKind o.op) none (match wake (b.getD i 0) ps h with
      | (hw, ps) => RP.add [wantedA o ops tm = some true, quietOp o.op E tm h = none, loudOp o.op E tm hw = some (.val v h')] (runP P E x b ops h0 as os (Nat.succ i) (fin x o.dst v tm) qs ((i, h') :: hs) ps h'))
    | .k v h' => cond (freshKind o.op) none (match wantedA o ops tm, quietOp o.op E tm h with
      | some true, none => (match wake (b.getD i 0) ps h with
        | (hw, ps) => (match loudOp o.op E tm hw with
          | some (.call g args) => (match E.ft.get g with
            | some ⟨some _, _, _, _⟩ => RP.add [DoesC P E g args hw v h'] (runP P E x b ops h0 as os (Nat.succ i) (fin x o.dst v tm) qs ((i, h') :: hs) ps h')
            | _ => none)
          | _ => none))
      | _, _ => none)
    | .c => match wantedA o ops tm with
      | none => none
      | some false => runP P E x b ops h0 as os (Nat.succ i) (fin x o.dst undefA tm) qs hs ps h
      | some true => cond (freshKind o.op)
        (match loudOp o.op E tm h with
         | some (.val v h') => cond (Nat.blt h.nx 1000000) (runP P E x b ops h0 as os (Nat.succ i) (fin x o.dst v tm) qs hs ((i, h.nx, h'.obj h.nx) :: ps) ⟨h.tr, h'.nx, h'.df⟩) none
         | _ => none)
        (match quietOp o.op E tm h with
         | some v => runP P E x b ops h0 as os (Nat.succ i) (fin x o.dst v tm) (cond (readsHeap o.op) (⟨o.op, i, tm, v⟩ :: qs) qs) hs ps h
         | none => (match wake (b.getD i 0) ps h with
           | (h, ps) => (match loudD E ⟨fun _ _ _ => none, fun _ _ _ => none⟩ h (loudOp o.op E tm h) with
             | some p => runP P E x b ops h0 as os (Nat.succ i) (fin x o.dst p.1 tm) qs ((i, p.2) :: hs) ps p.2
             | none => none)))
noncomputable def stepP (P : Program) (E : Env) (a : Ans) (f : AF) (h : AH) : Option (AF × AH × List Prop) :=
  match a with
  | .n k => (match goN E k f h with | some (f', h') => some (f', h', []) | none => none)
  | .br b => (match f with
    | ⟨x, tm, .code (.cond c p q) :: k, ds, false⟩ => some (⟨x, tm, .code (cond b p q) :: k, ds, false⟩, h, [ev tm c = .bool b])
    | _ => none)
  | .s => (match f with
    | ⟨x, tm, .inRegion ops (o :: rest) :: k, ds, false⟩ => some (⟨x, fin x o.dst undefA tm, inR ops rest k, ds, false⟩, h, [wantedA o ops tm = some false])
    | _ => none)
  | .v v => (match f with
    | ⟨x, tm, .inRegion ops (o :: rest) :: k, ds, false⟩ => some (⟨x, fin x o.dst v tm, inR ops rest k, ds, false⟩, h, [wantedA o ops tm = some true, quietOp o.op E tm h = some v])
    | _ => none)
  | .l v h' => (match f with
    | ⟨x, tm, .inRegion ops (o :: rest) :: k, ds, false⟩ => some (⟨x, fin x o.dst v tm, inR ops rest k, ds, false⟩, h', [wantedA o ops tm = some true, quietOp o.op E tm h = none, loudOp o.op E tm h = some (.val v h')])
    | _ => none)
  | .k v h' => (match stepA E f h with
    | some (.call f' d g args h1) => some (resK (f', d) v, h', [DoesC P E g args h1 v h'])
    | _ => none)
  | .d l => (match stepA E f h with
    | some (.drawn x tm ops k ds h1) => cond (regOk ops.toList (Region.before ops) ops) (match runP P E x (Region.before ops) ops h1 l ops.toList 0 tm [] [] [] h1 with
      | some (tm', h2, obs) => some (⟨x, tm', k, ds, false⟩, h2, obs)
      | none => none) none
    | _ => none)
noncomputable def pathP (P : Program) (E : Env) : List Ans → AF → AH → Option (AF × AH × List Prop)
  | [], f, h => some (f, h, [])
  | a :: l, f, h => match stepP P E a f h with
    | some (f1, h1, o1) => (match pathP P E l f1 h1 with
      | some (f2, h2, o2) => some (f2, h2, o1 ++ o2)
      | none => none)
    | none => none
def All : List Prop → Prop
  | [] => True
  | [p] => p
  | p :: q :: l => p ∧ All (q :: l)
theorem All.mem : ∀ {l : List Prop}, All l → ∀ p ∈ l, p
  | [], _, _, hp => by cases hp
  | [q], h, p, hp => by rw [List.mem_singleton] at hp; rw [hp]; exact h
  | q :: r :: l, h, p, hp => by
    rcases List.mem_cons.1 hp with rfl | hp
    · exact h.1
    · exact All.mem h.2 p hp
section
variable {P : Program} {E : Env} {f f' : AF} {h h1 h2 h' : AH} {v u : AV}
theorem goN_ok (F : Fits P E) (FF : FitsF P E) : ∀ (k : Nat) (f : AF) (h : AH), goN E k f h = some (f', h1) → DoesS P E f h f' h1
  | 0, f, h, e => by cases e; exact DoesS.refl _ _
  | k + 1, f, h, e => by
    have e : (match stepA E f h with | some (.go f' h') => goN E k f' h' | _ => none) = some (f', h1) := e
    split at e
    · rename_i f2 h2 hs; exact (DoesS.go F FF hs).trans (goN_ok F FF k f2 h2 e)
    · cases e
open Classical in
noncomputable def rOf (P : Program) (E : Env) (l : List DA) (i : Nat) : Outs := ⟨fun g args h => match l[i]? with
  | some (.k v h') => if DoesC P E g args h v h' then some (v, h') else none
  | _ => none, fun _ _ _ => none⟩
theorem rOf_inv {l : List DA} {i : Nat} {g : FuncId} {args : List AV} {p : AV × AH} (e : (rOf P E l i).call g args h = some p) : DoesC P E g args h p.1 p.2 := by
  simp only [rOf] at e
  split at e
  · split at e
    · rename_i hc; cases e; exact hc
    · cases e
  · cases e
theorem rOf_ok (l : List DA) (i : Nat) : OutsOk P true E (rOf P E l i) := ⟨fun g args h p e => (rOf_inv e).2, fun l args h p e => by cases e⟩
theorem rOf_up (l : List DA) (i : Nat) : (rOf P E l i).Up := ⟨fun g args h p e => (rOf_inv e).1, fun l args h p e => by cases e⟩
theorem RP.add_inv {l : List Prop} {r : RP} {tm : Tr AV} {hh : AH} {obs : List Prop} (e : RP.add l r = some (tm, hh, obs)) : ∃ m, r = some (tm, hh, m) ∧ obs = l ++ m := by
  unfold RP.add at e
  split at e
  · cases e; exact ⟨_, rfl, rfl⟩
  · cases e
mutual
theorem AV.beq_refl : ∀ a : AV, AV.beq a a = true
  | .any | .one | .nilp | .nils | .emp | .nilm | .nilf | .nili => by simp [AV.beq]
  | .bool _ | .int _ _ | .str _ => by simp [AV.beq]
  | .ptr _ _ | .sl _ _ _ _ | .map _ | .yield _ | .osl _ _ _ => by simp [AV.beq]
  | .fn _ a b => by simp [AV.beq, AV.beqL_refl a, AV.beqL_refl b]
  | .iface _ v => by simp [AV.beq, AV.beq_refl v]
  | .agg l => by simp [AV.beq, AV.beqL_refl l]
  | .tup l => by simp [AV.beq, AV.beqL_refl l]
theorem AV.beqL_refl : ∀ l : List AV, AV.beqL l l = true
  | [] => by simp [AV.beqL]
  | a :: l => by simp [AV.beqL, AV.beq_refl a, AV.beqL_refl l]
end
theorem atHeap_of {q : DQ} (e : quietOp q.op E q.tm h = some q.v) : atHeap E q h = true := by unfold atHeap; rw [e]; exact AV.beq_refl _
theorem quietP_ok {b : Array Nat} {q : DQ} : ∀ (l : List (Nat × AH)), (∀ p ∈ quietP E b q l, p) → quietOkL E b q l = true
  | [], _ => rfl
  | p :: l, H => by
    unfold quietP at H
    unfold quietOkL
    cases hc : ((b.getD p.1 0).testBit q.i || l.any fun x => (b.getD q.i 0).testBit x.1) with
    | true => rw [hc] at H; simp only [cond_true] at H ⊢; exact quietP_ok l H
    | false =>
      rw [hc] at H; simp only [cond_false] at H ⊢
      rw [atHeap_of (H _ (List.mem_cons_self ..)), quietP_ok l fun p hp => H p (List.mem_cons_of_mem _ hp)]; rfl
theorem quietsP_ok {b : Array Nat} {hs : List (Nat × AH)} {h0 : AH} : ∀ (qs : List DQ), (∀ p ∈ quietsP E b hs h0 qs, p) → qs.all (quietOk E b hs h0) = true
  | [], _ => rfl
  | q :: qs, H => by
    unfold quietsP at H
    simp only [List.all_cons]
    cases hc : (hs.any fun p => (b.getD q.i 0).testBit p.1) with
    | true =>
      rw [hc] at H; simp only [cond_true] at H
      rw [quietsP_ok qs fun p hp => H p (List.mem_append_right _ hp)]
      unfold quietOk; rw [hc, quietP_ok hs fun p hp => H p (List.mem_append_left _ hp)]; rfl
    | false =>
      rw [hc] at H; simp only [cond_false] at H
      rw [quietsP_ok qs fun p hp => H p (List.mem_cons_of_mem _ (List.mem_append_right _ hp))]
      unfold quietOk; rw [hc, quietP_ok hs fun p hp => H p (List.mem_cons_of_mem _ (List.mem_append_left _ hp)), cond_false, atHeap_of (H _ (List.mem_cons_self ..))]; rfl
theorem loudD_none {r : Outs} {o : Option OR} {p : AV × AH} (e : loudD E ⟨fun _ _ _ => none, fun _ _ _ => none⟩ h o = some p) : loudD E r h o = some p := by
  unfold loudD at e ⊢
  split at e
  · exact e
  · split at e
    · cases e
    · exact e
    · cases e
  · cases e
  · cases e
theorem runP_ok {x : AX} {b : Array Nat} {ops : Array Oper} {h0 : AH} (L : List DA) : ∀ (as : List DA) (os : List Oper) (i : Nat) (tm : Tr AV) (qs : List DQ) (hs : List (Nat × AH)) (ps : List (Nat × Nat × AO)) (h : AH) (tm' : Tr AV) (h' : AH) (obs : List Prop),
    (∀ j a, as[j]? = some a → L[i + j]? = some a) → runP P E x b ops h0 as os i tm qs hs ps h = some (tm', h', obs) → (∀ p ∈ obs, p) → runD E (rOf P E L) x b ops h0 os i tm qs hs ps h = some (tm', h') := by
  intro as os
  induction os generalizing as with
  | nil =>
    intro i tm qs hs ps h tm' h' obs hL e H
    have e : cond (chainOk b hs.reverse) (some (tm, putAll ps h, quietsP E b hs.reverse h0 qs)) none = some (tm', h', obs) := by
      cases as <;> exact e
    cases hc : chainOk b hs.reverse with
    | false => rw [hc] at e; cases e
    | true =>
      rw [hc] at e; cases e
      unfold runD
      rw [hc, quietsP_ok qs H]; rfl
  | cons o os ih =>
    intro i tm qs hs ps h tm' h' obs hL e H
    cases as with
    | nil => cases e
    | cons a as =>
      have hL' : ∀ j a, as[j]? = some a → L[Nat.succ i + j]? = some a := fun j a hj => by
        have := hL (j + 1) a (by simpa using hj); rw [← this]; congr 1; omega
      have hLi : L[i]? = some a := by have := hL 0 a rfl; simpa using this
      unfold runD
      cases a with
      | s =>
        obtain ⟨m, e1, rfl⟩ := RP.add_inv (r := runP P E x b ops h0 as os (Nat.succ i) (fin x o.dst undefA tm) qs hs ps h) e
        have hw : wantedA o ops tm = some false := H _ (by simp)
        rw [hw]
        exact ih as _ _ _ _ _ _ _ _ _ hL' e1 fun p hp => H p (by simp [hp])
      | v v =>
        unfold runP at e
        cases hf : freshKind o.op with
        | true => rw [hf] at e; cases e
        | false =>
          rw [hf] at e; simp only [cond_false] at e
          obtain ⟨m, e1, rfl⟩ := RP.add_inv e
          have hw : wantedA o ops tm = some true := H _ (by simp)
          have hq : quietOp o.op E tm h = some v := H _ (by simp)
          rw [hw, hq]; simp only [cond_false]
          exact ih as _ _ _ _ _ _ _ _ _ hL' e1 fun p hp => H p (by simp [hp])
      | l v h1 =>
        unfold runP at e
        cases hf : freshKind o.op with
        | true => rw [hf] at e; cases e
        | false =>
          rw [hf] at e; simp only [cond_false] at e
          cases hwk : wake (b.getD i 0) ps h with
          | mk hw0 ps0 =>
          rw [hwk] at e; simp only at e
          obtain ⟨m, e1, rfl⟩ := RP.add_inv e
          have hw : wantedA o ops tm = some true := H _ (by simp)
          have hq : quietOp o.op E tm h = none := H _ (by simp)
          have hl : loudOp o.op E tm hw0 = some (.val v h1) := H _ (by simp)
          rw [hw, hq]; simp only [cond_false, hwk, hl, loudD]
          exact ih as _ _ _ _ _ _ _ _ _ hL' e1 fun p hp => H p (by simp [hp])
      | k v h1 =>
        unfold runP at e
        cases hf : freshKind o.op with
        | true => rw [hf] at e; cases e
        | false =>
          rw [hf] at e; simp only [cond_false] at e
          split at e
          · rename_i hw hq
            cases hwk : wake (b.getD i 0) ps h with
            | mk hw0 ps0 =>
            rw [hwk] at e; simp only at e
            split at e
            · rename_i g args hl
              split at e
              · rename_i c n rs ex hg
                obtain ⟨m, e1, rfl⟩ := RP.add_inv e
                have hs' : DoesC P E g args hw0 v h1 := H _ (by simp)
                rw [hw, hq]; simp only [cond_false, hwk, hl, loudD, hg]
                have : (rOf P E L i).call g args hw0 = some (v, h1) := by
                  simp only [rOf, hLi]; rw [if_pos hs']
                rw [this]
                exact ih as _ _ _ _ _ _ _ _ _ hL' e1 fun p hp => H p (by simp [hp])
              · cases e
            · cases e
          · cases e
      | c =>
        unfold runP at e
        simp only at e
        cases hw : wantedA o ops tm with
        | none => rw [hw] at e; cases e
        | some wb =>
          cases wb with
          | false => rw [hw] at e; exact ih as _ _ _ _ _ _ _ _ _ hL' e H
          | true =>
            rw [hw] at e
            simp only at e ⊢
            cases hf : freshKind o.op with
            | true =>
              rw [hf] at e; simp only [cond_true] at e ⊢
              split at e
              · rename_i v1 h1 hl
                rw [hl]
                cases hb : Nat.blt h.nx 1000000 with
                | false => rw [hb] at e; cases e
                | true => rw [hb] at e; simp only [hb, cond_true] at e ⊢; exact ih as _ _ _ _ _ _ _ _ _ hL' e H
              · cases e
            | false =>
              rw [hf] at e; simp only [cond_false] at e ⊢
              split at e
              · rename_i v1 hq
                rw [hq]; exact ih as _ _ _ _ _ _ _ _ _ hL' e H
              · rename_i hq
                rw [hq]
                cases hwk : wake (b.getD i 0) ps h with
                | mk hw0 ps0 =>
                rw [hwk] at e; simp only at e ⊢
                split at e
                · rename_i p hp
                  rw [loudD_none hp]; exact ih as _ _ _ _ _ _ _ _ _ hL' e H
                · cases e
theorem stepP_ok (F : Fits P E) (FF : FitsF P E) {a : Ans} {obs : List Prop} (e : stepP P E a f h = some (f', h1, obs)) (H : ∀ p ∈ obs, p) : DoesS P E f h f' h1 := by
  cases a with
  | n k =>
    simp only [stepP] at e
    split at e
    · rename_i hg; cases e; exact goN_ok F FF _ _ _ hg
    · cases e
  | br b =>
    simp only [stepP] at e
    split at e
    · rename_i x tm c p q k ds
      cases e
      have hb : ev tm c = .bool b := H _ (by simp)
      refine DoesS.go F FF (f' := ⟨x, tm, .code (cond b p q) :: k, ds, false⟩) (h1 := h) ?_
      show (match ev tm c with | .bool t => some (A1.go ⟨x, tm, .code (cond t p q) :: k, ds, false⟩ h) | _ => none) = _
      rw [hb]
    · cases e
  | s =>
    simp only [stepP] at e
    split at e
    · rename_i x tm ops o rest k ds
      cases e
      have hw : wantedA o ops tm = some false := H _ (by simp)
      refine DoesS.go F FF (f' := ⟨x, fin x o.dst undefA tm, inR ops rest k, ds, false⟩) (h1 := h) ?_
      show regionA E x tm ds h k ops o rest = _
      unfold regionA; rw [hw]
    · cases e
  | v w =>
    simp only [stepP] at e
    split at e
    · rename_i x tm ops o rest k ds
      cases e
      have hw : wantedA o ops tm = some true := H _ (by simp)
      have hq : quietOp o.op E tm h = some w := H _ (by simp)
      refine DoesS.go F FF (f' := ⟨x, fin x o.dst w tm, inR ops rest k, ds, false⟩) (h1 := h) ?_
      show regionA E x tm ds h k ops o rest = _
      unfold regionA; rw [hw]; simp only; unfold opA; rw [hq]
    · cases e
  | l w h2 =>
    simp only [stepP] at e
    split at e
    · rename_i x tm ops o rest k ds
      cases e
      have hw : wantedA o ops tm = some true := H _ (by simp)
      have hq : quietOp o.op E tm h = none := H _ (by simp)
      have hl : loudOp o.op E tm h = some (.val w h1) := H _ (by simp)
      refine DoesS.go F FF (f' := ⟨x, fin x o.dst w tm, inR ops rest k, ds, false⟩) (h1 := h1) ?_
      show regionA E x tm ds h k ops o rest = _
      unfold regionA; rw [hw]; simp only; unfold opA; rw [hq, hl]; rfl
    · cases e
  | k w h2 =>
    simp only [stepP] at e
    split at e
    · rename_i hs
      cases e
      exact DoesS.call F FF hs (H _ (by simp))
    · cases e
  | d l =>
    simp only [stepP] at e
    split at e
    · rename_i x tm ops k ds h2 hs
      cases hb : regOk ops.toList (Region.before ops) ops with
      | false => rw [hb] at e; cases e
      | true =>
        rw [hb] at e; simp only [cond_true] at e
        split at e
        · rename_i tm' h3 ob hr
          cases e
          exact DoesS.drawn F FF hs hb (rOf_ok l) (rOf_up l) (runP_ok l l _ _ _ _ _ _ _ _ _ _ (fun j a hj => by simpa using hj) hr H)
        · cases e
    · cases e
theorem path_ok (F : Fits P E) (FF : FitsF P E) : ∀ (l : List Ans) (f : AF) (h : AH) {f' : AF} {h1 : AH} {obs : List Prop}, pathP P E l f h = some (f', h1, obs) → All obs → DoesS P E f h f' h1 := by
  intro l
  induction l with
  | nil => intro f h f' h1 obs e _; cases e; exact DoesS.refl _ _
  | cons a l ih =>
    intro f h f' h1 obs e H
    unfold pathP at e
    split at e
    · rename_i f2 h2 o1 he
      split at e
      · rename_i f3 h3 o2 he2
        cases e
        have hm := All.mem H
        refine (stepP_ok F FF he (fun p hp => hm p (List.mem_append_left _ hp))).trans (ih _ _ he2 ?_)
        have : ∀ (l : List Prop), (∀ p ∈ l, p) → All l := by
          intro l
          induction l with
          | nil => intro _; trivial
          | cons p l ih =>
            intro hl
            cases l with
            | nil => exact hl p (by simp)
            | cons q l => exact ⟨hl p (by simp), ih fun r hr => hl r (List.mem_cons_of_mem _ hr)⟩
        exact this o2 fun p hp => hm p (List.mem_append_right _ hp)
      · cases e
    · cases e
end
end Go.Ev
namespace Go.Ev
open Go.Conc (G)
mutual
def AV.ren (ρ : Nat → Nat) : AV → AV
  | .ptr i o => .ptr (ρ i) o
  | .sl i o l c => .sl (ρ i) o l c
  | .map i => .map (ρ i)
  | .yield i => .yield (ρ i)
  | .fn f l m => .fn f (AV.renL ρ l) (AV.renL ρ m)
  | .iface t v => .iface t (AV.ren ρ v)
  | .agg l => .agg (AV.renL ρ l)
  | .tup l => .tup (AV.renL ρ l)
  | v => v
def AV.renL (ρ : Nat → Nat) : List AV → List AV
  | [] => []
  | v :: l => AV.ren ρ v :: AV.renL ρ l
end
def AO.ren (ρ : Nat → Nat) : AO → AO
  | .dead => .dead
  | .cells vs e g z => .cells (AV.renL ρ vs) e g z
  | .map es c => .map (es.map fun e => ⟨e.key.ren ρ, e.val.ren ρ, e.born⟩) c
  | .mit m s l p => .mit (match m with | some i => some (ρ i) | none => none) s l p
  | .sit s p => .sit s p
  | .loop st p fn nt tm ps x y d => .loop st p fn nt (mapT (AV.ren ρ) tm) ps x y (ρ d)
  | .dfr z => .dfr z
mutual
def AV.low (n : Nat) : AV → Bool
  | .ptr i _ | .sl i _ _ _ | .map i | .yield i => Nat.blt i n || Nat.ble OLD i
  | .fn _ a b => AV.lowL n a && AV.lowL n b
  | .iface _ v => AV.low n v
  | .agg l | .tup l => AV.lowL n l
  | _ => true
def AV.lowL (n : Nat) : List AV → Bool
  | [] => true
  | a :: l => AV.low n a && AV.lowL n l
end
def trLow (n : Nat) : Tr AV → Bool
  | .e => true
  | .n l v r => trLow n l && (match v with | some a => AV.low n a | none => true) && trLow n r
def lowI (n i : Nat) : Bool := Nat.blt i n || Nat.ble OLD i
def AO.low (n : Nat) : AO → Bool
  | .cells vs _ _ _ => AV.lowL n vs
  | .map es _ => es.all fun e => e.key.low n && e.val.low n
  | .mit (some m) _ _ _ => lowI n m
  | .loop _ _ _ _ tm _ _ _ d => trLow n tm && lowI n d
  | _ => true
def heapLow (n : Nat) : Tr AO → Bool
  | .e => true
  | .n l v r => heapLow n l && (match v with | some o => AO.low n o | none => true) && heapLow n r
def Lows (n : Nat) (ρ : Nat → Nat) (ι ι0 : Nm) : Prop := ∀ i p, (i < n ∨ OLD ≤ i) → ι (ρ i) = some p → ι0 i = some p
section
variable {n : Nat} {ρ : Nat → Nat} {ι ι0 : Nm}
theorem lowI_iff {n i : Nat} (h : (Nat.blt i n || Nat.ble OLD i) = true) : i < n ∨ OLD ≤ i := by
  simp only [Bool.or_eq_true] at h
  exact h.imp (fun h => by rwa [Nat.blt_eq] at h) Nat.le_of_ble_eq_true
mutual
theorem RV.unren (H : Lows n ρ ι ι0) : ∀ {x : AV} {v : Value}, x.low n = true → RV ι (x.ren ρ) v → RV ι0 x v
  | .any, _, _, _ => by unfold RV; trivial
  | .one, _, _, h | .bool _, _, _, h | .int _ _, _, _, h | .str _, _, _, h | .nilp, _, _, h | .nils, _, _, h | .emp, _, _, h | .nilm, _, _, h | .nilf, _, _, h | .nili, _, _, h | .osl _ _ _, _, _, h => by
    unfold AV.ren at h; unfold RV at h ⊢; exact h
  | .ptr i o, v, hl, h => by
    unfold AV.ren at h; unfold RV at h ⊢; obtain ⟨p, hi, e⟩ := h; exact ⟨p, H i p (lowI_iff hl) hi, e⟩
  | .sl i o l c, v, hl, h => by
    unfold AV.ren at h; unfold RV at h ⊢; obtain ⟨p, hi, e⟩ := h; exact ⟨p, H i p (lowI_iff hl) hi, e⟩
  | .map i, v, hl, h => by
    unfold AV.ren at h; unfold RV at h ⊢; obtain ⟨p, hi, e⟩ := h; exact ⟨p, H i p (lowI_iff hl) hi, e⟩
  | .yield i, v, hl, h => by
    unfold AV.ren at h; unfold RV at h ⊢; obtain ⟨p, hi, e⟩ := h; exact ⟨p, H i p (lowI_iff hl) hi, e⟩
  | .fn f l m, v, hl, h => by
    unfold AV.low at hl; simp only [Bool.and_eq_true] at hl
    unfold AV.ren at h; unfold RV at h ⊢; obtain ⟨as, bs, e, h1, h2⟩ := h; exact ⟨as, bs, e, RVs.unren H hl.1 h1, RVs.unren H hl.2 h2⟩
  | .iface t x, v, hl, h => by
    unfold AV.low at hl
    unfold AV.ren at h; unfold RV at h ⊢; obtain ⟨y, e, h1⟩ := h; exact ⟨y, e, RV.unren H hl h1⟩
  | .agg l, v, hl, h => by
    unfold AV.low at hl
    unfold AV.ren at h; unfold RV at h ⊢; obtain ⟨y, e, h1⟩ := h; exact ⟨y, e, RVs.unren H hl h1⟩
  | .tup l, v, hl, h => by
    unfold AV.low at hl
    unfold AV.ren at h; unfold RV at h ⊢; obtain ⟨y, e, h1⟩ := h; exact ⟨y, e, RVs.unren H hl h1⟩
theorem RVs.unren (H : Lows n ρ ι ι0) : ∀ {l : List AV} {vs : List Value}, AV.lowL n l = true → RVs ι (AV.renL ρ l) vs → RVs ι0 l vs
  | [], _, _, h => by unfold AV.renL at h; rw [RVs_nil_inv h]; exact RVs_nil
  | x :: l, _, hl, h => by
    unfold AV.lowL at hl; simp only [Bool.and_eq_true] at hl
    unfold AV.renL at h
    obtain ⟨v, r, rfl, h1, h2⟩ := RVs_cons_inv h
    exact RVs_cons (RV.unren H hl.1 h1) (RVs.unren H hl.2 h2)
end
def Ups (ρ : Nat → Nat) (ι0 ι : Nm) : Prop := ∀ i p, ι0 i = some p → ι (ρ i) = some p
mutual
theorem RV.ren (H : Ups ρ ι0 ι) : ∀ {x : AV} {v : Value}, RV ι0 x v → RV ι (x.ren ρ) v
  | .any, _, _ => by unfold AV.ren RV; trivial
  | .one, _, h | .bool _, _, h | .int _ _, _, h | .str _, _, h | .nilp, _, h | .nils, _, h | .emp, _, h | .nilm, _, h | .nilf, _, h | .nili, _, h | .osl _ _ _, _, h => by
    unfold AV.ren; unfold RV at h ⊢; exact h
  | .ptr i o, v, h => by
    unfold AV.ren; unfold RV at h ⊢; obtain ⟨p, hi, e⟩ := h; exact ⟨p, H i p hi, e⟩
  | .sl i o l c, v, h => by
    unfold AV.ren; unfold RV at h ⊢; obtain ⟨p, hi, e⟩ := h; exact ⟨p, H i p hi, e⟩
  | .map i, v, h => by
    unfold AV.ren; unfold RV at h ⊢; obtain ⟨p, hi, e⟩ := h; exact ⟨p, H i p hi, e⟩
  | .yield i, v, h => by
    unfold AV.ren; unfold RV at h ⊢; obtain ⟨p, hi, e⟩ := h; exact ⟨p, H i p hi, e⟩
  | .fn f l m, v, h => by
    unfold AV.ren; unfold RV at h ⊢; obtain ⟨as, bs, e, h1, h2⟩ := h; exact ⟨as, bs, e, RVs.ren H h1, RVs.ren H h2⟩
  | .iface t x, v, h => by
    unfold AV.ren; unfold RV at h ⊢; obtain ⟨y, e, h1⟩ := h; exact ⟨y, e, RV.ren H h1⟩
  | .agg l, v, h => by
    unfold AV.ren; unfold RV at h ⊢; obtain ⟨y, e, h1⟩ := h; exact ⟨y, e, RVs.ren H h1⟩
  | .tup l, v, h => by
    unfold AV.ren; unfold RV at h ⊢; obtain ⟨y, e, h1⟩ := h; exact ⟨y, e, RVs.ren H h1⟩
theorem RVs.ren (H : Ups ρ ι0 ι) : ∀ {l : List AV} {vs : List Value}, RVs ι0 l vs → RVs ι (AV.renL ρ l) vs
  | [], _, h => by unfold AV.renL; rw [RVs_nil_inv h]; exact RVs_nil
  | x :: l, _, h => by
    obtain ⟨v, r, rfl, h1, h2⟩ := RVs_cons_inv h
    unfold AV.renL
    exact RVs_cons (RV.ren H h1) (RVs.ren H h2)
end
theorem renL_length (ρ : Nat → Nat) : ∀ l : List AV, (AV.renL ρ l).length = l.length
  | [] => by unfold AV.renL; rfl
  | x :: l => by unfold AV.renL; simp [renL_length ρ l]
theorem trLow_get : ∀ {t : Tr AV}, trLow n t = true → ∀ {i : Nat} {a : AV}, t.get i = some a → a.low n = true
  | .e, _, i, a, e => by rw [Tr.get_e] at e; cases e
  | .n l v r, h, i, a, e => by
    unfold trLow at h
    simp only [Bool.and_eq_true] at h
    rw [Tr.get_n] at e
    split at e
    · subst e; exact h.1.2
    · split at e
      · exact trLow_get h.1.1 e
      · exact trLow_get h.2 e
theorem heapLow_get : ∀ {t : Tr AO}, heapLow n t = true → ∀ {i : Nat} {o : AO}, t.get i = some o → o.low n = true
  | .e, _, i, a, e => by rw [Tr.get_e] at e; cases e
  | .n l v r, h, i, a, e => by
    unfold heapLow at h
    simp only [Bool.and_eq_true] at h
    rw [Tr.get_n] at e
    split at e
    · subst e; exact h.1.2
    · split at e
      · exact heapLow_get h.1.1 e
      · exact heapLow_get h.2 e
theorem RT.unren (H : Lows n ρ ι ι0) {nt : Nat} {tm : Tr AV} {tmps : Array Value} (hl : trLow n tm = true) (h : RT ι nt (mapT (AV.ren ρ) tm) tmps) : RT ι0 nt tm tmps := by
  refine ⟨h.1, fun t x ht => ?_⟩
  exact RV.unren H (trLow_get hl ht) (h.2 t (x.ren ρ) (by rw [mapT_get, ht]; rfl))
theorem RT.ren (H : Ups ρ ι0 ι) {nt : Nat} {tm : Tr AV} {tmps : Array Value} (h : RT ι0 nt tm tmps) : RT ι nt (mapT (AV.ren ρ) tm) tmps := by
  refine ⟨h.1, fun t x ht => ?_⟩
  rw [mapT_get] at ht
  obtain ⟨y, hy, rfl⟩ := Option.map_eq_some_iff.1 ht
  exact (h.2 t y hy).ren H
theorem REs.unren (H : Lows n ρ ι ι0) {l : List AE} {es : List MapEntry} (hl : (l.all fun e => e.key.low n && e.val.low n) = true) (h : REs ι (l.map fun e => ⟨e.key.ren ρ, e.val.ren ρ, e.born⟩) es) : REs ι0 l es := by
  induction l generalizing es with
  | nil => exact h
  | cons x l ih =>
    simp only [List.all_cons, Bool.and_eq_true] at hl
    obtain ⟨e, r, rfl, h1, h2, h3, h4⟩ := h
    exact ⟨e, r, rfl, RV.unren H hl.1.1 h1, RV.unren H hl.1.2 h2, h3, ih (by simpa using hl.2) h4⟩
theorem REs.ren (H : Ups ρ ι0 ι) {l : List AE} {es : List MapEntry} (h : REs ι0 l es) : REs ι (l.map fun e => ⟨e.key.ren ρ, e.val.ren ρ, e.born⟩) es := by
  induction l generalizing es with
  | nil => exact h
  | cons x l ih =>
    obtain ⟨e, r, rfl, h1, h2, h3, h4⟩ := h
    exact ⟨e, r, rfl, h1.ren H, h2.ren H, h3, ih h4⟩
theorem AO.ren_live {o : AO} : (o.ren ρ).live ↔ o.live := by cases o <;> exact Iff.rfl
theorem RO.unren {P : Program} {cap : Nat} (H : Lows n ρ ι ι0) {o : AO} {ob : Obj} (hl : o.low n = true) (h : RO P ι cap (o.ren ρ) ob) : RO P ι0 cap o ob := by
  cases o with
  | dead => trivial
  | cells vs el g fz =>
    obtain ⟨c, lo, hi', e, ⟨l1, l2, e2, hv⟩, h1, h2, h3⟩ := h
    exact ⟨c, lo, hi', e, ⟨l1, l2, e2, hv.unren H hl⟩, fun hg => by have := h1 hg; rwa [renL_length] at this, h2, h3⟩
  | map es ck => obtain ⟨es', e, h1⟩ := h; exact ⟨es', e, h1.unren H hl⟩
  | mit m s seen st =>
    obtain ⟨x, h1, h2, e⟩ := h
    refine ⟨x, fun j hj => ?_, fun hm => ?_, e⟩
    · subst hj
      obtain ⟨p, hp, hb⟩ := h1 (ρ j) rfl
      exact ⟨p, H j p (lowI_iff hl) hp, hb⟩
    · subst hm; exact h2 rfl
  | sit s p => exact h
  | loop st pd fn nt tm ps x y d =>
    obtain ⟨q, hd, L, e, h1, h2, h3, h4, h5, h6, h7, h8⟩ := h
    unfold AO.low at hl
    simp only [Bool.and_eq_true] at hl
    exact ⟨q, H d q (lowI_iff hl.2) hd, L, e, h1, h2, h3, h4.unren H hl.1, h5, h6, h7, h8⟩
  | dfr z => exact h
theorem RO.ren {P : Program} {cap : Nat} (H : Ups ρ ι0 ι) {o : AO} {ob : Obj} (h : RO P ι0 cap o ob) : RO P ι cap (o.ren ρ) ob := by
  cases o with
  | dead => trivial
  | cells vs el g fz =>
    obtain ⟨c, lo, hi', e, ⟨l1, l2, e2, hv⟩, h1, h2, h3⟩ := h
    exact ⟨c, lo, hi', e, ⟨l1, l2, e2, hv.ren H⟩, fun hg => by rw [renL_length]; exact h1 hg, h2, h3⟩
  | map es ck => obtain ⟨es', e, h1⟩ := h; exact ⟨es', e, h1.ren H⟩
  | mit m s seen st =>
    obtain ⟨x, h1, h2, e⟩ := h
    refine ⟨x, fun j hj => ?_, fun hm => ?_, e⟩
    · cases m with
      | none => cases hj
      | some i => cases hj; obtain ⟨p, hp, hb⟩ := h1 i rfl; exact ⟨p, H i p hp, hb⟩
    · cases m with
      | none => exact h2 rfl
      | some i => cases hm
  | sit s p => exact h
  | loop st pd fn nt tm ps x y d =>
    obtain ⟨q, hd, L, e, h1, h2, h3, h4, h5, h6, h7, h8⟩ := h
    exact ⟨q, H d q hd, L, e, h1, h2, h3, h4.ren H, h5, h6, h7, h8⟩
  | dfr z => exact h
end
structure Lies (ρ : Nat → Nat) (h0 h0' h h' : AH) : Prop where
  le0 : h0.nx ≤ h0'.nx
  top : h0'.nx ≤ OLD
  top' : h'.nx ≤ OLD
  inj : ∀ i j, i < h0'.nx → j < h0'.nx → ρ i = ρ j → i = j
  low : ∀ i, i < h0.nx → ρ i < h.nx
  new : ∀ i, h0.nx ≤ i → i < h0'.nx → h.nx ≤ ρ i ∧ ρ i < h'.nx
  old : ∀ i, OLD ≤ i → ρ i = i
  le : h.nx ≤ h'.nx
  names : ∀ i o, h0.tr.get i = some o → o.live → i < h0.nx
  names' : ∀ i o, h0'.tr.get i = some o → o.live → i < h0'.nx
  before : ∀ i o, h0.tr.get i = some o → o.live → h.tr.get (ρ i) = some (o.ren ρ)
  behind : ∀ i o, h'.tr.get i = some o → o.live → (∃ j o0, h0'.tr.get j = some o0 ∧ i = ρ j ∧ o = o0.ren ρ) ∨ (h.tr.get i = some o ∧ ∀ j o0, h0.tr.get j = some o0 → o0.live → i ≠ ρ j)
  df : h0.df = h.df
  df' : h0'.df = h'.df
  lows : heapLow h0.nx h0.tr = true
theorem DoesC.frame {P : Program} {E : Env} {g : FuncId} {args0 : List AV} {h0 : AH} {v0 : AV} {h0' : AH} (C : DoesC P E g args0 h0 v0 h0') {ρ : Nat → Nat} {h h' : AH} (L : Lies ρ h0 h0' h h') (ha : AV.lowL h0.nx args0 = true) :
    DoesC P E g (AV.renL ρ args0) h (v0.ren ρ) h' := by
  refine ⟨L.le, fun K ι w vs c rest hP S hargs hc hf => ?_⟩
  let ι0 : Nm := fun i => if i < h0.nx ∨ OLD ≤ i then ι (ρ i) else none
  have hι0 : ∀ i, (i < h0.nx ∨ OLD ≤ i) → ι0 i = ι (ρ i) := fun i hi => if_pos hi
  have hι0n : ∀ i, ¬ (i < h0.nx ∨ OLD ≤ i) → ι0 i = none := fun i hi => if_neg hi
  have hLow : Lows h0.nx ρ ι ι0 := fun i p hi hp => by rw [hι0 i hi]; exact hp
  have hUp : Ups ρ ι0 ι := fun i p hi => by
    by_cases hc : i < h0.nx ∨ OLD ≤ i
    · rw [hι0 i hc] at hi; exact hi
    · rw [hι0n i hc] at hi; cases hi
  have SM : SatM K ι (fun i o => h.tr.get i = some o) w := S.toM fun _ _ h _ => h
  let X : Nat → Prop := fun i => ¬ ∃ j o0, h0.tr.get j = some o0 ∧ o0.live ∧ i = ρ j
  let K0 := Ctx.less K ι (fun i o => h.tr.get i = some o) X w SM.lo SM.lt
  have hsub : Sub K0 K := less_sub
  have S0 : Sat K0 ι0 h0 w := by
    refine ⟨fun i o hi hl => ?_, fun i j o o' p q e1 e2 l1 l2 hp hq hpq => ?_, Nat.le_refl _, S.bs, S.old, S.os, S.tape, S.output, fun hk i p hi => ?_⟩
    · have hlt := L.names i o hi hl
      obtain ⟨p, ob, e1, e2, e3, e4, e5⟩ := S.objs (ρ i) (o.ren ρ) (L.before i o hi hl) (AO.ren_live.2 hl)
      refine ⟨p, ob, by rw [hι0 i (.inl hlt)]; exact e1, e2, ⟨e3, fun ⟨j, o', q, hx, hm, hl', hq, hqp⟩ => ?_⟩, e4, RO.unren hLow (heapLow_get L.lows hi) e5⟩
      have : ρ i = j := S.inj (ρ i) j _ o' p q (L.before i o hi hl) hm (AO.ren_live.2 hl) hl' e1 hq hqp.symm
      exact hx ⟨i, o, hi, hl, this.symm⟩
    · have h1 := L.names i o e1 l1
      have h2 := L.names j o' e2 l2
      rw [hι0 i (.inl h1)] at hp
      rw [hι0 j (.inl h2)] at hq
      have := S.inj (ρ i) (ρ j) _ _ p q (L.before i o e1 l1) (L.before j o' e2 l2) (AO.ren_live.2 l1) (AO.ren_live.2 l2) hp hq hpq
      exact L.inj i j (by have := L.le0; omega) (by have := L.le0; omega) this
    · have hi' : OLD ≤ i := by
        unfold oldNm at hi
        rcases Nat.lt_or_ge i OLD with h1 | h1
        · rw [if_neg (by omega)] at hi; cases hi
        · exact h1
      rw [hι0 i (.inr hi'), L.old i hi']; exact S.oldn hk i p hi
  have hP0 : Of K0 P E := ⟨hP.P, hP.mem, hP.pk⟩
  have hargs0 : RVs ι0 args0 vs.toList := RVs.unren hLow ha hargs
  have hf0 : Free ι0 h0.nx h0'.nx := fun i h1 h2 => hι0n i (fun hx => by have := L.top; omega)
  have W := C.2 K0 ι0 w vs c rest hP0 S0 hargs0 hc hf0
  rw [← L.df]
  refine W.frame hsub (Kept.refl _ _ _) ?_
  rintro d' g' w' hkept ⟨ι0', u, rfl, hg, hS, hv, rfl⟩
  let inv : Nat → Option Nat := fun i => (List.range h0'.nx).find? fun j => decide (h0.nx ≤ j ∧ ρ j = i)
  have hinv : ∀ j, h0.nx ≤ j → j < h0'.nx → inv (ρ j) = some j := by
    intro j h1 h2
    show (List.range h0'.nx).find? _ = some j
    cases hfi : (List.range h0'.nx).find? (fun k => decide (h0.nx ≤ k ∧ ρ k = ρ j)) with
    | none =>
      have := List.find?_eq_none.1 hfi j (List.mem_range.2 h2)
      simp [h1] at this
    | some k =>
      have h3 := List.find?_some hfi
      have h4 := List.mem_range.1 (List.mem_of_find?_eq_some hfi)
      simp at h3
      rw [L.inj k j h4 h2 h3.2]
  let ι' : Nm := fun i => if h.nx ≤ i ∧ i < h'.nx then (match inv i with | some j => ι0' j | none => none) else ι i
  have hι'1 : ∀ i, ¬ (h.nx ≤ i ∧ i < h'.nx) → ι' i = ι i := fun i hi => if_neg hi
  have hι'2 : ∀ j, h0.nx ≤ j → j < h0'.nx → ι' (ρ j) = ι0' j := fun j h1 h2 => by
    show (if h.nx ≤ ρ j ∧ ρ j < h'.nx then _ else _) = _
    rw [if_pos (L.new j h1 h2), hinv j h1 h2]
  have hE : Ext ι ι' := fun i p hi => by
    by_cases hc : h.nx ≤ i ∧ i < h'.nx
    · rw [hf i hc.1 hc.2] at hi; cases hi
    · rw [hι'1 i hc]; exact hi
  have hUp' : Ups ρ ι0' ι' := fun i p hi => by
    rcases Nat.lt_or_ge i h0.nx with h1 | h1
    · rw [hg.same i (.inl h1), hι0 i (.inl h1)] at hi
      rw [hι'1 (ρ i) (by have := L.low i h1; omega)]; exact hi
    · rcases Nat.lt_or_ge i h0'.nx with h2 | h2
      · rw [hι'2 i h1 h2]; exact hi
      · rw [hg.same i (.inr h2)] at hi
        by_cases hc : i < h0.nx ∨ OLD ≤ i
        · rw [hι0 i hc] at hi
          have h3 : OLD ≤ i := by omega
          rw [L.old i h3] at hi ⊢
          rw [hι'1 i (by have := L.top'; omega)]; exact hi
        · rw [hι0n i hc] at hi; cases hi
  have old : ∀ i o, h.tr.get i = some o → X i → o.live → ∃ p ob, ι i = some p ∧ K.base ≤ p.1 ∧ K.own p.1 ∧ w'.heap[p.1]? = some ob ∧ RO K.P ι p.2 o ob ∧ ¬ K0.own p.1 := by
    intro i o h1 h2 hl
    obtain ⟨p, ob, e1, e2, e3, e4, e5⟩ := S.objs i o h1 hl
    have hn : ¬ K0.own p.1 := fun hx => hx.2 ⟨i, o, p, h2, h1, hl, e1, rfl⟩
    exact ⟨p, ob, e1, e2, e3, (hkept.same p.1 (lt_of_heap e4) e2 e3 hn).trans e4, e5, hn⟩
  have new : ∀ j o0, h0'.tr.get j = some o0 → o0.live → ∃ p ob, ι0' j = some p ∧ ι' (ρ j) = some p ∧ K.base ≤ p.1 ∧ K0.own p.1 ∧ w'.heap[p.1]? = some ob ∧ RO K.P ι' p.2 (o0.ren ρ) ob := by
    intro j o0 h1 hl
    obtain ⟨p, ob, e1, e2, e3, e4, e5⟩ := hS.objs j o0 h1 hl
    exact ⟨p, ob, e1, hUp' j p e1, e2, e3, e4, RO.ren hUp' e5⟩
  have hX : ∀ i, (∀ j o0, h0.tr.get j = some o0 → o0.live → i ≠ ρ j) → X i := fun i hi ⟨j, o0, h1, h2, h3⟩ => hi j o0 h1 h2 h3
  refine ⟨ι', u, rfl, ⟨L.le, fun i hi => hι'1 i (by omega)⟩, ⟨fun i o hi hl => ?_, fun i j o o' p q e1 e2 l1 l2 hp hq hpq => ?_, Nat.le_trans S.lo hkept.size, hS.bs, hS.old, hS.os, hS.tape, hS.output, fun hk => (S.oldn hk).trans hE⟩, hv.ren hUp', by rw [L.df']⟩
  · rcases L.behind i o hi hl with ⟨j, o0, h1, rfl, rfl⟩ | ⟨h1, h2⟩
    · obtain ⟨p, ob, _, e2, e3, e4, e5, e6⟩ := new j o0 h1 (AO.ren_live.1 hl)
      exact ⟨p, ob, e2, e3, e4.1, e5, e6⟩
    · obtain ⟨p, ob, e1, e2, e3, e4, e5, _⟩ := old i o h1 (hX i h2) hl
      exact ⟨p, ob, hE _ _ e1, e2, e3, e4, e5.mono hE⟩
  · rcases L.behind i o e1 l1 with ⟨a, oa, g1, rfl, rfl⟩ | ⟨g1, g2⟩ <;> rcases L.behind j o' e2 l2 with ⟨b, ob, k1, rfl, rfl⟩ | ⟨k1, k2⟩
    · obtain ⟨p', _, m1, m2, _⟩ := new a oa g1 (AO.ren_live.1 l1)
      obtain ⟨q', _, m3, m4, _⟩ := new b ob k1 (AO.ren_live.1 l2)
      rw [hp] at m2; cases m2
      rw [hq] at m4; cases m4
      rw [hS.inj a b oa ob _ _ g1 k1 (AO.ren_live.1 l1) (AO.ren_live.1 l2) m1 m3 hpq]
    · obtain ⟨p', _, m1, m2, _, m5, _⟩ := new a oa g1 (AO.ren_live.1 l1)
      obtain ⟨q', _, m3, _, _, _, _, m4⟩ := old j o' k1 (hX j k2) l2
      rw [hp] at m2; cases m2
      rw [hE _ _ m3] at hq; cases hq
      exact absurd (hpq ▸ m5) m4
    · obtain ⟨p', _, m1, m2, _, m5, _⟩ := new b ob k1 (AO.ren_live.1 l2)
      obtain ⟨q', _, m3, _, _, _, _, m4⟩ := old i o g1 (hX i g2) l1
      rw [hq] at m2; cases m2
      rw [hE _ _ m3] at hp; cases hp
      exact absurd (hpq ▸ m5) m4
    · obtain ⟨p', _, m1, _⟩ := S.objs i o g1 l1
      obtain ⟨q', _, m2, _⟩ := S.objs j o' k1 l2
      rw [hE _ _ m1] at hp; cases hp
      rw [hE _ _ m2] at hq; cases hq
      exact S.inj i j o o' _ _ g1 k1 l1 l2 m1 m2 hpq
end Go.Ev
