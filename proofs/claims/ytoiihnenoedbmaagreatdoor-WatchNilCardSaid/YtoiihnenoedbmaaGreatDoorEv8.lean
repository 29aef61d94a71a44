/- A part of the proof that the law WatchNil returns true for every input (its card: YtoiihnenoedbmaaGreatDoorMyCard): EvSpawn, EvSpawn2, EvEnd, EvExtOk, EvFlat, EvFlat2, EvTab, EvTab2, EvArg. Conditions: those of the given row alone. -/
import Derived.Test.YtoiihnenoedbmaaGreatDoorEv7
import Derived.Conc.Own2
import Derived.Test.YtoiihnenoedbmaaGreatDoorEv2
import GoSem.ClaimWide
/- The go statement; the worker from its birth to 'Done'; goroutine 0 up to the other side of 'Wait'. -/
namespace Go.Ev
open Go.Conc
open Go.ConcX (WgAt wgBlock stA smA KK OfWg RCa RCd DC0 KCa Full Payload Shy DCs EvQ)
open Go.ConcN (sumTo sumTo_upd upd_same)
open Go.Conc.Lib (WgLib WgLink)

/-- The bottom of a goroutine's stack. -/
noncomputable def bot (P : Program) : Frame := { (default : Frame) with fn := P.funcs.size, defers := [], mode := .panicking [goexitEntry] }
theorem bot_calm (P : Program) : Calm (bot P) := fun e l h => by
  simp only [bot, FrameMode.panicking.injEq, List.cons.injEq] at h
  rw [← h.1]; rfl

section
variable {P : Program} {E : Env} {ι : Nm}

/-- The worker's frame, once its last deferred call is made: it only leaves. -/
theorem quits_tail (F : Fits P E) (FF : FitsF P E) {f : AF} {v : AV} (hd : f.x.deferred = true) (e : stepT E f = some (.ret v)) {fr : Frame} (R : RF ι f fr) : QuitsD P 2 0 (G fr [bot P]) := by
  obtain ⟨u, _, h2⟩ := tame_ok (main := false) (cs := [bot P]) F FF R e
  have hk : fr.kind = .deferred := by rw [R.kind, hd]; rfl
  refine QuitsD.ctl (g' := G (bot P) []) rfl (fun w => ?_) ?_
  · rw [h2 w, doReturn_back (.inr hk) (fun _ => bot_calm P), hk]; rfl
  · refine QuitsD.ctl (g' := { G (bot P) [] with status := .finished }) rfl (fun w => ?_) ⟨rfl, rfl⟩
    simp [G, stepG, unwind, bot, goexitEntry, Frame.catches]
    rfl

/-- The worker's first step. -/
theorem born_step (FF : FitsF P E) {g : FuncId} {c : Code} {n : Nat} {rs : List ResultVar} {x : EX} (hg : E.ft.get g = some ⟨some c, n, rs, x⟩) (fs as cs' : Array Value) (w : World) :
    stepG P false (born P { target := .fn (.func g) cs', args := fs ++ as }) w = .go (G (Frame.enter P g ((fs ++ as) ++ cs') .deferred) [bot P]) w #[] := by
  obtain ⟨fn, h1, h2, _, _, h5⟩ := FF.code g c n rs x hg
  have h5' : ¬ fn.name = "runtime.NumGoroutine" := by simpa using h5
  simp [born, stepG, unwind, callDeferred, invoke, callFunc, h1, h2, h5', seen, GStep.after, G, bot]

/-- In 'Done'. -/
theorem done_ok (F : Fits P E) (FF : FitsF P E) {L : WgLink} (H : WgLib P L) {K : Ctx} {h : AH} {w : World} (hP : K.P = P) (S : Sat K ι h w) {Wg : Nat} (hWg : ¬ K.own Wg) (hW : Wg < w.heap.size) {c : Nat} {vs : List AV} {el : TypeId} (hc : h.obj c = .cells vs el false false)
    {f : AF} {v : AV} (hd : f.x.deferred = true) (e : stepT E f = some (.ret v)) {fr : Frame} (R : RF ι f fr) (hm : fr.mode = .returning) : AtDone P L.tWg Wg K (G (Frame.enter P L.done #[.pointer (some ⟨Wg, 0, none⟩)] .deferred) (fr :: [bot P])) w := by
  obtain ⟨p, ob, hp, hb1, hown, hlt, hb, ca, lo, hi, rfl, ⟨l1, l2, hl, hv⟩, h1, h2, h3⟩ := S.at hc trivial
  obtain ⟨rfl, rfl⟩ := (h3 rfl).2 rfl
  have hne : p.1 ≠ Wg := fun x => hWg (x ▸ hown)
  refine ⟨rfl, ⟨el⟩, p.1, ca.toList, hne, hb1, hown, fun _ => by rw [hb, Array.toArray_toList]; rfl, fun sh Mine hK => ?_⟩
  have hD := @Go.ConcX.Gen.doneD ⟨el⟩ L P H Mine Wg p.1 w.heap.size sh ca.toList hW hlt hne fr [bot P] 2 hm (quits_tail F FF hd e R) w ⟨hK, fun _ => by rw [hb, Array.toArray_toList]; rfl⟩
  have he : Frame.enter P L.done #[.pointer (some ⟨Wg, 0, none⟩)] .deferred = (baseD L.done).at ⟨#[.pointer (some ⟨Wg, 0, none⟩), undef, undef, undef], []⟩ [.code (@Go.ConcX.Gen.body_done L)] := by
    rw [enter_atD _ H.f_done (c := @Go.ConcX.Gen.body_done L) (by rfl)]
    rfl
  rw [he]
  exact ⟨23, hD⟩
end

/-! ### goroutine 0 beside leavers, where it does not go on by an ordinary step -/
section
variable {P : Program} {Shun : Loc → Prop} {ty : TypeId} {Wg : Nat}

/-- Its turn. -/
theorem pick_main {a : Goroutine} (hrun : a.status = .running) {B d N0 : Nat} {w0 : World} : ∀ (S : Nat) (gs : Array Goroutine) (w : World) (sl : Option (Nat × Nat)) (t : Trace) (q : Nat → Nat), sumTo gs.size q = S → gs.size = N0 → gs[0]? = some a → Leavers P t gs q → PastD Shun B d t → (∃ x, w = w0.at x) →
    Reaches P gs w sl t (fun gs' w' sl' t' => gs'.size = N0 ∧ gs'[0]? = some a ∧ (∃ x, w' = w0.at x) ∧ ∃ q', Leavers P t' gs' q' ∧ PastD Shun B d t' ∧ ∃ dr sl'', Go.stepT P (crowd gs' w' sl') = runT P (crowd gs' (w'.at dr) sl'') 0) := by
  intro S
  induction S using Nat.strongRecOn with
  | ind S ih =>
    intro gs w sl t q hS hN h0 hL hP hw
    obtain ⟨i, g, dr, sl', hi, hg, hpk⟩ := crowd_pick (P := P) (w := w) (sl := sl) (solo_awake hL h0 hrun) ⟨0, a, h0, hrun⟩
    rcases Nat.eq_zero_or_pos i with rfl | hpos
    · exact .here ⟨hN, h0, hw, q, hL, hP, dr, sl', hpk⟩
    · obtain ⟨k, g1, es1, hqi, hrunT, hm, hsz, h0', hL', hlt⟩ := leaver_step (w := w) (sl' := sl') (d := dr) hL h0 hrun hpos hi hg
      exact Reaches.step (by rw [hpk]; exact hrunT) (ih _ (by rw [← hS]; exact hlt) _ (w.at dr) sl' _ (ConcN.upd q i k) (by rw [hsz]) (hsz.trans hN) h0' hL' (hP.mute (by omega) hm) (by obtain ⟨x, rfl⟩ := hw; exact ⟨dr, rfl⟩))

/-- It goes on, leaving the world alone. -/
theorem mw_past {N0 : Nat} {Stop : Nat → Goroutine → Prop} (hSr : ∀ d g, Stop d g → g.status = .running) {w0 : World} {st sm : Int} (hw0 : WgAt ty Wg w0 st sm) : ∀ (n S : Nat) (a : Goroutine) (d : Nat) (gs : Array Goroutine) (w : World) (sl : Option (Nat × Nat)) (t : Trace) (q : Nat → Nat), sumTo gs.size q = S → gs.size = N0 → gs[0]? = some a → MW P ty Wg Stop n d a → Leavers P t gs q → PastD Shun w0.heap.size d t → (∃ x, w = w0.at x) →
    Reaches P gs w sl t (fun gs' w' sl' t' => ∃ d' a' q', gs'.size = N0 ∧ gs'[0]? = some a' ∧ Stop d' a' ∧ (∃ x, w' = w0.at x) ∧ Leavers P t' gs' q' ∧ PastD Shun w0.heap.size d' t') := by
  intro n
  induction n with
  | zero => exact fun S a d gs w sl t q _ hN h0 hM hL hP hw => .here ⟨d, a, q, hN, h0, hM, hw, hL, hP⟩
  | succ n ih =>
    intro S a d gs w sl t q hS hN h0 hM hL hP hw
    rcases mw_cases hM with hs | ⟨m, hm, hrun, hst⟩
    · exact .here ⟨d, a, q, hN, h0, hs, hw, hL, hP⟩
    · cases hm
      refine Reaches.then (pick_main hrun S gs w sl t q hS hN h0 hL hP hw) ?_
      rintro gs1 w1 sl1 t1 ⟨hN1, h01, ⟨x, rfl⟩, q1, hL1, hP1, dr, sl2, hpk⟩
      obtain ⟨g', es, h1, h2, h3⟩ := hst ((w0.at x).at dr) ⟨st, sm, hw0⟩
      have hrunT := runT_crowd_go (P := P) (sl := sl2) (i := 0) h01 (show stepG P (0 == 0) a ((w0.at x).at dr) = _ from h1)
      refine Reaches.step (by rw [hpk]; exact hrunT) ?_
      exact ih _ g' _ _ _ sl2 _ q1 rfl (gs_size.trans hN1) (gs_same h01) h3 (leavers_own hL1 h01) (hP1.own (fn := a.frame.fn) (pos := a.frame.place) (fun e he x hx _ => (jev_touch (.inl (h2 e he)) hx).2) (fun e he => jev_low (.inl (h2 e he)) (wg_lt hw0))) ⟨dr, rfl⟩
end
end Go.Ev
/- From a go statement to the other side of 'Wait'. -/
namespace Go.Ev
open Go.Conc
open Go.ConcX (WgAt wgBlock stA smA KK OfWg RCa RCd DC0 KCa Full Payload Shy DCs EvQ)
open Go.ConcN (sumTo sumTo_upd upd_same)
open Go.Conc.Lib (WgLib WgLink)

noncomputable def toCallO (E : Env) (n : Nat) : AF → Option (AF × Option Tmp × FuncId × List AV) :=
  @Nat.rec (fun _ => AF → Option (AF × Option Tmp × FuncId × List AV)) (fun _ => none) (fun _ ih f => match stepT E f with
    | some (.go f') => ih f'
    | some (.call f' d g args) => some (f', d, g, args)
    | _ => none) n

noncomputable def wgHere (ty : TypeId) (h : AH) (id : Nat) : Bool := match h.obj id with
  | .cells [.int .u64 st, .int .u32 sm] el false false => st == KK && sm == 0 && Nat.beq el ty
  | _ => false
noncomputable def plainHere (h : AH) (id : Nat) : Bool := match h.obj id with | .cells _ _ false false => true | _ => false

def isRetT : Option T1 → Bool
  | some (.ret _) => true
  | _ => false

/-- At the deferred 'Done'. -/
noncomputable def endW (E : Env) (D : FuncId) (wg : Nat) (s : OS) : Option AH :=
  match s.k, stepA E s.f s.h with
  | [], some (.dcall f' g [.ptr i 0] h') => cond (Nat.beq g D && (Nat.beq i wg && (Nat.beq h'.df 0 && (isRetT (stepT E f') && f'.x.deferred)))) (some h') none
  | _, _ => none

def blkOf : List AV → Option Nat
  | _ :: .ptr c 0 :: _ => some c
  | _ => none

noncomputable def spawnO (E : Env) (I : WgIds) (D : FuncId) (ty : TypeId) (n m : Nat) (out : List FuncId) (s : OS) : Option OS :=
  match stepT E s.f with
  | some (.spawn f' g args) => match toCallO E 200 f' with
    | some (fw, dw, gw, [.ptr wg 0]) => cond (Nat.beq gw I.wait && (wgHere ty s.h wg && Nat.beq s.h.df 0)) (match enterA E g args true, blkOf args with
      | some f2, some c => match endW E D wg (runO E (runF E n) out m ⟨f2, [], s.h.put wg .dead⟩) with
        | some h' => cond (plainHere h' c) (some ⟨resO fw dw (.tup []), s.k, h'⟩) none
        | none => none
      | _, _ => none) none
    | _ => none
  | _ => none

/-! ### the joiner's end may be put wider -/
section
variable {P : Program} {ty : TypeId} {Wg : Nat} {Fin Fin' : Goroutine → Prop}
theorem MW.mono {Stop Stop' : Nat → Goroutine → Prop} (h : ∀ d g, Stop d g → Stop' d g) : ∀ {n d : Nat} {g : Goroutine}, MW P ty Wg Stop n d g → MW P ty Wg Stop' n d g
  | 0, _, _, H => h _ _ H
  | n + 1, d, g, H => H.elim (fun x => .inl (h _ _ x)) fun x => .inr ⟨x.1, fun w hw => by
      obtain ⟨g', es, h1, h2, h3⟩ := x.2 w hw
      exact ⟨g', es, h1, h2, MW.mono h h3⟩⟩
theorem AtAcq.mono (h : ∀ g, Fin g → Fin' g) {g : Goroutine} (H : AtAcq P Wg Fin g) : AtAcq P Wg Fin' g := ⟨H.1, fun w => by obtain ⟨g', h1, h2⟩ := H.2 w; exact ⟨g', h1, h _ h2⟩⟩
theorem MAcq.mono (h : ∀ g, Fin g → Fin' g) {n : Nat} {g : Goroutine} (H : MAcq P ty Wg Fin n g) : MAcq P ty Wg Fin' n g := MW.mono (fun _ _ x => ⟨x.1, x.2.mono h⟩) H
theorem AtLd0.mono (h : ∀ g, Fin g → Fin' g) {g : Goroutine} (H : AtLd0 P ty Wg Fin g) : AtLd0 P ty Wg Fin' g := ⟨H.1, fun w sm hw => by obtain ⟨g', h1, n, h2⟩ := H.2 w sm hw; exact ⟨g', h1, n, h2.mono h⟩⟩
theorem MLd0.mono (h : ∀ g, Fin g → Fin' g) {n : Nat} {g : Goroutine} (H : MLd0 P ty Wg Fin n g) : MLd0 P ty Wg Fin' n g := MW.mono (fun _ _ x => ⟨x.1, x.2.mono h⟩) H
theorem AtSem.mono (h : ∀ g, Fin g → Fin' g) {g : Goroutine} (H : AtSem P ty Wg Fin g) : AtSem P ty Wg Fin' g := ⟨H.1, H.2.1, H.2.2.1, fun w hw => by obtain ⟨g', h1, n, h2⟩ := H.2.2.2 w hw; exact ⟨g', h1, n, h2.mono h⟩⟩
theorem MSem.mono (h : ∀ g, Fin g → Fin' g) {n : Nat} {g : Goroutine} (H : MSem P ty Wg Fin n g) : MSem P ty Wg Fin' n g := MW.mono (fun _ _ x => ⟨x.1, x.2.mono h⟩) H
theorem AtCas.mono (h : ∀ g, Fin g → Fin' g) {g : Goroutine} (H : AtCas P ty Wg Fin g) : AtCas P ty Wg Fin' g :=
  ⟨H.1, fun w hw => by obtain ⟨g', h1, n, h2⟩ := H.2.1 w hw; exact ⟨g', h1, n, h2.mono h⟩, fun w hw => by obtain ⟨g', h1, n, h2⟩ := H.2.2 w hw; exact ⟨g', h1, n, h2.mono h⟩⟩
theorem MCas.mono (h : ∀ g, Fin g → Fin' g) {n : Nat} {g : Goroutine} (H : MCas P ty Wg Fin n g) : MCas P ty Wg Fin' n g := MW.mono (fun _ _ x => ⟨x.1, x.2.mono h⟩) H
theorem AtLd.mono (h : ∀ g, Fin g → Fin' g) {g : Goroutine} (H : AtLd P ty Wg Fin g) : AtLd P ty Wg Fin' g :=
  ⟨H.1, fun w hw => by obtain ⟨g', h1, n, h2⟩ := H.2.1 w hw; exact ⟨g', h1, n, h2.mono h⟩, fun w hw => by obtain ⟨g', h1, n, h2⟩ := H.2.2 w hw; exact ⟨g', h1, n, h2.mono h⟩⟩
theorem MLd.mono (h : ∀ g, Fin g → Fin' g) {d n : Nat} {g : Goroutine} (H : MLd P ty Wg Fin d n g) : MLd P ty Wg Fin' d n g := MW.mono (fun _ _ x => ⟨x.1, x.2.mono h⟩) H
end

section
variable {P : Program} {E : Env} {I : WgIds} {ι : Nm}

/-- At the entry of what is called. -/
def AtEntry (P : Program) (ι : Nm) (fw : AF) (dw : Option Tmp) (g : FuncId) (args : List AV) (cs : List Frame) (dd : Nat) : Nat → Goroutine → Prop := fun d a =>
  d = dd ∧ ∃ fr' vs, a = G (Frame.enter P g vs .normal) (fr' :: cs) ∧ WaitsS ι fw dw fr' ∧ RVs ι args vs.toList

theorem toCallO_ok (F : Fits P E) (FF : FitsF P E) {ty : TypeId} {Wg : Nat} {g : FuncId} {args : List AV} {fw : AF} {dw : Option Tmp} {c : Code} {nt : Nat} {rs : List ResultVar} {x : EX} (hg : E.ft.get g = some ⟨some c, nt, rs, x⟩) (cs : List Frame) (dd : Nat) : ∀ (n : Nat) (f : AF) (fr : Frame), toCallO E n f = some (fw, dw, g, args) → RF ι f fr →
    MW P ty Wg (AtEntry P ι fw dw g args cs dd) n dd (G fr cs)
  | 0, _, _, e, _ => by cases e
  | n + 1, f, fr, e, R => by
    have e : (match stepT E f with
      | some (.go f') => toCallO E n f'
      | some (.call f' d g args) => some (f', d, g, args)
      | _ => none) = some (fw, dw, g, args) := e
    split at e
    · rename_i f' hs
      have h := tame_ok (main := true) (cs := cs) F FF R hs
      refine .inr ⟨rfl, fun w _ => ?_⟩
      obtain ⟨fr', ⟨es, h1, h2⟩, h3⟩ := h w
      refine ⟨_, es, h1, mev_noRoom h2, ?_⟩
      rw [deaf_noRoom h2]
      exact toCallO_ok F FF hg cs dd n f' fr' e h3
    · rename_i f' d g' args' hs
      cases e
      obtain ⟨h1, _, vs, h2, h3⟩ := tame_ok (main := true) (cs := cs) F FF R hs
      refine .inr ⟨rfl, fun w _ => ⟨_, #[], (h3 w).1 _ _ _ _ hg, by simp, ?_⟩⟩
      have : AtEntry P ι fw dw g args cs dd dd (G (Frame.enter P g vs .normal) (fr :: cs)) := ⟨rfl, fr, vs, rfl, h1, h2⟩
      cases n with
      | zero => exact this
      | succ n => exact .inl this
    · cases e

/-- The joiner, from behind the go statement. -/
theorem join_ok (X : Tabs P E I) (hwait : waitOk E I = true) {ty : TypeId} {Wg cp wg : Nat} (hι : ι wg = some (Wg, cp)) {fw : AF} {dw : Option Tmp} {f : AF} {fr : Frame} (cs : List Frame) {n : Nat} (e : toCallO E n f = some (fw, dw, I.wait, [.ptr wg 0])) (R : RF ι f fr) :
    ∃ m, MLd P ty Wg (fun a => ∃ fr', WaitsS ι fw dw fr' ∧ FinAt P ty Wg fr' cs a) 0 m (G fr cs) := by
  have hg : ∃ c nt rs x, E.ft.get I.wait = some ⟨some c, nt, rs, x⟩ := by
    unfold waitOk at hwait
    split at hwait
    · rename_i f hf
      unfold enterA at hf
      split at hf
      · rename_i c n rs x hx
        exact ⟨c, n, rs, x, hx⟩
      · cases hf
    · cases hwait
  obtain ⟨c, nt, rs, x, hg⟩ := hg
  have h1 := toCallO_ok (ty := ty) (Wg := Wg) X.F X.FF hg cs 0 n f fr e R
  refine ⟨n + 200, acq_ok.mw_then (m := 200) (fun d g hd => ?_) h1⟩
  obtain ⟨rfl, fr', vs, rfl, hw, hv⟩ := hd
  obtain ⟨v, rfl, hv1⟩ := args1 hv
  obtain ⟨p, hp, rfl⟩ := ptr_inv hv1
  rw [hι] at hp; cases hp
  exact MLd.mono (fun a ha => ⟨fr', hw, ha⟩) (wait_ok (ty := ty) (Wg := Wg) X hwait fr' cs)
end

/-! ### goroutine 0's stack on the machine -/

/-- Goroutine 0 is at this, all others leaving. -/
def MAt (P : Program) (W : World) (B0 : Nat) (cs : List Frame) (s : OS) : Array Goroutine → World → Option (Nat × Nat) → Trace → Prop := fun gs w _ t =>
  ∃ K Shun a q, K.P = P ∧ K.W0 = W ∧ K.base = B0 ∧ Away K Shun ∧ gs[0]? = some a ∧ OAt K (fun _ => none) cs s s.h.df a w ∧ Leavers P t gs q ∧ PastD Shun w.heap.size s.h.df t

section
variable {P : Program} {E : Env} {I : WgIds} {W : World} {B0 : Nat} {cs : List Frame} {gs : Array Goroutine} {w : World} {sl : Option (Nat × Nat)} {t : Trace} {s s' : OS}

theorem run_past (F : Fits P E) (FF : FitsF P E) (n m : Nat) (out : List FuncId) (H : MAt P W B0 cs s gs w sl t) : Reaches P gs w sl t (MAt P W B0 cs (runO E (runF E n) out m s)) := by
  obtain ⟨K, Shun, a, q, h1, h2, h3, hA, h0, hO, hL, hP⟩ := H
  refine Reaches.then (walk_past hA (runO_ok (main := true) F FF h1 n (out := out) m s hO) w (Rely.refl w) gs sl t q h0 hL hP) ?_
  rintro gs1 w1 sl1 t1 ⟨a1, d1, q1, hN, h01, hO1, hL1, hP1⟩
  obtain ⟨ι, fr, frs, k1, k2, k3, k4, k5, rfl, k6⟩ := hO1
  exact .here ⟨K, Shun, a1, q1, h1, h2, h3, hA, h01, ⟨ι, fr, frs, k1, k2, k3, k4, k5, rfl, k6⟩, hL1, hP1⟩

theorem wgHere_inv {ty : TypeId} {h : AH} {id : Nat} (e : wgHere ty h id = true) : h.obj id = .cells [.int .u64 KK, .int .u32 0] ty false false := by
  unfold wgHere at e
  split at e
  · rename_i st sm el ho
    simp only [Bool.and_eq_true, beq_iff_eq] at e
    obtain ⟨⟨rfl, rfl⟩, e⟩ := e
    rw [Nat.eq_of_beq_eq_true e] at ho
    exact ho
  · cases e
theorem plainHere_inv {h : AH} {id : Nat} (e : plainHere h id = true) : ∃ vs el, h.obj id = .cells vs el false false := by
  unfold plainHere at e
  split at e
  · exact ⟨_, _, ‹_›⟩
  · cases e
theorem endW_inv {D wg : Nat} {s : OS} {h : AH} (e : endW E D wg s = some h) : s.k = [] ∧ h.df = 0 ∧ ∃ f' v, stepA E s.f s.h = some (.dcall f' D [.ptr wg 0] h) ∧ stepT E f' = some (.ret v) ∧ f'.x.deferred = true := by
  unfold endW at e
  split at e
  · rename_i f' g i h' hk hs
    cases hc : (Nat.beq g D && (Nat.beq i wg && (Nat.beq h'.df 0 && (isRetT (stepT E f') && f'.x.deferred)))) with
    | false => rw [hc] at e; cases e
    | true =>
      rw [hc] at e
      cases e
      simp only [Bool.and_eq_true] at hc
      obtain ⟨c1, c2, c3, c4, c5⟩ := hc
      rw [Nat.eq_of_beq_eq_true c1, Nat.eq_of_beq_eq_true c2] at hs
      refine ⟨hk, Nat.eq_of_beq_eq_true c3, f', ?_⟩
      unfold isRetT at c4
      split at c4
      · exact ⟨_, hs, ‹_›, c5⟩
      · cases c4
  · cases e

theorem push2 (t : Trace) (g : Nat) (fn : FuncId) (pos : String) (a b : MemOp) : t ++ ((MemOp.ofEvents g fn pos #[]).push a).push b = (t.push a).push b := by
  rw [ofEvents_none]; apply Array.toList_inj.1; simp
theorem deaf_fork (t : Trace) (i j : Nat) (fn fn' : FuncId) (pos pos' : String) (g g' : Nat) : Deaf ((t.push { g := g, fn, pos, act := .go j }).push { g := g', fn := fn', pos := pos', act := .start }) i = Deaf t i := by
  have e : (t.push { g := g, fn, pos, act := .go j }).push { g := g', fn := fn', pos := pos', act := .start } = t ++ (#[{ g := g, fn, pos, act := .go j }, { g := g', fn := fn', pos := pos', act := .start }] : Trace) := by
    apply Array.toList_inj.1; simp
  rw [e]
  have := Deaf_append t i [({ g := g, fn, pos, act := .go j } : MemOp), { g := g', fn := fn', pos := pos', act := .start }]
  simp only [List.foldl_cons, List.foldl_nil, deafStep] at this
  rw [show (#[{ g := g, fn, pos, act := .go j }, { g := g', fn := fn', pos := pos', act := .start }] : Trace) = ⟨[{ g := g, fn, pos, act := .go j }, { g := g', fn := fn', pos := pos', act := .start }]⟩ from rfl, this]

/-- THE GO STATEMENT, THE WORKER, THE JOIN. -/
theorem spawn_past (X : Tabs P E I) (hwait : waitOk E I = true) {L : WgLink} (H : WgLib P L) {n m : Nat} {out : List FuncId} (e : spawnO E I L.done L.tWg n m out s = some s') (HM : MAt P W B0 cs s gs w sl t) : Reaches P gs w sl t (MAt P W B0 cs s') := by
  unfold spawnO at e
  split at e
  · rename_i f' g args hsp
    split at e
    · rename_i fw dw gw wg hcall
      cases hc : (Nat.beq gw I.wait && (wgHere L.tWg s.h wg && Nat.beq s.h.df 0)) with
      | false => rw [hc] at e; cases e
      | true =>
        rw [hc] at e
        simp only [cond_true] at e
        simp only [Bool.and_eq_true] at hc
        obtain ⟨hgw, hwg, hdf⟩ := hc
        have hgw := Nat.eq_of_beq_eq_true hgw
        have hdf := Nat.eq_of_beq_eq_true hdf
        have hwg := wgHere_inv hwg
        subst hgw
        split at e
        · rename_i f2 c hf2 hbl
          split at e
          · rename_i h' hend
            cases hpl : plainHere h' c with
            | false => rw [hpl] at e; cases e
            | true =>
              rw [hpl] at e
              cases e
              obtain ⟨vsc, elc, hcobj⟩ := plainHere_inv hpl
              obtain ⟨hke, hdf', fd, vd, hsd, hrd, hdd⟩ := endW_inv hend
              obtain ⟨K, Shun, a, q, hKP, hKW0, hKB, hA, h0, hO, hL, hP⟩ := HM
              rw [hdf] at hO hP
              obtain ⟨ι, fr, frs, rfl, hB, R, HS, S, _, _⟩ := hO
              -- its turn
              refine Reaches.then (pick_main (w0 := w) (B := w.heap.size) (d := 0) rfl _ gs w sl t q rfl rfl h0 hL hP ⟨w.drawn, rfl⟩) ?_
              rintro gs1 w1 sl1 t1 ⟨hN1, h01, ⟨x1, rfl⟩, q1, hL1, hP1, dr, sl2, hpk⟩
              have S1 : Sat K ι s.h ((w.at x1).at dr) := S.rely (Rely.drawn w dr)
              obtain ⟨fs, as, cs', hargs, fr', R', hspawn⟩ := tame_ok (main := true) (cs := frs ++ cs) X.F X.FF R hsp
              have hpos : 0 < gs1.size := (Array.getElem?_eq_some_iff.1 h01).1
              have hrunT := runT_crowd_spawn (P := P) (sl := sl2) (i := 0) h01 (show stepG P (0 == 0) _ ((w.at x1).at dr) = _ from hspawn _)
              -- the group's block
              obtain ⟨p, ob, hp, hb1, hown, hlt, hb, ca, lo, hi, rfl, ⟨l1, l2, hl, hv⟩, z1, z2, z3⟩ := S1.at hwg trivial
              obtain ⟨rfl, rfl⟩ := (z3 rfl).2 rfl
              have hca : ca = #[.int .u64 KK, .int .u32 0] := by
                have hl2 : l2 = [] := by
                  have e1 := z1 rfl
                  have e2 := congrArg List.length hl
                  have e3 := hv.length
                  simp at e1 e2 e3
                  exact List.length_eq_zero_iff.1 (by omega)
                subst hl2
                obtain ⟨v1, r1, e1, hv1, hr1⟩ := RVs_cons_inv hv
                obtain ⟨v2, r2, e2, hv2, hr2⟩ := RVs_cons_inv hr1
                rw [RVs_nil_inv hr2] at e2
                unfold RV at hv1 hv2
                subst hv1; subst hv2
                apply Array.toList_inj.1
                rw [hl, e1, e2]; rfl
              subst hca
              have hgrp : WgAt L.tWg p.1 ((w.at x1).at dr) KK 0 := hb
              have hSW : ∀ l, Shun l → ¬ OfWg p.1 l := fun l hs ⟨y, hy, hyb⟩ => hA l p.1 hs (by rw [hy]; simp [blockOf, hyb]) ⟨hb1, hown⟩
              -- what the worker owns
              have SM : SatM K ι (fun i o => s.h.tr.get i = some o) ((w.at x1).at dr) := S1.toM fun _ _ h _ => h
              have hdead : ∀ i o, (s.h.put wg .dead).tr.get i = some o → o.live → s.h.tr.get i = some o ∧ ¬ i = wg := fun i o hi hl => by
                have hi : (s.h.tr.set wg .dead).get i = some o := hi
                rcases Tr.get_set hi with ⟨rfl, rfl⟩ | ⟨h1, h2⟩
                · exact hl.elim
                · exact ⟨h2, h1⟩
              have SW := SM.less (X := fun i => i = wg) (h := s.h.put wg .dead) hdead
              obtain ⟨K', hK'⟩ : ∃ K', K' = Ctx.less K ι (fun i o => s.h.tr.get i = some o) (fun i => i = wg) ((w.at x1).at dr) SM.lo SM.lt := ⟨_, rfl⟩
              rw [← hK'] at SW
              have hK'P : K'.P = P := by rw [hK']; exact hKP
              have hK'own : ¬ K'.own p.1 := by
                rw [hK']
                rintro ⟨_, hx⟩
                have ho : s.h.tr.get wg = some (.cells [.int .u64 KK, .int .u32 0] L.tWg false false) := AH.obj_live hwg trivial
                exact hx ⟨wg, _, p, rfl, ho, trivial, hp, rfl⟩
              have hK'sub : Sub K' K := by rw [hK']; exact less_sub
              have hA' : Away K' (fun l => Shun l ∨ OfWg p.1 l) := fun l b hl hb => by
                rintro ⟨h1, h2⟩
                rcases hl with hl | ⟨y, hy, hyb⟩
                · exact hA l b hl hb ⟨by rw [← hK'sub.base]; exact h1, hK'sub.own _ h2⟩
                · rw [hy] at hb
                  simp only [blockOf, Option.some.injEq] at hb
                  exact hK'own (by rw [← hyb, hb]; exact h2)
              have hA0 : Away K' Shun := fun l b hl hb => hA' l b (.inl hl) hb
              -- the worker's life
              have hf2' := hf2
              unfold enterA at hf2'
              split at hf2'
              · rename_i cw nw rsw xw hgw
                have hfd : f2.x.deferred = true := by
                  cases hble : Nat.ble args.length nw with
                  | false => rw [hble] at hf2'; cases hf2'
                  | true => rw [hble] at hf2'; cases hf2'; rfl
                have RW : RF ι f2 (Frame.enter P g ((fs ++ as) ++ cs') .deferred) := enter_ok X.FF hf2 (vs := (fs ++ as) ++ cs') hargs rfl
                have hdfw : (s.h.put wg .dead).df = 0 := hdf
                have hO2 : OAt K' ι [bot P] ⟨f2, [], s.h.put wg .dead⟩ 0 (G (Frame.enter P g ((fs ++ as) ++ cs') .deferred) [bot P]) ((w.at x1).at dr) := ⟨ι, _, [], rfl, hB, RW, rfl, SW, hdfw.symm, fun _ _ h => h⟩
                let Stop : Nat → Goroutine → World → Prop := fun d b ws => d = 0 ∧ AtDone P L.tWg p.1 K' b ws ∧ ∃ ι', Sat K' ι' h' ws ∧ Ext ι ι' ∧ Bare ι' h'.nx
                have hwalk : Walk P false K' Stop 0 (born P { target := .fn (.func g) cs', args := fs ++ as }) ((w.at x1).at dr) := by
                  refine Walk.of rfl fun w₁ hr₁ => ⟨_, w₁, #[], born_step X.FF hgw fs as cs' w₁, FineG.refl w₁, ?_⟩
                  show Walk P false K' Stop 0 _ w₁
                  refine ((runO_ok (main := false) X.F X.FF hK'P n (out := out) m _ hO2).rely hr₁).bind ?_
                  rintro d2 g2 w2 ⟨ι2, fr2, frs2, rfl, b1, b2, b3, b4, rfl, b5⟩
                  rw [hke] at b3
                  have b3 : frs2 = [] := b3
                  subst b3
                  refine Walk.of rfl fun w₃ hr₃ => ?_
                  have ok : A1Ok P false K' ι2 _ w₃ fr2 ([] ++ [bot P]) _ := step_ok hK'P X.F X.FF (b4.rely hr₃) b2 hsd
                  obtain ⟨ι3, fr3, vs3, w4, es, k1, k2, k3, k4, ⟨k5, k5'⟩, k6, k7⟩ := ok b1.free
                  have hE3 : Ext ι ι3 := b5.trans (k2.ext b1.free)
                  obtain ⟨v3, rfl, hv3⟩ := args1 k4
                  obtain ⟨p3, hp3, rfl⟩ := ptr_inv hv3
                  rw [hE3 _ _ hp] at hp3; cases hp3
                  refine ⟨_, w4, es, k1, k6, .stop fun w₅ hr₅ => ⟨k7.trans hdf', ?_, ι3, k3.rely hr₅, hE3, b1.grow k2⟩⟩
                  have S5 := k3.rely hr₅
                  exact done_ok X.F X.FF H hK'P S5 hK'own (by have := S5.lo; rw [hK'] at this; exact Nat.lt_of_lt_of_le hlt this) hcobj hdd hrd k5 k5'
                have hP1' : PastD Shun ((w.at x1).at dr).heap.size 0 t1 := hP1
                have hj : gs1.size ≠ 0 := by omega
                have hfork := PhT.fork hP1' hj (hL1.above _ (Nat.le_refl _)) hSW (G fr (frs ++ cs)).frame.fn (born P { target := .fn (.func g) cs', args := fs ++ as }).frame.fn (G fr (frs ++ cs)).frame.place (G fr (frs ++ cs)).frame.place
                refine Reaches.step (by rw [hpk]; exact hrunT) ?_
                rw [push2]
                obtain ⟨mj, hmj⟩ := join_ok (P := P) (ty := L.tWg) X hwait hp (frs ++ cs) hcall R'
                have hPA : PA P L.tWg p.1 gs1.size (fun a => ∃ fr', WaitsS ι fw dw fr' ∧ FinAt P L.tWg p.1 fr' (frs ++ cs) a) Shun false KK 0 0 3 mj none ((gs1.setIfInBounds 0 (G fr' (frs ++ cs))).push (born P { target := .fn (.func g) cs', args := fs ++ as })) ((w.at x1).at dr) _ (G fr' (frs ++ cs)) (born P { target := .fn (.func g) cs', args := fs ++ as }) q1 :=
                  ⟨by rw [Array.getElem?_push_lt (by simpa using hpos)]; simp [hpos], by rw [show gs1.size = (gs1.setIfInBounds 0 (G fr' (frs ++ cs))).size by simp]; exact Array.getElem?_push_size, .ld hmj, hgrp, fun _ => rfl, rfl, ⟨fun i x h1 h2 hx => (by
                    have hx' : gs1[i]? = some x := by
                      rw [Array.getElem?_push, if_neg (by simpa using h2), Array.getElem?_setIfInBounds_ne (by omega)] at hx
                      exact hx
                    rw [deaf_fork]
                    exact hL1.old i x h1 hx'), fun i hi => (by
                    rw [deaf_fork]
                    exact hL1.above i (by simp at hi; omega))⟩, hfork⟩
                have hKW : K'.base ≤ p.1 := by rw [hK'sub.base]; exact hb1
                refine Reaches.then (st0 (Fin := fun a => ∃ fr', WaitsS ι fw dw fr' ∧ FinAt P L.tWg p.1 fr' (frs ++ cs) a) hj hSW hA0 hK'own hKW _ (fun d b w hs => ⟨hs.1, hs.2.1⟩) hwalk _ sl2 _ q1 _ false KK 0 3 mj _ (Rely.refl _) rfl (fun h => by cases h) hPA) ?_
                rintro gs4 w4 sl4 t4 ⟨b4, ws, ⟨_, _, ι', S', hE', hB'⟩, a4, q4, hN4, h04, ⟨fr4, hw4, n4, hm4⟩, hL4, hP4, hR4, hg4⟩
                refine Reaches.then (mw_past (ty := L.tWg) (Wg := p.1) (fun d g hs => by rw [hs.2]; rfl) hg4 n4 _ a4 0 gs4 w4 sl4 t4 q4 rfl rfl h04 hm4 hL4 hP4 ⟨w4.drawn, rfl⟩) ?_
                rintro gs5 w5 sl5 t5 ⟨d5, a5, q5, hN5, h05, ⟨rfl, rfl⟩, ⟨x5, rfl⟩, hL5, hP5⟩
                have hrel : Rely K' ws (w4.at x5) := ⟨hR4.size, fun x _ hx => hR4.block x fun e => hK'own (e ▸ hx), fun x hx => hR4.block x (by omega), hR4.os, hR4.tape, hR4.output⟩
                refine .here ⟨K', _, _, q5, hK'P, by rw [hK'sub.W0]; exact hKW0, by rw [hK'sub.base]; exact hKB, hA', h05, ⟨ι', fr4.finish (.tuple #[]), frs, rfl, hB', ?_, HS.mono hE', S'.rely hrel, rfl, fun i p h => (by cases h)⟩, hL5, ?_⟩
                · have := (hw4 (.tup []) (.tuple #[]) (by unfold RV; exact ⟨#[], rfl, RVs_nil⟩)).mono hE'
                  obtain ⟨x, tm, td, ds, rt⟩ := fw
                  exact this
                · show PastD _ _ h'.df t5
                  rw [hdf']
                  exact hP5
              · cases hf2'
          · cases e
        · cases e
    · cases e
  · cases e
end
end Go.Ev
/- The whole run. -/
namespace Go.Ev
open Go.Conc
open Go.Conc.Lib (WgLib WgLink)

/-- What can be reached from these alone. -/
noncomputable def gcO (ids : List Nat) (s : OS) : OS := match s with | ⟨f, k, ⟨tr, nx, df⟩⟩ => ⟨f, k, ⟨reach tr 100000 ids .e, nx, df⟩⟩

/-- From stack to stack. -/
inductive Path (E : Env) (I : WgIds) (D : FuncId) (ty : TypeId) (out : List FuncId) : OS → OS → Prop
  | run {s s' : OS} (n m : Nat) : runO E (runF E n) out m s = s' → Path E I D ty out s s'
  | spawn {s s' : OS} (n m : Nat) : spawnO E I D ty n m out s = some s' → Path E I D ty out s s'
  | gc {s s' : OS} (ids : List Nat) : gcO ids s = s' → Path E I D ty out s s'
  | trans {s s' s'' : OS} : Path E I D ty out s s' → Path E I D ty out s' s'' → Path E I D ty out s s''

section
variable {P : Program} {E : Env} {I : WgIds} {W : World} {B0 : Nat} {cs : List Frame}

theorem gc_past (ids : List Nat) {s : OS} {gs : Array Goroutine} {w : World} {sl : Option (Nat × Nat)} {t : Trace} (H : MAt P W B0 cs s gs w sl t) : MAt P W B0 cs (gcO ids s) gs w sl t := by
  obtain ⟨f, k, tr, nx, df⟩ := s
  obtain ⟨K, Shun, a, q, h1, h2, h3, hA, h0, ⟨ι, fr, frs, k1, k2, k3, k4, k5, k6, k7⟩, hL, hP⟩ := H
  refine ⟨K, Shun, a, q, h1, h2, h3, hA, h0, ⟨ι, fr, frs, k1, k2, k3, k4, ?_, k6, k7⟩, hL, hP⟩
  exact (k5.toM (M := fun i o => tr.get i = some o) fun _ _ h _ => h).toSat fun i o e _ => reach_get (t := tr) 100000 ids .e (fun i o h => by rw [Tr.get_e] at h; cases h) i o e

theorem path_past (X : Tabs P E I) (hwait : waitOk E I = true) {L : WgLink} (H : WgLib P L) {out : List FuncId} {s s' : OS} (p : Path E I L.done L.tWg out s s') : ∀ {gs : Array Goroutine} {w : World} {sl : Option (Nat × Nat)} {t : Trace}, MAt P W B0 cs s gs w sl t → Reaches P gs w sl t (MAt P W B0 cs s') := by
  induction p with
  | run n m e => intro gs w sl t h; rw [← e]; exact run_past X.F X.FF n m out h
  | spawn n m e => intro gs w sl t h; exact spawn_past X hwait H e h
  | gc ids e => intro gs w sl t h; rw [← e]; exact .here (gc_past ids h)
  | trans _ _ ih1 ih2 => intro gs w sl t h; exact Reaches.then (ih1 h) fun _ _ _ _ h => ih2 h

/-- What is known behind the run. -/
structure Ends (W : World) (v : AV) (u : Value) (w : World) : Prop where
  val : ∃ ι, RV ι v u
  size : W.heap.size ≤ w.heap.size
  old : ∀ b, b < W.heap.size → w.heap[b]? = W.heap[b]?
  os : w.os = W.os
  tape : w.tape = W.tape
  output : w.output = W.output

/-- The last step of the outermost activation, its result in memory or not. -/
theorem end_ok (F : Fits P E) (FF : FitsF P E) {K : Ctx} {ι : Nm} {h : AH} {w : World} {fr : Frame} {f : AF} (S : Sat K ι h w) (R : RF ι f fr) {v : AV} {h' : AH} (e : stepA E f h = some (.ret v h')) (hret : f.ret = true) (hds : f.ds = []) :
    ∃ u es, stepG P true (G fr []) w = GStep.after es (doReturn P true fr [] none u w) ∧ RV ι v u ∧ ∀ e ∈ es, EvF K w.heap.size e := by
  obtain ⟨x, tm, td, ds, ret⟩ := f
  simp only at hret hds
  subst hret; subst hds
  have hm : fr.mode = .returning := by simpa using R.mode
  have hd : fr.defers = [] := R.ds
  have e : retA E x tm td [] h = some (.ret v h') := e
  unfold retA at e
  simp only at e
  split at e
  · rename_i c n rs ex hg
    obtain ⟨fn, k1, k2, _, k4, _⟩ := FF.code x.fn c n rs ex hg
    have key : ∀ {l : List AV}, resA E rs tm h = some l → ∃ u es, stepG P true (G fr []) w = GStep.after es (doReturn P true fr [] none u w) ∧ RV ι (retV l) u ∧ ∀ e ∈ es, EvF K w.heap.size e := by
      intro l hl
      obtain ⟨u, es, g1, g2, g3⟩ := results_ok F S R.tm k4 hl
      refine ⟨u, seen P fr.fn es.toArray, ?_, g2, fun e he => g3 e (by simpa using Conc.mem_seen he)⟩
      rw [unwinds R]
      unfold unwind
      rw [hd]
      have := g1 #[]
      simp only [Array.empty_append] at this
      have hfn : P.funcs[fr.fn]? = some fn := by rw [R.fn]; exact k1
      simp only [hm, hfn, this]
    cases hl : resA E rs tm h with
    | none => rw [hl] at e; cases e
    | some l =>
      rw [hl] at e
      have := key hl
      match l, e, this with
      | [], e, this => cases e; exact this
      | [v], e, this => cases e; exact this
      | a :: b :: l, e, this => cases e; exact this
  · cases e

/-- THE RUN. -/
theorem the_run (X : Tabs P E I) (hwait : waitOk E I = true) {L : WgLink} (H : WgLib P L) {out : List FuncId} {fid : FuncId} {argsA : List AV} {f0 : AF} (hf0 : enterA E fid argsA false = some f0) {s' : OS} (p : Path E I L.done L.tWg out ⟨f0, [], eAH⟩ s') (hk : s'.k = []) {v : AV} {h2 : AH} (hr : stepA E s'.f s'.h = some (.ret v h2)) (hret : s'.f.ret = true) (hds : s'.f.ds = []) (hd : s'.f.x.deferred = false) (hdf : s'.h.df = 0)
    (hin : P.inits.idxOf? s'.f.x.fn = none) (W : World) (args : Array Value) (hargs : RVs (fun _ => none) argsA args.toList) :
    ∃ M last o w' t', runNT P (M + 1) (solo (G (Frame.enter P fid args .normal) []) W) #[] = (.ended o w', t') ∧ runN P M (solo (G (Frame.enter P fid args .normal) []) W) = .next last ∧ step P last = .ended o w' ∧ Conc.Good P (Ends W v) last o w' t' := by
  have h0 : MAt P W W.heap.size [] ⟨f0, [], eAH⟩ #[G (Frame.enter P fid args .normal) []] W none #[] :=
    ⟨here P W, fun _ => False, _, fun _ => 0, rfl, rfl, rfl, fun _ _ h => h.elim, rfl, ⟨fun _ => none, _, [], rfl, fun _ _ => rfl, enter_ok X.FF hf0 hargs rfl, rfl, sat_here P _ W, rfl, fun _ _ h => h⟩, leavers_one P _, PastD.of (past_nil.mono (Nat.zero_le _))⟩
  obtain ⟨N, gs1, w1, sl1, t1, hrun, K, Shun, a, q, hKP, hKW, hKB, hA, h01, ⟨ι, fr, frs, rfl, hB, R, HS, S, _, _⟩, hL, hP⟩ := path_past X hwait H p h0
  rw [hk] at HS
  have HS : frs = [] := HS
  subst HS
  rw [hdf] at hP
  have hkind : fr.kind = .normal := by rw [R.kind, hd]; rfl
  obtain ⟨N2, last, o, w', t', e1, e2, e3, e4⟩ := beside_ends (P := P) (Shun := Shun) (B := w1.heap.size) (D := fun _ _ _ => False) (Post := Ends W v) (sl := sl1) (n := 0) (fun _ _ _ h => h.elim) h01 hL hP.to (fun w₂ hw => by
    obtain ⟨d, rfl⟩ := hw
    have S₂ : Sat K ι s'.h (w1.at d) := S.rely (Rely.drawn w1 d)
    obtain ⟨u, es, g1, g2, g3⟩ := end_ok X.F X.FF S₂ R hr hret hds
    have hE : Ends W v u (w1.at d) := ⟨⟨ι, g2⟩, by have := S₂.bs; rw [hKB] at this; exact this, fun b hb => (S₂.old b (by rw [hKB]; exact hb)).trans (by rw [hKW]), by rw [S₂.os, hKW], by rw [S₂.tape, hKW], by rw [S₂.output, hKW]⟩
    refine ⟨rfl, u, es, ?_, fun e he => ⟨fun x hx hs => ?_, (g3 e he).still.1, (g3 e he).still.2, evG_low (.inl (g3 e he))⟩, hE⟩
    · rw [List.append_nil, g1]
      unfold doReturn
      simp only [hkind, R.fn, hin]
      simp [GStep.after]
    · obtain ⟨b, hb, hb1, hb2, _⟩ := evG_touch (.inl (g3 e he)) hx
      exact absurd ⟨hb1, hb2⟩ (hA _ b hs hb))
  rw [solo_eq_crowd]
  refine ⟨N + N2, last, o, w', t', ?_, ?_, e3, e4⟩
  · rw [Nat.add_assoc, runNT_add, hrun]; exact e1
  · rw [runN_add, ← runNT_fst P _ _ #[], hrun]; exact e2
end
end Go.Ev
/- What functions without a body come to. -/
namespace Go.Ev

section
variable {P : Program} {E : Env} {K : Ctx} {ι : Nm} {h h' : AH} {w : World}

theorem SRun.det {α : Type} {s : Sem α} {a b : α} {w1 w2 : World} {e1 e2 : List Event} (h1 : SRun P s w a w1 e1) (h2 : SRun P s w b w2 e2) : w1 = w2 := by
  have := (h1 #[]).symm.trans (h2 #[])
  simp only [Prod.mk.injEq, Result.ok.injEq] at this
  exact this.1.2

theorem Grow.none {ι' : Nm} {n : Nat} (g : Grow ι ι' n n) : ι' = ι := funext fun i => g.same i (by omega)

/-- A cell that is known. -/
theorem Sat.cellOf (S : Sat K ι h w) {id off : Nat} {vs : List AV} {el : TypeId} {g z : Bool} (ho : h.obj id = .cells vs el g z) {p : Nat × Nat} (hp : ι id = some p) {k : IntKind} {n : Int} (hv : vs[off]? = some (.int k n)) :
    w.cell? ⟨p.1, off, none⟩ = some (.int k n) ∧ K.base ≤ p.1 ∧ K.own p.1 ∧ p.1 < w.heap.size ∧ (z = false → w.frozen? ⟨p.1, off, none⟩ = false) := by
  obtain ⟨q, ob, hq, hb1, hown, hlt, hb, c, lo, hi, rfl, ⟨l1, l2, hc, hl⟩, h1, h2, h3⟩ := S.at ho trivial
  obtain rfl : p = q := by rw [hp] at hq; exact Option.some.inj hq
  obtain ⟨v, hv1, hv2⟩ := hl.get hv
  unfold RV at hv2
  subst hv2
  have hlen : off < l1.length := (List.getElem?_eq_some_iff.1 hv1).1
  have hoff : c[off]? = some (.int k n) := by rw [← Array.getElem?_toList, hc, List.getElem?_append_left hlen]; exact hv1
  refine ⟨by rw [cell_of hb]; exact hoff, hb1, hown, hlt, fun hz => ?_⟩
  rw [frozen_of hb]
  have hk := (Array.getElem?_eq_some_iff.1 hoff).1
  have := (h3 hz).1 off hk
  by_cases h3 : lo ≤ off
  · simp only [h3, decide_true, Bool.true_and, decide_eq_false_iff_not]; omega
  · simp [h3]

/-- One cell is written. -/
theorem Sat.write1 (S : Sat K ι h w) {id off : Nat} {k : IntKind} {m : Int} (e : storeC h id off [.int k m] = some h') {p : Nat × Nat} (hp : ι id = some p) {u : Value} (hc : w.cell? ⟨p.1, off, none⟩ = some u) (hf : w.frozen? ⟨p.1, off, none⟩ = false) :
    Sat K ι h' (w.setCell ⟨p.1, off, none⟩ (.int k m)) ∧ w.heap.size ≤ (w.setCell ⟨p.1, off, none⟩ (.int k m)).heap.size ∧ (∀ b, b < w.heap.size → ¬ (K.base ≤ b ∧ K.own b) → (w.setCell ⟨p.1, off, none⟩ (.int k m)).heap[b]? = w.heap[b]?) ∧ h'.nx = h.nx ∧ h'.df = h.df := by
  have hn : h'.nx = h.nx ∧ h'.df = h.df := by
    unfold storeC at e
    split at e
    · obtain ⟨_, rfl⟩ := cond_some e
      exact ⟨AH.put_nx, AH.put_df⟩
    · cases e
  obtain ⟨ι', w', es, h1, h2, h3, h4, h5⟩ := storeC_ok (P := K.P) S hp e (vs := [.int k m]) (RVs_cons (by unfold RV; rfl) RVs_nil) (by rw [hn.1]; intro i h1 h2; omega)
  rw [hn.1] at h2
  obtain rfl := h2.none
  have hst : SRun K.P (storeCells ⟨p.1, off, none⟩ [.int k m] 0) w () (w.setCell ⟨p.1, off, none⟩ (.int k m)) ([⟨.cell ⟨p.1, off, none⟩, true, false⟩] ++ []) := by
    unfold storeCells
    rw [add_none]
    exact SRun.bind (SRun.store (P := K.P) hc hf (by simp) (by simp)) (SRun.pure _)
  obtain rfl := SRun.det h1 hst
  exact ⟨h3, h4.size, h4.kept, hn⟩

/-- A function without a body that says these. -/
theorem eok_of {e : Array Value → Sem Value} {g : FuncId} (hx : ExtFn P g e) {vs : Array Value} {u : Value} {v : AV} {w' : World} {es : List Event} (hr : SRun P (e vs) w u w' es) (hs : ∀ x ∈ es, x.sync = true ∧ ∀ g, x.loc ≠ .mark (.extern g)) (hn : h'.nx = h.nx) (S' : Sat K ι h' w') (hv : RV ι v u)
    (hf : FineG K w w' es.toArray) (hd : deafBehind h.df es.toArray = h'.df) : EOk P K ι h w (callFunc g vs) v h' := fun _ =>
  ⟨ι, w', .value u, _, ext_run hx hr, by rw [hn]; exact Grow.refl _ _, S', hv, fun fn => by rw [seen_sync fn hs]; exact ⟨hf, hd⟩⟩

theorem RVs_arg {a : AV} {l : List AV} {vs : Array Value} (h : RVs ι (a :: l) vs.toList) : ∃ v r, vs.toList = v :: r ∧ vs[0]? = some v ∧ RV ι a v ∧ RVs ι l r := by
  obtain ⟨v, r, h1, h2, h3⟩ := RVs_cons_inv h
  exact ⟨v, r, h1, by rw [← Array.getElem?_toList, h1]; rfl, h2, h3⟩

theorem Sat.df (S : Sat K ι h w) (d : Nat) : Sat K ι { h with df := d } w := ⟨S.objs, S.inj, S.lo, S.bs, S.old, S.os, S.tape, S.output⟩

theorem fine_own {w' : World} {es : List Event} (hs : w.heap.size ≤ w'.heap.size) (hk : ∀ b, b < w.heap.size → ¬ (K.base ≤ b ∧ K.own b) → w'.heap[b]? = w.heap[b]?) (he : ∀ e ∈ es, EvG K w'.heap.size e) (ho : w'.os = w.os) (ht : w'.tape = w.tape) (hu : w'.output = w.output) : FineG K w w' es.toArray :=
  ⟨hs, hk, fun e h => he e (by simpa using h), ho, ht, hu⟩

theorem evg_cell {n b off : Nat} {wr : Bool} (h1 : K.base ≤ b) (h2 : K.own b) (h3 : b < n) : EvG K n ⟨.cell ⟨b, off, none⟩, wr, true⟩ := .inl ⟨h1, h2, h3⟩

/-- A function without a body that does what an operation may do. -/
theorem eok_l {e : Array Value → Sem Value} {g : FuncId} (hx : ExtFn P g e) (S : Sat K ι h w) {vs : Array Value} {v : AV} (hl : LOk P K ι h w (e vs) v h') : EOk P K ι h w (callFunc g vs) v h' :=
  VOk.ext S fun hf => by
    obtain ⟨ι', w', nv, es, h1, h2, h3, h4, h5, h6⟩ := hl hf
    refine ⟨ι', w', .value nv, _, ext_run hx h1, h2, h3, h4, ⟨h5.size, h5.kept, fun e he => ?_⟩, h6⟩
    rcases List.mem_cons.1 he with rfl | he
    · unfold EvF extE; trivial
    · exact h5.evs e he

/-- FUNCTIONS WITHOUT A BODY. -/
theorem ext_ok (FX : FitsX P E) : ∀ g n rs x, E.ft.get g = some ⟨none, n, rs, x⟩ → ∀ (K : Ctx) ι h w args (vs : Array Value) v h', K.P = P → Sat K ι h w → RVs ι args vs.toList → extA x args h = some (.val v h') → EOk P K ι h w (callFunc g vs) v h' := by
  intro g n rs x hg K ι h w args vs v h' hP S ha e
  unfold extA at e
  split at e
  · -- noEscape
    cases e
    obtain ⟨ef, hx, hev⟩ := FX.noEscape g n rs hg
    obtain ⟨u, rfl, hu⟩ := args1 ha
    exact eok_of hx (es := []) (by rw [hev]; exact SRun.pure _) (by simp) rfl S hu (FineG.refl w) rfl
  · cases e
    obtain ⟨ef, hx, hev⟩ := FX.false_ g n rs hg
    exact eok_of hx (es := []) (by rw [hev]; exact SRun.pure _) (by simp) rfl S (by unfold RV; rfl) (FineG.refl w) rfl
  · -- race
    rename_i id off
    obtain ⟨m, hx, hm⟩ := FX.race g n rs hg
    split at e
    · rename_i cvs el cg cz ho
      cases e
      obtain ⟨u, rfl, hu⟩ := args1 ha
      obtain ⟨p, hp, rfl⟩ := ptr_inv hu
      obtain ⟨q, ob, hq, hb1, hown, hlt, _⟩ := S.at ho trivial
      obtain rfl : p = q := by rw [hp] at hq; exact Option.some.inj hq
      have hev : EvG K w.heap.size (mkE (m ⟨p.1, off, none⟩)) := by
        rcases hm with rfl | rfl | rfl | rfl | rfl <;> exact .inl ⟨hb1, hown, hlt⟩
      have hnd : (mkE (m ⟨p.1, off, none⟩)).loc ≠ .mark .disable ∧ (mkE (m ⟨p.1, off, none⟩)).loc ≠ .mark .enable := by
        rcases hm with rfl | rfl | rfl | rfl | rfl <;> simp [mkE]
      refine eok_of hx (run_marked m ⟨p.1, off, none⟩ rfl) (fun x hx => ?_) rfl S (by unfold RV; exact ⟨#[], rfl, RVs_nil⟩) (fine_own (Nat.le_refl _) (fun _ _ _ => rfl) (fun e he => ?_) rfl rfl rfl) (deaf_still (fun e he => ?_) _)
      · simp at hx; subst hx
        refine ⟨rfl, fun f => ?_⟩
        rcases hm with rfl | rfl | rfl | rfl | rfl <;> simp [mkE]
      · simp at he; subst he; exact hev
      · simp at he; subst he; exact hnd
    · cases e
  · -- disable
    cases e
    have hx := FX.dis g n rs hg
    refine eok_of hx (run_mark0 .disable vs) (fun x hx => ?_) rfl (S.df _) (by unfold RV; exact ⟨#[], rfl, RVs_nil⟩) (fine_own (Nat.le_refl _) (fun _ _ _ => rfl) (fun e he => ?_) rfl rfl rfl) rfl
    · simp at hx; subst hx; exact ⟨rfl, by simp [mkE]⟩
    · simp at he; subst he; exact .inr (.inl rfl)
  · -- enable
    cases hz : Nat.beq h.df 0 with
    | true => rw [hz] at e; cases e
    | false =>
      rw [hz] at e
      cases e
      have hx := FX.en g n rs hg
      refine eok_of hx (run_mark0 .enable vs) (fun x hx => ?_) rfl (S.df _) (by unfold RV; exact ⟨#[], rfl, RVs_nil⟩) (fine_own (Nat.le_refl _) (fun _ _ _ => rfl) (fun e he => ?_) rfl rfl rfl) rfl
      · simp at hx; subst hx; exact ⟨rfl, by simp [mkE]⟩
      · simp at he; subst he; exact .inr (.inr rfl)
  · -- add
    rename_i k id off k' d
    have hx := FX.atAdd g n rs k hg
    split at e
    · rename_i cvs el cg cz ho
      split at e
      · rename_i k'' m hm
        cases hc : (ikEq k k' && ikEq k k'') with
        | false => rw [hc] at e; cases e
        | true =>
          rw [hc] at e
          rw [Bool.and_eq_true] at hc
          obtain rfl := ikEq_true hc.1
          obtain rfl := ikEq_true hc.2
          simp only [cond_true, Option.map_eq_some_iff] at e
          obtain ⟨h1, hst, e⟩ := e
          cases e
          obtain ⟨u, r, hvs, _, hu, hr⟩ := RVs_arg ha
          obtain ⟨p, hp, rfl⟩ := ptr_inv hu
          obtain ⟨u2, r2, hr', hu2, hr2⟩ := RVs_cons_inv hr
          rw [RVs_nil_inv hr2] at hr'
          unfold RV at hu2
          subst hu2
          have hvs : vs = #[.pointer (some ⟨p.1, off, none⟩), .int k d] := by apply Array.toList_inj.1; rw [hvs, hr']
          subst hvs
          have hz : cz = false := by
            unfold storeC at hst
            rw [ho] at hst
            cases cz with
            | false => rfl
            | true => cases hst
          obtain ⟨c1, c2, c3, c4, c5⟩ := S.cellOf ho hp hm
          obtain ⟨s1, s2, s3, s4, s5⟩ := S.write1 hst hp c1 (c5 hz)
          refine eok_of hx (run_add c1 (c5 hz)) (fun x hx => ?_) s4 s1 (by unfold RV; rfl) (fine_own s2 s3 (fun e he => ?_) (s1.os.trans S.os.symm) (s1.tape.trans S.tape.symm) (s1.output.trans S.output.symm)) ?_
          · simp at hx; rcases hx with rfl | rfl <;> exact ⟨rfl, by simp [rdA, wrA]⟩
          · simp at he; rcases he with rfl | rfl <;> exact evg_cell c2 c3 (by omega)
          · rw [s5]; exact deaf_still (fun e he => by simp at he; rcases he with rfl | rfl <;> simp [rdA, wrA]) _
      · cases e
    · cases e
  · -- load
    rename_i k id off
    have hx := FX.atLoad g n rs k hg
    split at e
    · rename_i cvs el cg cz ho
      split at e
      · rename_i k'' m hm
        cases hc : ikEq k k'' with
        | false => rw [hc] at e; cases e
        | true =>
          rw [hc] at e
          obtain rfl := ikEq_true hc
          cases e
          obtain ⟨u, rfl, hu⟩ := args1 ha
          obtain ⟨p, hp, rfl⟩ := ptr_inv hu
          obtain ⟨c1, c2, c3, c4, c5⟩ := S.cellOf ho hp hm
          refine eok_of hx (run_loadT c1) (fun x hx => ?_) rfl S (by unfold RV; rfl) (fine_own (Nat.le_refl _) (fun _ _ _ => rfl) (fun e he => ?_) rfl rfl rfl) (deaf_still (fun e he => ?_) _)
          · simp at hx; subst hx; exact ⟨rfl, by simp [rdA]⟩
          · simp at he; subst he; exact evg_cell c2 c3 c4
          · simp at he; subst he; simp [rdA]
      · cases e
    · cases e
  · -- compare and swap
    rename_i k id off k' o k1 b
    have hx := FX.atCas g n rs k hg
    split at e
    · rename_i cvs el cg ho
      split at e
      · rename_i k'' m hm
        cases hc : (ikEq k k' && ikEq k k'' && ikEq k k1) with
        | false => rw [hc] at e; cases e
        | true =>
          rw [hc] at e
          rw [Bool.and_eq_true, Bool.and_eq_true] at hc
          obtain rfl := ikEq_true hc.1.1
          obtain rfl := ikEq_true hc.1.2
          obtain rfl := ikEq_true hc.2
          obtain ⟨u, r, hvs, _, hu, hr⟩ := RVs_arg ha
          obtain ⟨p, hp, rfl⟩ := ptr_inv hu
          obtain ⟨u2, r2, hr', hu2, hr2⟩ := RVs_cons_inv hr
          obtain ⟨u3, r3, hr3', hu3, hr3⟩ := RVs_cons_inv hr2
          rw [RVs_nil_inv hr3] at hr3'
          unfold RV at hu2 hu3
          subst hu2; subst hu3
          have hvs : vs = #[.pointer (some ⟨p.1, off, none⟩), .int k o, .int k b] := by apply Array.toList_inj.1; rw [hvs, hr', hr3']
          subst hvs
          obtain ⟨c1, c2, c3, c4, c5⟩ := S.cellOf ho hp hm
          simp only [cond_true] at e
          cases hno : (m == o) with
          | true =>
            rw [hno] at e
            simp only [cond_true, Option.map_eq_some_iff] at e
            obtain ⟨h1, hst, e⟩ := e
            cases e
            obtain rfl := eq_of_beq hno
            obtain ⟨s1, s2, s3, s4, s5⟩ := S.write1 hst hp c1 (c5 rfl)
            refine eok_of hx (run_cas_hit c1 (c5 rfl)) (fun x hx => ?_) s4 s1 (by unfold RV; rfl) (fine_own s2 s3 (fun e he => ?_) (s1.os.trans S.os.symm) (s1.tape.trans S.tape.symm) (s1.output.trans S.output.symm)) ?_
            · simp at hx; rcases hx with rfl | rfl <;> exact ⟨rfl, by simp [rdA, wrA]⟩
            · simp at he; rcases he with rfl | rfl <;> exact evg_cell c2 c3 (by omega)
            · rw [s5]; exact deaf_still (fun e he => by simp at he; rcases he with rfl | rfl <;> simp [rdA, wrA]) _
          | false =>
            rw [hno] at e
            cases e
            have hne : m ≠ o := by simpa using hno
            refine eok_of hx (run_cas_miss c1 (c5 rfl) hne) (fun x hx => ?_) rfl S (by unfold RV; rfl) (fine_own (Nat.le_refl _) (fun _ _ _ => rfl) (fun e he => ?_) rfl rfl rfl) (deaf_still (fun e he => ?_) _)
            · simp at hx; subst hx; exact ⟨rfl, by simp [rdA]⟩
            · simp at he; subst he; exact evg_cell c2 c3 c4
            · simp at he; subst he; simp [rdA]
      · cases e
    · cases e
  · -- cmpStr
    rename_i a b
    cases e
    have hx := FX.cmpStr g n rs hg
    obtain ⟨u, r, hvs, _, hu, hr⟩ := RVs_arg ha
    obtain ⟨u2, r2, hr', hu2, hr2⟩ := RVs_cons_inv hr
    rw [RVs_nil_inv hr2] at hr'
    obtain rfl := str_inv hu
    obtain rfl := str_inv hu2
    have hvs : vs = #[.string ⟨a.toArray⟩, .string ⟨b.toArray⟩] := by apply Array.toList_inj.1; rw [hvs, hr']
    subst hvs
    refine eok_of hx (es := []) ?_ (by simp) rfl S (by unfold int64 RV; rfl) (FineG.refl w) rfl
    show SRun P (do Pure.pure (goInt (Extern.BytealgCompare.cmp (← Extern.Bytes.bytesOf (.string ⟨a.toArray⟩)) (← Extern.Bytes.bytesOf (.string ⟨b.toArray⟩))))) w _ w []
    exact SRun.bind0 (SRun.pure _) (SRun.bind0 (SRun.pure _) (SRun.pure _))
  · -- mapClone
    rename_i t id
    have hx := FX.mapClone g n rs hg
    split at e
    · rename_i es ck ho
      cases e
      obtain ⟨u, rfl, hu⟩ := args1 ha
      unfold RV at hu
      obtain ⟨x, rfl, hx1⟩ := hu
      obtain ⟨p, hp, rfl⟩ := map_inv hx1
      obtain ⟨q, ob, hq, b1, b2, b3, hb, es', rfl, hr⟩ := S.at ho trivial
      obtain rfl : p = q := by rw [hp] at hq; exact Option.some.inj hq
      obtain ⟨g1, g2⟩ := SRun.getObjE (P := P) (K := K) hb (by simp) rfl b1 b2
      have hl : LOk P K ι h w (Extern.MapsClone.clone #[.iface t (.map (some p.1))]) (.iface t (.map h.nx)) (h.new (.map es ck)) := by
        refine LOk.bindE g1 g2 ?_
        refine LOk_newObj S (cap := 0) (o := .map es ck) (ob := .map es' ck) ⟨es', rfl, hr⟩ (fun b => .iface t (.map (some b))) (fun b w => SRun.pure _) (fun ι' b hb _ => ?_)
        unfold RV
        refine ⟨_, rfl, ?_⟩
        unfold RV; exact ⟨_, hb, rfl⟩
      exact eok_l hx S hl
    · cases e
  · cases e
  · cases e
end
end Go.Ev
/- Structs and arrays whose parts, to the bottom, are bools, integers and strings: compared, and as keys. -/
namespace Go.Ev

def valO (ag : Bool) (x : Array Value) : Value := if ag then .agg x else x.getD 0 undef

structure FlatT (P : Program) (D : Nat) (t : TypeId) (ks : List Nat) (ag : Bool) : Prop where
  agg : ∀ w, SRun P (isAgg t) w ag w []
  size : ∀ w, SRun P (sizeOf t) w ks.length w []
  sc : ag = false → ks.length = 1
  pos : 0 < ks.length
  ck : ∀ (n : Nat) (b : Bool) (w : World) (x : Array Value) (l : List AV) (ι : Nm), D ≤ n → RVs ι l x.toList → kindL ks l = true → SRun P (Instr.checkKey b n t (valO ag x)) w () w []
  eq : ∀ (n : Nat) (w : World) (x y : Array Value) (l m : List AV) (ι : Nm) (r : Bool), D ≤ n → RVs ι l x.toList → RVs ι m y.toList → kindL ks l = true → eqL l m = some r → SRun P (Op.equalIn n t (valO ag x) (valO ag y)) w r w []

theorem FlatT.mono {P : Program} {D D' : Nat} {t : TypeId} {ks : List Nat} {ag : Bool} (h : FlatT P D t ks ag) (hD : D ≤ D') : FlatT P D' t ks ag :=
  ⟨h.agg, h.size, h.sc, h.pos, fun n b w x l ι hn => h.ck n b w x l ι (by omega), fun n w x y l m ι r hn => h.eq n w x y l m ι r (by omega)⟩

theorem kindL_len : ∀ {ks : List Nat} {l : List AV}, kindL ks l = true → l.length = ks.length
  | [], [], _ => rfl
  | [], _ :: _, h => by cases h
  | _ :: _, [], h => by cases h
  | k :: ks, a :: l, h => by
    unfold kindL at h
    rw [Bool.and_eq_true] at h
    simp [kindL_len h.2]
theorem kindL_app : ∀ {ks ks' : List Nat} {l : List AV}, kindL (ks ++ ks') l = true → ∃ l1 l2, l = l1 ++ l2 ∧ kindL ks l1 = true ∧ kindL ks' l2 = true
  | [], ks', l, h => ⟨[], l, rfl, rfl, h⟩
  | k :: ks, ks', [], h => by cases h
  | k :: ks, ks', a :: l, h => by
    have h : (_ && kindL (ks ++ ks') l) = true := h
    rw [Bool.and_eq_true] at h
    obtain ⟨l1, l2, rfl, h1, h2⟩ := kindL_app h.2
    exact ⟨a :: l1, l2, rfl, by unfold kindL; rw [Bool.and_eq_true]; exact ⟨h.1, h1⟩, h2⟩
theorem eqL_app : ∀ {l1 l2 m : List AV} {r : Bool}, eqL (l1 ++ l2) m = some r → ∃ m1 m2 r1 r2, m = m1 ++ m2 ∧ l1.length = m1.length ∧ eqL l1 m1 = some r1 ∧ eqL l2 m2 = some r2 ∧ r = (r1 && r2)
  | [], l2, m, r, h => ⟨[], m, true, r, rfl, rfl, rfl, h, by simp⟩
  | a :: l1, l2, [], r, h => by cases h
  | a :: l1, l2, b :: m, r, h => by
    have h : (match eqS a b with | none => none | some false => (match eqL (l1 ++ l2) m with | none => none | some _ => some false) | some true => eqL (l1 ++ l2) m) = some r := h
    cases he : eqS a b with
    | none => rw [he] at h; cases h
    | some q =>
      rw [he] at h
      cases q with
      | true =>
        obtain ⟨m1, m2, r1, r2, rfl, hl, h1, h2, rfl⟩ := eqL_app (show eqL (l1 ++ l2) m = some r from h)
        exact ⟨b :: m1, m2, r1, r2, rfl, by simp [hl], by unfold eqL; rw [he]; exact h1, h2, rfl⟩
      | false =>
        simp only at h
        cases hq : eqL (l1 ++ l2) m with
        | none => rw [hq] at h; cases h
        | some q =>
          rw [hq] at h
          cases h
          obtain ⟨m1, m2, r1, r2, rfl, hl, h1, h2, _⟩ := eqL_app hq
          exact ⟨b :: m1, m2, false, r2, rfl, by simp [hl], by unfold eqL; rw [he]; simp only [h1], h2, rfl⟩
theorem eqL_len {l m : List AV} {r : Bool} (h : eqL l m = some r) : l.length = m.length := by
  obtain ⟨m1, m2, r1, r2, rfl, h1, h2, h3, _⟩ := eqL_app (l1 := l) (l2 := []) (by simpa using h)
  cases m2 with
  | nil => simpa using h1
  | cons _ _ => cases h3

theorem RVs_app_inv {ι : Nm} {l1 l2 : List AV} {vs : List Value} (h : RVs ι (l1 ++ l2) vs) : RVs ι l1 (vs.take l1.length) ∧ RVs ι l2 (vs.drop l1.length) := by
  induction l1 generalizing vs with
  | nil => exact ⟨by simpa using RVs_nil, by simpa using h⟩
  | cons a l1 ih =>
    obtain ⟨v, r, rfl, h1, h2⟩ := RVs_cons_inv (show RVs ι (a :: (l1 ++ l2)) vs from h)
    obtain ⟨h3, h4⟩ := ih h2
    exact ⟨by simpa using RVs_cons h1 h3, by simpa using h4⟩

section
variable {P : Program} {D : Nat} {w : World}

theorem part_ok {t : TypeId} {ks : List Nat} {ag : Bool} (h : FlatT P D t ks ag) {cs : Array Value} {off : Nat} (hs : off + ks.length ≤ cs.size) : SRun P (part t cs off) w (valO ag (cs.extract off (off + ks.length))) w [] := by
  unfold part
  refine SRun.bind0 (h.agg w) ?_
  cases ag with
  | true => exact SRun.bind0 (h.size w) (SRun.pure _)
  | false =>
    have h1 := h.sc rfl
    have hlt : off < cs.size := by omega
    have hc : cs[off]? = some cs[off] := Array.getElem?_eq_getElem hlt
    have : valO false (cs.extract off (off + ks.length)) = cs[off] := by
      unfold valO
      rw [h1]
      simp only [Bool.false_eq_true, if_false, Array.getD_eq_getD_getElem?, Array.getElem?_extract]
      rw [if_pos (by omega), Nat.add_zero, hc]
      rfl
    rw [this]
    simp only [hc]
    exact SRun.pure _

/-- Parts, one behind the other. -/
inductive Itm {α : Type} (P : Program) (D : Nat) (ty : α → TypeId) (off : α → Nat) : Nat → List α → List Nat → Prop
  | nil {o : Nat} : Itm P D ty off o [] []
  | cons {o : Nat} {a : α} {as : List α} {ks ks' : List Nat} {ag : Bool} : off a = o → FlatT P D (ty a) ks ag → Itm P D ty off (o + ks.length) as ks' → Itm P D ty off o (a :: as) (ks ++ ks')

theorem extract_list (x : Array Value) (o n : Nat) : (x.extract o (o + n)).toList = (x.toList.drop o).take n := by
  rw [Array.toList_extract]
  simp [List.extract_eq_take_drop]

theorem items_eq {α : Type} {ty : α → TypeId} {off : α → Nat} {d : Nat} (hd : D ≤ d) {x y : Array Value} {B : α → Option Bool × Unit → Sem (ForInStep (Option Bool × Unit))} {ι : Nm} : ∀ {o : Nat} {as : List α} {ks : List Nat}, Itm P D ty off o as ks → (∀ a ∈ as, ∀ s, B a s = (do
      let u ← part (ty a) x (off a)
      let v ← part (ty a) y (off a)
      let r ← Op.equalIn d (ty a) u v
      if (!r) = true then pure (ForInStep.done (some false, ())) else pure (ForInStep.yield (none, ())))) →
    ∀ {l m : List AV} {r : Bool}, RVs ι l (x.toList.drop o) → RVs ι m (y.toList.drop o) → kindL ks l = true → eqL l m = some r → SRun P (forIn as ((none, ()) : Option Bool × Unit) B) w (if r then (none, ()) else (some false, ())) w [] := by
  intro o as ks H
  induction H with
  | nil =>
    intro _ l m r hx hy hk he
    have : l = [] := by cases l with | nil => rfl | cons _ _ => cases hk
    subst this
    cases m with
    | nil => cases he; rw [List.forIn_nil]; exact SRun.pure _
    | cons _ _ => cases he
  | @cons o a as ks ks' ag ho hf _ ih =>
    intro hB l m r hx hy hk he
    obtain ⟨l1, l2, rfl, hk1, hk2⟩ := kindL_app hk
    obtain ⟨m1, m2, r1, r2, rfl, hl, he1, he2, rfl⟩ := eqL_app he
    obtain ⟨hx1, hx2⟩ := RVs_app_inv hx
    obtain ⟨hy1, hy2⟩ := RVs_app_inv hy
    have hlk := kindL_len hk1
    have hxl := hx1.length
    have hyl := hy1.length
    rw [← hl] at hy1 hy2 hyl
    rw [hlk] at hx1 hx2 hxl hy1 hy2 hyl
    simp only [List.length_take, List.length_drop, Array.length_toList] at hxl hyl
    have hpos := hf.pos
    rw [← extract_list] at hx1 hy1
    rw [List.drop_drop] at hx2 hy2
    rw [List.forIn_cons, hB a (by simp)]
    subst ho
    have hs := hf.eq d w _ _ l1 m1 ι r1 hd hx1 hy1 hk1 he1
    have hb : SRun P (do
        let u ← part (ty a) x (off a)
        let v ← part (ty a) y (off a)
        let r ← Op.equalIn d (ty a) u v
        if (!r) = true then pure (ForInStep.done (some false, ())) else pure (ForInStep.yield (none, ()))) w (if r1 then ForInStep.yield (none, ()) else ForInStep.done (some false, ())) w [] := by
      refine SRun.bind0 (part_ok hf (by omega)) (SRun.bind0 (part_ok hf (by omega)) (SRun.bind0 hs ?_))
      cases r1
      · exact SRun.pure _
      · exact SRun.pure _
    refine SRun.bind0 hb ?_
    cases r1 with
    | false => exact SRun.pure _
    | true =>
      simp only [Bool.true_and]
      exact ih (fun a ha => hB a (by simp [ha])) hx2 hy2 hk2 he2

theorem items_ck {α : Type} {ty : α → TypeId} {off : α → Nat} {d : Nat} (hd : D ≤ d) {b : Bool} {x : Array Value} {B : α → PUnit → Sem (ForInStep PUnit)} {ι : Nm} : ∀ {o : Nat} {as : List α} {ks : List Nat}, Itm P D ty off o as ks → (∀ a ∈ as, ∀ s, ∀ n ag, SRun P (part (ty a) x (off a)) w n w [] → SRun P (Instr.checkKey b d (ty a) n) w () w [] → ∀ z, SRun P (sizeOf (ty a)) w z w [] → ag = z → SRun P (B a s) w (.yield ⟨⟩) w []) →
    ∀ {l : List AV}, RVs ι l (x.toList.drop o) → kindL ks l = true → SRun P (forIn as PUnit.unit B) w PUnit.unit w [] := by
  intro o as ks H
  induction H with
  | nil =>
    intro _ l hx hk
    rw [List.forIn_nil]; exact SRun.pure _
  | @cons o a as ks ks' ag ho hf _ ih =>
    intro hB l hx hk
    obtain ⟨l1, l2, rfl, hk1, hk2⟩ := kindL_app hk
    obtain ⟨hx1, hx2⟩ := RVs_app_inv hx
    have hlk := kindL_len hk1
    have hxl := hx1.length
    rw [hlk] at hx1 hx2 hxl
    simp only [List.length_take, List.length_drop, Array.length_toList] at hxl
    have hpos := hf.pos
    rw [← extract_list] at hx1
    rw [List.drop_drop] at hx2
    rw [List.forIn_cons]
    subst ho
    refine SRun.bind0 (hB a (by simp) _ _ ks.length (part_ok hf (by omega)) (hf.ck d b w _ l1 ι hd hx1 hk1) _ (hf.size w) rfl) ?_
    exact ih (fun a ha => hB a (by simp [ha])) hx2 hk2
end
end Go.Ev
/- Flat types, put together. -/
namespace Go.Ev

section
variable {P : Program} {D : Nat} {w : World}

theorem agg_run {t : TypeId} {d : TypeDesc} {ag : Bool} (h : P.underlying t = some d) (ha : ag = match d with | .struct _ | .array _ _ => true | _ => false) : SRun P (isAgg t) w ag w [] := by
  unfold isAgg
  refine SRun.bind0 (SRun.underlying h) ?_
  subst ha
  cases d <;> exact SRun.pure _

theorem flat_one {ι : Nm} {k : Nat} {l : List AV} {x : Array Value} (hx : RVs ι l x.toList) (hk : kindL [k] l = true) : ∃ a v, l = [a] ∧ x = #[v] ∧ RV ι a v ∧ (match a with | .bool _ => Nat.beq k 0 | .int _ _ => Nat.beq k 1 | .str _ => Nat.beq k 2 | _ => false) = true := by
  cases l with
  | nil => cases hk
  | cons a l =>
    unfold kindL at hk
    rw [Bool.and_eq_true] at hk
    cases l with
    | cons _ _ => have := hk.2; cases this
    | nil =>
      obtain ⟨v, rfl, hv⟩ := args1 hx
      exact ⟨a, v, rfl, rfl, hv, hk.1⟩
theorem eqL_one {a : AV} {m : List AV} {r : Bool} (h : eqL [a] m = some r) : ∃ b, m = [b] ∧ eqS a b = some r := by
  have hl := eqL_len h
  cases m with
  | nil => simp at hl
  | cons b m =>
    cases m with
    | cons _ _ => simp at hl
    | nil =>
      refine ⟨b, rfl, ?_⟩
      unfold eqL at h
      cases he : eqS a b with
      | none => rw [he] at h; cases h
      | some q => rw [he] at h; cases q <;> exact h

theorem flat_int {t : TypeId} {k : IntKind} {i : TypeInfo} (h : P.underlying t = some (.int k)) (hi : P.info? t = some i) (hs : i.size = 1) : FlatT P 1 t [1] false := by
  refine ⟨fun w => agg_run h rfl, fun w => by have := SRun.sizeOf (w := w) hi; rw [hs] at this; exact this, fun _ => rfl, by decide, fun n b w x l ι hn hx hk => ?_, fun n w x y l m ι r hn hx hy hk he => ?_⟩
  · obtain ⟨a, v, rfl, rfl, hv, hka⟩ := flat_one hx hk
    obtain ⟨n, rfl⟩ : ∃ n', n = n' + 1 := ⟨n - 1, by omega⟩
    unfold Instr.checkKey
    refine SRun.bind0 (SRun.underlying h) ?_
    cases a <;> first | (cases hka; done) | skip
    unfold RV at hv; subst hv
    exact SRun.pure _
  · obtain ⟨a, v, rfl, rfl, hv, hka⟩ := flat_one hx hk
    obtain ⟨b, rfl, he1⟩ := eqL_one he
    clear he
    obtain ⟨u, rfl, hu⟩ := args1 hy
    obtain ⟨n, rfl⟩ : ∃ n', n = n' + 1 := ⟨n - 1, by omega⟩
    unfold Op.equalIn
    refine SRun.bind0 (SRun.underlying h) ?_
    cases a <;> first | (cases hka; done) | skip
    rename_i k1 a
    cases b <;> first | (cases he1; done) | skip
    rename_i k2 b
    unfold RV at hv hu; subst hv; subst hu
    have he1 : cond (ikEq k1 k2) (some (a == b)) none = some r := he1
    cases hik : ikEq k1 k2 with
    | false => rw [hik] at he1; cases he1
    | true =>
      rw [hik] at he1
      cases he1
      obtain rfl := ikEq_true hik
      show SRun P (if k1 = k1 then pure (a == b) else _) w _ w _
      rw [if_pos rfl]
      exact SRun.pure _

theorem flat_str {t : TypeId} {i : TypeInfo} (h : P.underlying t = some .string) (hi : P.info? t = some i) (hs : i.size = 1) : FlatT P 1 t [2] false := by
  refine ⟨fun w => agg_run h rfl, fun w => by have := SRun.sizeOf (w := w) hi; rw [hs] at this; exact this, fun _ => rfl, by decide, fun n b w x l ι hn hx hk => ?_, fun n w x y l m ι r hn hx hy hk he => ?_⟩
  · obtain ⟨a, v, rfl, rfl, hv, hka⟩ := flat_one hx hk
    obtain ⟨n, rfl⟩ : ∃ n', n = n' + 1 := ⟨n - 1, by omega⟩
    unfold Instr.checkKey
    refine SRun.bind0 (SRun.underlying h) ?_
    cases a <;> first | (cases hka; done) | skip
    unfold RV at hv; subst hv
    exact SRun.pure _
  · obtain ⟨a, v, rfl, rfl, hv, hka⟩ := flat_one hx hk
    obtain ⟨b, rfl, he1⟩ := eqL_one he
    clear he
    obtain ⟨u, rfl, hu⟩ := args1 hy
    obtain ⟨n, rfl⟩ : ∃ n', n = n' + 1 := ⟨n - 1, by omega⟩
    unfold Op.equalIn
    refine SRun.bind0 (SRun.underlying h) ?_
    cases a <;> first | (cases hka; done) | skip
    rename_i a
    cases b <;> first | (cases he1; done) | skip
    rename_i b
    unfold RV at hv hu; subst hv; subst hu
    unfold eqS at he1
    cases he1
    show SRun P (pure ((⟨a.toArray⟩ : ByteArray) == ⟨b.toArray⟩)) w _ w _
    rw [bytes_beq]
    exact SRun.pure _

theorem flat_struct {t : TypeId} {fs : Array Field} {i : TypeInfo} {ks : List Nat} (h : P.underlying t = some (.struct fs)) (hi : P.info? t = some i) (hs : i.size = ks.length) (hst : P.stoodInHeld t = false) (hn : ∀ f ∈ fs.toList, f.name ≠ "_")
    (hI : Itm P D (fun f : Field => f.type) (fun f : Field => f.offset) 0 fs.toList ks) (hpos : 0 < ks.length) : FlatT P (D + 1) t ks true := by
  refine ⟨fun w => agg_run h rfl, fun w => by have := SRun.sizeOf (w := w) hi; rw [hs] at this; exact this, fun h => (by cases h), hpos, fun n b w x l ι hd hx hk => ?_, fun n w x y l m ι r hd hx hy hk he => ?_⟩
  · obtain ⟨n, rfl⟩ : ∃ n', n = n' + 1 := ⟨n - 1, by omega⟩
    unfold Instr.checkKey
    refine SRun.bind0 (SRun.underlying h) ?_
    simp only [valO, if_true]
    rw [← Array.forIn_toList]
    refine SRun.bind0 (items_ck (d := n) (b := b) (x := x) (by omega) hI (fun f hf s v ag hp hc _ _ _ => ?_) (by simpa using hx) hk) (SRun.pure _)
    simp only [hn f hf, ne_eq, not_false_eq_true, if_true]
    exact SRun.bind0 hp (SRun.bind0 hc (SRun.pure _))
  · obtain ⟨n, rfl⟩ : ∃ n', n = n' + 1 := ⟨n - 1, by omega⟩
    unfold Op.equalIn
    refine SRun.bind0 (SRun.underlying h) ?_
    simp only [valO, if_true]
    refine SRun.bind0 SRun.program ?_
    simp only [hst, Bool.false_eq_true, if_false]
    rw [← Array.forIn_toList]
    refine SRun.bind0 (items_eq (d := n) (x := x) (y := y) (by omega) hI (fun f hf s => ?_) (by simpa using hx) (by simpa using hy) hk he) ?_
    · simp only [hn f hf, ne_eq, not_false_eq_true, if_true]
    · cases r <;> exact SRun.pure _

theorem itm_array {e : TypeId} {ks : List Nat} {ag : Bool} (hF : FlatT P D e ks ag) : ∀ (n s : Nat), Itm P D (fun _ : Nat => e) (fun i => i * ks.length) (s * ks.length) (List.range' s n 1) (List.replicate n ks).flatten
  | 0, s => Itm.nil
  | n + 1, s => by
    rw [List.range'_succ, List.replicate_succ, List.flatten_cons]
    refine Itm.cons rfl hF ?_
    have := itm_array hF n (s + 1)
    rw [Nat.add_mul, Nat.one_mul] at this
    exact this

theorem flat_array {t e : TypeId} {len : Nat} {i : TypeInfo} {ks : List Nat} {ag : Bool} (h : P.underlying t = some (.array len e)) (hi : P.info? t = some i) (hF : FlatT P D e ks ag) (hs : i.size = (List.replicate len ks).flatten.length) (hpos : 0 < (List.replicate len ks).flatten.length) : FlatT P (D + 1) t (List.replicate len ks).flatten true := by
  have hI := itm_array hF len 0
  rw [Nat.zero_mul] at hI
  refine ⟨fun w => agg_run h rfl, fun w => by have := SRun.sizeOf (w := w) hi; rw [hs] at this; exact this, fun h => (by cases h), hpos, fun n b w x l ι hd hx hk => ?_, fun n w x y l m ι r hd hx hy hk he => ?_⟩
  · obtain ⟨n, rfl⟩ : ∃ n', n = n' + 1 := ⟨n - 1, by omega⟩
    unfold Instr.checkKey
    refine SRun.bind0 (SRun.underlying h) ?_
    simp only [valO, if_true]
    rw [Std.Legacy.Range.forIn_eq_forIn_range']
    have e1 : (Std.Legacy.Range.size { start := 0, stop := len, step := 1, step_pos := Nat.one_pos }) = len := by simp [Std.Legacy.Range.size]
    rw [e1]
    refine SRun.bind0 (items_ck (d := n) (b := b) (x := x) (by omega) hI (fun f hf s v z hp hc z' hz hzz => ?_) (by simpa using hx) hk) (SRun.pure _)
    refine SRun.bind0 (hF.size w) ?_
    exact SRun.bind0 hp (SRun.bind0 hc (SRun.pure _))
  · obtain ⟨n, rfl⟩ : ∃ n', n = n' + 1 := ⟨n - 1, by omega⟩
    unfold Op.equalIn
    refine SRun.bind0 (SRun.underlying h) ?_
    simp only [valO, if_true]
    refine SRun.bind0 (hF.size w) ?_
    rw [Std.Legacy.Range.forIn_eq_forIn_range']
    have e1 : (Std.Legacy.Range.size { start := 0, stop := len, step := 1, step_pos := Nat.one_pos }) = len := by simp [Std.Legacy.Range.size]
    rw [e1]
    refine SRun.bind0 (items_eq (d := n) (x := x) (y := y) (by omega) hI (fun f hf s => rfl) (by simpa using hx) (by simpa using hy) hk he) ?_
    cases r <;> exact SRun.pure _

/-- What the table says of flat types. -/
theorem FlatT.says {t : TypeId} {ks : List Nat} {gs : TypeDesc} (h : FlatT P D t ks true) (hD : D ≤ 10000) (hu : P.underlying t = some gs) (hg : P.eqGuardType P.depth t = false) : ∃ gs, P.underlying t = some gs ∧ ∀ (x : Array Value) (l : List AV) (ι : Nm) (w : World), RVs ι l x.toList → kindL ks l = true →
    (∀ b, SRun P (Instr.checkKey b 10000 t (.agg x)) w () w []) ∧
    ∀ (y : Array Value) (m : List AV) (r : Bool), RVs ι m y.toList → eqL l m = some r →
    ∀ (o1 o2 : Operand), ∀ op, (op = BinOp.eql ∨ op = BinOp.neq) → SRun P (eqGuard op t o1 o2 (.agg x) (.agg y)) w () w [] ∧ SRun P (Op.equal t (.agg x) (.agg y)) w r w [] := by
  refine ⟨gs, hu, fun x l ι w hx hk => ⟨fun b => h.ck 10000 b w x l ι hD hx hk, fun y m r hy he o1 o2 op hop => ⟨?_, h.eq 10000 w x y l m ι r hD hx hy hk he⟩⟩⟩
  unfold eqGuard
  have hp : SRun P (do
      let p ← program
      let q ← program
      if (!p.eqGuardType q.depth t) = true then pure () else (do
        let b ← Op.eqGuardIn Op.maxDepth t (.agg x) (.agg y)
        if b = true then unsupported (.noEntry "binop/eql: two nil values of an interface type with methods, in a part of a struct or an array") else pure ())) w () w [] := by
    refine SRun.bind0 SRun.program (SRun.bind0 SRun.program ?_)
    simp only [hg, Bool.not_false, if_true]
    exact SRun.pure _
  rcases hop with rfl | rfl
  · exact hp
  · exact hp
end
end Go.Ev
/- Tables, looked over. -/
namespace Go.Ev

/-! ### types -/
def descB (P : Program) : TD → TypeDesc → Bool
  | .bool, .bool => true
  | .int k, .int k' => ikEq k k'
  | .str, .string => true
  | .ptr e, .pointer e' => Nat.beq e e'
  | .slice e, .slice e' => Nat.beq e e'
  | .map k e, .map k' e' => Nat.beq k k' && Nat.beq e e' && (P.underlying k).isSome
  | .func, .func _ _ _ => true
  | .iface b, .interface ms => b == ms.isEmpty
  | .struct fs, .struct gs => Nat.beq fs.length gs.size && (fs.zip gs.toList).all fun p => Nat.beq p.1.1 p.2.offset && Nat.beq p.1.2.2 p.2.type && (match P.info? p.2.type with | some gi => Nat.beq gi.size p.1.2.1 | none => false)
  | .array n e, .array n' e' => Nat.beq n n' && Nat.beq e e'
  | .uptr, .unsafePointer => true
  | .tuple, .tuple _ => true
  | _, _ => false

def isAggV : Value → Bool
  | .agg _ => true
  | _ => false

def tiokB (P : Program) (t : Nat) (ti : TI) : Bool :=
  match P.info? t, P.underlying t with
  | some i, some d => (match i.zero with
    | some z => Nat.beq i.size ti.size && Nat.beq i.bytes ti.bytes && Nat.beq z.cells.size ti.size && Nat.beq ti.zero.length ti.size && (isAggV z == ti.isAgg) && AV.beqL ti.zero (z.cells.toList.map avScalar) && descB P ti.d d
    | none => false)
  | _, _ => false

def allT {α : Type} (p : Nat → α → Bool) : Tr α → Nat → Nat → Bool
  | .e, _, _ => true
  | .n l v r, a, b => (match v with | some x => p a x | none => true) && (allT p l (a + b) (2 * b) && allT p r (a + 2 * b) (2 * b))

def TrAll {α : Type} (p : Nat → α → Prop) : Tr α → Nat → Nat → Prop
  | .e, _, _ => True
  | .n l v r, a, b => (∀ x, v = some x → p a x) ∧ TrAll p l (a + b) (2 * b) ∧ TrAll p r (a + 2 * b) (2 * b)

theorem TrAll.get {α : Type} {p : Nat → α → Prop} : ∀ {t : Tr α} {a b i : Nat} {x : α}, TrAll p t a b → t.get i = some x → p (a + b * i) x
  | .e, a, b, i, x, _, h => by rw [Tr.get_e] at h; cases h
  | .n l v r, a, b, i, x, H, h => by
    obtain ⟨h1, h2, h3⟩ := H
    rw [Tr.get_n] at h
    by_cases h0 : i = 0
    · subst h0
      simp at h
      have := h1 x h
      simpa using this
    · by_cases hodd : i % 2 = 1
      · simp [h0, hodd] at h
        have := TrAll.get h2 h
        have e : a + b + 2 * b * (i / 2) = a + b * i := by
          have : i = 2 * (i / 2) + 1 := by omega
          conv => rhs; rw [this]
          rw [Nat.mul_add, Nat.mul_one, ← Nat.mul_assoc, Nat.mul_comm b 2]; omega
        rw [e] at this; exact this
      · simp [h0, hodd] at h
        have := TrAll.get h3 h
        have e : a + 2 * b + 2 * b * (i / 2 - 1) = a + b * i := by
          have : i = 2 * (i / 2 - 1) + 2 := by omega
          conv => rhs; rw [this]
          rw [Nat.mul_add, ← Nat.mul_assoc, Nat.mul_comm b 2]; omega
        rw [e] at this; exact this
theorem allT_all {α : Type} {p : Nat → α → Bool} : ∀ {t : Tr α} {a b : Nat}, allT p t a b = true → TrAll (fun i x => p i x = true) t a b
  | .e, _, _, _ => trivial
  | .n l v r, a, b, h => by
    unfold allT at h
    rw [Bool.and_eq_true, Bool.and_eq_true] at h
    obtain ⟨h1, h2, h3⟩ := h
    refine ⟨fun x hx => ?_, allT_all h2, allT_all h3⟩
    subst hx; exact h1

theorem avScalars_ok {ι : Nm} : ∀ l : List Value, RVs ι (l.map avScalar) l
  | [] => RVs_nil
  | v :: l => RVs_cons (RV_scalar v) (avScalars_ok l)

theorem AV.beqL_eq' {l m : List AV} (h : AV.beqL l m = true) : l = m := AV.beqL_eq h

theorem descB_ok {P : Program} {a : TD} {d : TypeDesc} (h : descB P a d = true) : match (generalizing := false) a, d with
    | .bool, .bool => True
    | .int k, .int k' => k = k'
    | .str, .string => True
    | .ptr e, .pointer e' => e = e'
    | .slice e, .slice e' => e = e'
    | .map k e, .map k' e' => k = k' ∧ e = e' ∧ ∃ kd, P.underlying k = some kd
    | .func, .func _ _ _ => True
    | .iface b, .interface ms => b = ms.isEmpty
    | .struct fs, .struct gs => fs.length = gs.size ∧ ∀ (i : Nat) (x : Nat × Nat × TypeId) (g : Field), fs[i]? = some x → gs[i]? = some g → x.1 = g.offset ∧ x.2.2 = g.type ∧ ∃ gi, P.info? g.type = some gi ∧ gi.size = x.2.1
    | .array n e, .array n' e' => n = n' ∧ e = e'
    | .uptr, .unsafePointer => True
    | .tuple, .tuple _ => True
    | _, _ => False := by
  cases a <;> cases d <;> simp only [descB, Bool.false_eq_true] at h ⊢
  · exact ikEq_true h
  · exact Nat.eq_of_beq_eq_true h
  · exact Nat.eq_of_beq_eq_true h
  · rw [Bool.and_eq_true, Bool.and_eq_true] at h
    exact ⟨Nat.eq_of_beq_eq_true h.1.1, Nat.eq_of_beq_eq_true h.1.2, Option.isSome_iff_exists.1 h.2⟩
  · exact eq_of_beq h
  · rw [Bool.and_eq_true, List.all_eq_true] at h
    refine ⟨Nat.eq_of_beq_eq_true h.1, fun i x g hx hg => ?_⟩
    have hm : (x, g) ∈ List.zip _ _ := List.mem_of_getElem? (i := i) (by rw [List.getElem?_zip_eq_some]; exact ⟨hx, by rw [Array.getElem?_toList]; exact hg⟩)
    have := h.2 _ hm
    simp only [Bool.and_eq_true] at this
    refine ⟨Nat.eq_of_beq_eq_true this.1.1, Nat.eq_of_beq_eq_true this.1.2, ?_⟩
    have h3 := this.2
    split at h3
    · exact ⟨_, ‹_›, Nat.eq_of_beq_eq_true h3⟩
    · cases h3
  · rw [Bool.and_eq_true] at h
    exact ⟨Nat.eq_of_beq_eq_true h.1, Nat.eq_of_beq_eq_true h.2⟩

theorem tiokB_ok {P : Program} {t : Nat} {ti : TI} (h : tiokB P t ti = true) : TIok P t ti := by
  unfold tiokB at h
  split at h
  · rename_i i d hi hd
    split at h
    · rename_i z hz
      simp only [Bool.and_eq_true] at h
      obtain ⟨⟨⟨⟨⟨⟨h1, h2⟩, h3⟩, h4⟩, h5⟩, h6⟩, h7⟩ := h
      have h6 := AV.beqL_eq h6
      have h5 : isAggV z = ti.isAgg := eq_of_beq h5
      refine ⟨⟨i, z, hi, Nat.eq_of_beq_eq_true h1, Nat.eq_of_beq_eq_true h2, hz, fun ι => ?_, fun ι => by rw [h6]; exact avScalars_ok _, Nat.eq_of_beq_eq_true h3, Nat.eq_of_beq_eq_true h4⟩, d, hd, descB_ok h7⟩
      unfold TI.zeroV
      rw [← h5]
      cases hz2 : isAggV z with
      | true =>
        obtain ⟨cs, rfl⟩ : ∃ cs, z = .agg cs := by cases z <;> first | exact ⟨_, rfl⟩ | cases hz2
        exact RV_agg (by rw [h6]; exact avScalars_ok _)
      | false =>
        have hc : z.cells = #[z] := by cases z <;> first | rfl | cases hz2
        rw [h6, hc]
        exact RV_scalar z
    · cases h
  · cases h
end Go.Ev
/- Tables of functions, looked over; a method. -/
namespace Go.Ev

/-- What a function without a body is. -/
def ExtSays (fn : Func) : EX → Prop
  | .noEscape => ∃ e, Extern.find fn = some e ∧ ∀ v, e #[v] = Pure.pure v
  | .false_ => ∃ e, Extern.find fn = some e ∧ ∀ vs, e vs = Pure.pure (.bool false)
  | .race => ∃ m : Addr → Mark, Extern.find fn = some (Extern.Race.marked m) ∧ (m = .acquire ∨ m = .release ∨ m = .releaseMerge ∨ m = .read ∨ m = .write)
  | .dis => Extern.find fn = some (fun _ => do mark .disable; Pure.pure Extern.Race.none_)
  | .en => Extern.find fn = some (fun _ => do mark .enable; Pure.pure Extern.Race.none_)
  | .atAdd k => Extern.find fn = some (Extern.Atomic.update (Op.intArith .add) k true)
  | .atCas k => Extern.find fn = some (Extern.Atomic.casT (.int k))
  | .atLoad k => Extern.find fn = some (Extern.Atomic.loadT (.int k))
  | .cmpStr => Extern.find fn = some Extern.BytealgCompare.compare
  | .mapClone => Extern.find fn = some Extern.MapsClone.clone
  | .stop => False

def FnOk (P : Program) (g : Nat) (fi : FI) : Prop :=
  ∃ fn, P.funcs[g]? = some fn ∧ fn.ntmps = fi.ntmps ∧ fn.results.toList = fi.results ∧ fn.body = fi.body ∧ (fn.name == "runtime.NumGoroutine") = false ∧
    (fi.body.isSome = true ∨ fi.ext = .stop ∨ (Extern.findNext fn = none ∧ ExtSays fn fi.ext))

theorem fnok_one {p : Nat → FI → Prop} {a : Nat} {x : FI} (h : p a x) : ∀ y, some x = some y → p a y := fun y e => by cases e; exact h
theorem fnok_no {p : Nat → FI → Prop} {a : Nat} : ∀ y, (none : Option FI) = some y → p a y := fun y e => by cases e

section
variable {P : Program} {E : Env}

theorem fn_at (H : TrAll (FnOk P) E.ft 0 1) {g : Nat} {fi : FI} (h : E.ft.get g = some fi) : FnOk P g fi := by
  have := TrAll.get H h
  simpa using this

theorem ext_at (H : TrAll (FnOk P) E.ft 0 1) {g : Nat} {n : Nat} {rs : List ResultVar} {x : EX} (h : E.ft.get g = some ⟨none, n, rs, x⟩) (hx : x ≠ .stop) : ∃ fn, P.funcs[g]? = some fn ∧ (fn.name == "runtime.NumGoroutine") = false ∧ fn.body.isNone = true ∧ Extern.findNext fn = none ∧ ExtSays fn x := by
  obtain ⟨fn, h1, h2, h3, h4, h5, h6⟩ := fn_at H h
  rcases h6 with h7 | h7 | ⟨h7, h8⟩
  · cases h7
  · exact absurd h7 hx
  · exact ⟨fn, h1, h5, by rw [h4]; rfl, h7, h8⟩

theorem fitsX_of (H : TrAll (FnOk P) E.ft 0 1) : FitsX P E where
  noEscape g n rs h := by
    obtain ⟨fn, h1, h2, h3, h4, e, h5, h6⟩ := ext_at H h (by simp)
    exact ⟨e, ⟨fn, h1, h2, h3, h4, h5⟩, h6⟩
  false_ g n rs h := by
    obtain ⟨fn, h1, h2, h3, h4, e, h5, h6⟩ := ext_at H h (by simp)
    exact ⟨e, ⟨fn, h1, h2, h3, h4, h5⟩, h6⟩
  race g n rs h := by
    obtain ⟨fn, h1, h2, h3, h4, m, h5, h6⟩ := ext_at H h (by simp)
    exact ⟨m, ⟨fn, h1, h2, h3, h4, h5⟩, h6⟩
  dis g n rs h := by
    obtain ⟨fn, h1, h2, h3, h4, h5⟩ := ext_at H h (by simp)
    exact ⟨fn, h1, h2, h3, h4, h5⟩
  en g n rs h := by
    obtain ⟨fn, h1, h2, h3, h4, h5⟩ := ext_at H h (by simp)
    exact ⟨fn, h1, h2, h3, h4, h5⟩
  atAdd g n rs k h := by
    obtain ⟨fn, h1, h2, h3, h4, h5⟩ := ext_at H h (by simp)
    exact ⟨fn, h1, h2, h3, h4, h5⟩
  atCas g n rs k h := by
    obtain ⟨fn, h1, h2, h3, h4, h5⟩ := ext_at H h (by simp)
    exact ⟨fn, h1, h2, h3, h4, h5⟩
  atLoad g n rs k h := by
    obtain ⟨fn, h1, h2, h3, h4, h5⟩ := ext_at H h (by simp)
    exact ⟨fn, h1, h2, h3, h4, h5⟩
  cmpStr g n rs h := by
    obtain ⟨fn, h1, h2, h3, h4, h5⟩ := ext_at H h (by simp)
    exact ⟨fn, h1, h2, h3, h4, h5⟩
  mapClone g n rs h := by
    obtain ⟨fn, h1, h2, h3, h4, h5⟩ := ext_at H h (by simp)
    exact ⟨fn, h1, h2, h3, h4, h5⟩

theorem fitsF_of (H : TrAll (FnOk P) E.ft 0 1) (hm : P.follows .mixedOrders = true) : FitsF P E where
  code g c n rs x h := by
    obtain ⟨fn, h1, h2, h3, h4, h5, _⟩ := fn_at H h
    exact ⟨fn, h1, h4, h2, h3, h5⟩
  ext := ext_ok (fitsX_of H)
  mixed := hm
  recov := rfl

theorem types_of (H : allT (tiokB P) E.tt 0 1 = true) : ∀ t ti, E.tt.get t = some ti → TIok P t ti := fun t ti h => by
  have := TrAll.get (allT_all H) h
  simp only [Nat.zero_add, Nat.one_mul] at this
  exact tiokB_ok this

/-- A method of a pointer's type's own. -/
theorem meth_ptr {t : TypeId} {i : TypeInfo} {m : Method} {g : FuncId} {name : String} {e : TypeId} (hi : P.info? t = some i) (hu : P.underlying t = some (.pointer e)) (hm : i.methods.find? (fun m => m.name == name) = some m) (hp : m.path.toList = []) (hf : m.func = some (g, true)) {fuel : Nat} (hfu : fuel ≠ 0)
    (v : Value) (w : World) : SRun P (method fuel t v name) w (g, v) w [] := by
  cases fuel with
  | zero => exact absurd rfl hfu
  | succ fuel =>
    unfold method
    refine SRun.bind0 (SRun.typeInfo hi) ?_
    simp only [hm, hp, hf]
    refine SRun.bind0 (a := (t, Place.val v)) (by unfold follow; exact SRun.pure _) ?_
    refine SRun.bind0 (a := v) ?_ (SRun.pure _)
    unfold receiverAt
    exact SRun.bind0 (SRun.underlying hu) (SRun.pure _)
end
end Go.Ev
/- What an argument that fits may be taken for: the cells of a struct, a value that is no struct. -/
namespace Go.Ev
variable {P : Program} {w : World} {r : Reach} {base : Nat}

theorem scal_of_okWide {t : TypeId} {v : Value} (h : Cell.okWide P w r base t v) : scalV v = true := by
  cases v
  case agg cs => exfalso; cases hu : P.underlying t with | none => simp [Cell.okWide, Cell.ok, hu] at h | some d => cases d <;> simp [Cell.okWide, Cell.ok, hu] at h
  case tuple cs => exfalso; cases hu : P.underlying t with | none => simp [Cell.okWide, Cell.ok, hu] at h | some d => cases d <;> simp [Cell.okWide, Cell.ok, hu] at h
  all_goals rfl

theorem ones_of {ι : Nm} : ∀ {n : Nat} {l : List Value}, l.length = n → (∀ v ∈ l, scalV v = true) → RVs ι (List.replicate n .one) l
  | 0, l, h, _ => by rw [List.length_eq_zero_iff.1 h]; exact RVs_nil
  | n + 1, [], h, _ => by cases h
  | n + 1, v :: l, h, hs => RVs_cons (by unfold RV; exact hs v (List.mem_cons_self ..)) (ones_of (by simpa using h) fun x hx => hs x (List.mem_cons_of_mem _ hx))

theorem ones_of_struct {ι : Nm} {fs : Array Field} {t : TypeId} {v : Value} {n : Nat} (ht : P.underlying t = some (.struct fs)) (hn : P.cellsOf t = n) (h : Value.okWide P w r base t v) :
    RV ι (.agg (List.replicate n .one)) v := by
  simp only [Value.okWide, ht] at h
  obtain ⟨cs, rfl, h2, ts, _, _, h5⟩ := h
  refine RV_agg (ones_of (by rw [← hn, ← h2]; simp) fun x hx => ?_)
  obtain ⟨i, hi⟩ := List.mem_iff_getElem?.1 hx
  obtain ⟨u, _, hu⟩ := h5 i x (by simpa using hi)
  exact scal_of_okWide hu

theorem one_of_plain {ι : Nm} {d : TypeDesc} {t : TypeId} {v : Value} (ht : P.underlying t = some d) (hd : (match d with | .struct _ | .array _ _ => false | _ => true) = true) (h : Value.okWide P w r base t v) :
    RV ι .one v := by
  have : Cell.okWide P w r base t v := by cases d <;> simp only [Value.okWide, ht] at h hd ⊢ <;> first | exact h | cases hd
  unfold RV; exact scal_of_okWide this
end Go.Ev
