/- A part of the proof that the law ProofNil returns true for every input (its card: YtfemddccapnonaaGreatDoorMyCard): EvGc, EvEnd, EvExtOk, EvFlat, EvFlat2, EvTab. Conditions: those of the given row alone. -/
import Derived.Test.YtfemddccapnonaaGreatDoorEv6
import Derived.KernelRfl
namespace Go.Ev
open Go.Conc (G)
mutual
theorem AV.ren_id : ∀ a : AV, a.ren (fun i => i) = a
  | .any | .one | .nilp | .nils | .emp | .nilm | .nilf | .nili | .bool _ | .int _ _ | .str _ | .ptr _ _ | .sl _ _ _ _ | .map _ | .yield _ | .osl _ _ _ => by simp [AV.ren]
  | .fn _ a b => by simp [AV.ren, AV.renL_id a, AV.renL_id b]
  | .iface _ v => by simp [AV.ren, AV.ren_id v]
  | .agg l => by simp [AV.ren, AV.renL_id l]
  | .tup l => by simp [AV.ren, AV.renL_id l]
theorem AV.renL_id : ∀ l : List AV, AV.renL (fun i => i) l = l
  | [] => by simp [AV.renL]
  | a :: l => by simp [AV.renL, AV.ren_id a, AV.renL_id l]
end
theorem mapT_id {α : Type} {f : α → α} (hf : ∀ a, f a = a) : ∀ t : Tr α, mapT f t = t
  | .e => rfl
  | .n l v r => by
    unfold mapT
    rw [mapT_id hf l, mapT_id hf r]
    cases v <;> simp [hf]
theorem AO.ren_id (o : AO) : o.ren (fun i => i) = o := by
  cases o with
  | cells vs e g z => simp [AO.ren, AV.renL_id]
  | map es c =>
    simp only [AO.ren, AO.map.injEq, and_true]
    induction es with
    | nil => rfl
    | cons e es ih => simp [AV.ren_id, ih]
  | mit m s l p => cases m <;> rfl
  | loop st p fn nt tm ps x y d => simp [AO.ren, mapT_id AV.ren_id]
  | _ => rfl
def plainI : List AI → Bool
  | [] => true
  | .code _ :: l | .inBlock _ :: l | .inLoop _ :: l | .inScope _ :: l | .inRegion _ _ :: l => plainI l
  | _ :: _ => false
theorem plainI_ok {ι ι' : Nm} : ∀ {l : List AI} {is : List Item}, plainI l = true → RIs ι l is → RIs ι' l is
  | [], _, _, h => h
  | a :: l, is, hp, ⟨i, r, h1, h2, h3⟩ => by
    cases a <;> first | (cases hp; done) | exact ⟨i, r, h1, h2, plainI_ok hp h3⟩
structure AF.low (n : Nat) (f : AF) : Prop where
  tm : trLow n f.tm = true
  todo : plainI f.todo = true
  ds : f.ds = []
  round : f.x.round = none
theorem RF.lows {n : Nat} {ι ι' : Nm} (H : ∀ i p, (i < n ∨ OLD ≤ i) → ι i = some p → ι' i = some p) {f : AF} {fr : Frame} (hl : f.low n) (R : RF ι f fr) : RF ι' f fr := by
  have hL : Lows n (fun i => i) ι ι' := fun i p hi hp => H i p hi hp
  refine ⟨R.fn, ⟨R.tm.1, fun t a ht => RV.unren hL (trLow_get hl.tm ht) (by rw [AV.ren_id]; exact R.tm.2 t a ht)⟩, plainI_ok hl.todo R.todo, ?_, R.mode, R.kind, ?_⟩
  · have := R.ds
    rw [hl.ds] at this ⊢
    exact this
  · have := R.round
    rw [hl.round] at this ⊢
    exact this
structure Moves (ρ : Nat → Nat) (n : Nat) (h2 h' : AH) : Prop where
  le : n ≤ h'.nx
  le2 : h'.nx ≤ h2.nx
  top : h2.nx ≤ OLD
  df : h'.df = h2.df
  same : ∀ i, (i < n ∨ OLD ≤ i) → ρ i = i
  new : ∀ i, n ≤ i → i < h'.nx → n ≤ ρ i ∧ ρ i < h2.nx
  inj : ∀ i j, i < h'.nx → j < h'.nx → ρ i = ρ j → i = j
  obj : ∀ i o, h'.tr.get i = some o → o.live → i < h'.nx ∧ h2.tr.get (ρ i) = some (o.ren ρ)
  lows : heapLow h'.nx h'.tr = true
def capN (n : Nat) (ι : Nm) : Nm := fun i => if i < n ∨ OLD ≤ i then ι i else none
theorem Sat.cap {K : Ctx} {ι : Nm} {h : AH} {w : World} (S : Sat K ι h w) (hn : ∀ i o, h.tr.get i = some o → o.live → i < h.nx) (hl : heapLow h.nx h.tr = true) : Sat K (capN h.nx ι) h w := by
  have hL : Lows h.nx (fun i => i) ι (capN h.nx ι) := fun i p hi hp => by unfold capN; rw [if_pos hi]; exact hp
  refine ⟨fun i o e l => ?_, fun i j o o' p q e1 e2 l1 l2 hp hq hpq => ?_, S.lo, S.bs, S.old, S.os, S.tape, S.output, fun hk i p hi => ?_⟩
  · obtain ⟨p, ob, h1, h2, h3, h4, h5⟩ := S.objs i o e l
    have : o.ren (fun i => i) = o := AO.ren_id o
    exact ⟨p, ob, by unfold capN; rw [if_pos (.inl (hn i o e l))]; exact h1, h2, h3, h4, RO.unren hL (heapLow_get hl e) (by rw [this]; exact h5)⟩
  · unfold capN at hp hq
    rw [if_pos (.inl (hn i o e1 l1))] at hp
    rw [if_pos (.inl (hn j o' e2 l2))] at hq
    exact S.inj i j o o' p q e1 e2 l1 l2 hp hq hpq
  · have hi' : OLD ≤ i := by
      unfold oldNm at hi
      rcases Nat.lt_or_ge i OLD with h1 | h1
      · rw [if_neg (by omega)] at hi; cases hi
      · exact h1
    unfold capN; rw [if_pos (.inr hi')]; exact S.oldn hk i p hi
def AF.ren (ρ : Nat → Nat) (f : AF) : AF := ⟨f.x, mapT (AV.ren ρ) f.tm, f.todo, f.ds, f.ret⟩
section
variable {P : Program} {E : Env} {f f2 f' : AF} {h h2 h' : AH} {ρ : Nat → Nat}
theorem oldn_ge {i : Nat} {p : Nat × Nat} (hi : oldNm i = some p) : OLD ≤ i := by
  unfold oldNm at hi
  rcases Nat.lt_or_ge i OLD with h1 | h1
  · rw [if_neg (by omega)] at hi; cases hi
  · exact h1
theorem Sat.moved {K : Ctx} {ι ι2 : Nm} {w : World} {n : Nat} (M : Moves ρ n h2 h') (S : Sat K ι2 h2 w) (hsame : ∀ i, (i < n ∨ OLD ≤ i) → ι2 i = ι i) :
    ∃ ι' : Nm, (∀ i, (i < n ∨ h'.nx ≤ i) → ι' i = ι i) ∧ Lows h'.nx ρ ι2 ι' ∧ Sat K ι' h' w := by
  let ι' : Nm := fun i => if n ≤ i ∧ i < h'.nx then ι2 (ρ i) else ι i
  have h1 : ∀ i, ¬ (n ≤ i ∧ i < h'.nx) → ι' i = ι i := fun i hi => if_neg hi
  have h2' : ∀ i, n ≤ i → i < h'.nx → ι' i = ι2 (ρ i) := fun i a b => if_pos ⟨a, b⟩
  have hlow : ∀ i, i < h'.nx ∨ OLD ≤ i → ι' i = ι2 (ρ i) := fun i hi => by
    by_cases hc : n ≤ i ∧ i < h'.nx
    · exact h2' i hc.1 hc.2
    · have hi' : i < n ∨ OLD ≤ i := by omega
      rw [h1 i hc, M.same i hi', hsame i hi']
  have hL : Lows h'.nx ρ ι2 ι' := fun i p hi hp => by rw [hlow i hi]; exact hp
  refine ⟨ι', fun i hi => h1 i (by omega), hL, ⟨fun i o e l => ?_, fun i j o o' p q e1 e2 l1 l2 hp hq hpq => ?_, S.lo, S.bs, S.old, S.os, S.tape, S.output, fun hk i p hi => ?_⟩⟩
  · obtain ⟨g1, g2⟩ := M.obj i o e l
    obtain ⟨p, ob, k1, k2, k3, k4, k5⟩ := S.objs (ρ i) _ g2 (AO.ren_live.2 l)
    exact ⟨p, ob, by rw [hlow i (.inl g1)]; exact k1, k2, k3, k4, RO.unren hL (heapLow_get M.lows e) k5⟩
  · obtain ⟨g1, g2⟩ := M.obj i o e1 l1
    obtain ⟨g3, g4⟩ := M.obj j o' e2 l2
    rw [hlow i (.inl g1)] at hp
    rw [hlow j (.inl g3)] at hq
    exact M.inj i j g1 g3 (S.inj _ _ _ _ p q g2 g4 (AO.ren_live.2 l1) (AO.ren_live.2 l2) hp hq hpq)
  · have hi' := oldn_ge hi
    rw [hlow i (.inr hi'), M.same i (.inr hi')]; exact S.oldn hk i p hi
theorem DoesS.move (A : DoesS P E f h f2 h2) (M : Moves ρ h.nx h2 h') (hf : f.low h.nx) (hh : heapLow h.nx h.tr = true) (hn : ∀ i o, h.tr.get i = some o → o.live → i < h.nx) (e : f2 = f'.ren ρ) (hf' : f'.low h'.nx) : DoesS P E f h f' h' := by
  subst e
  refine ⟨M.le, A.2.1, fun K ι w fr cs hP S R hfr => ?_⟩
  have S0 := S.cap hn hh
  have R0 : RF (capN h.nx ι) f fr := RF.lows (n := h.nx) (fun i p hi hp => by unfold capN; rw [if_pos hi]; exact hp) hf R
  have F0 : Free (capN h.nx ι) h.nx h2.nx := fun i a b => by unfold capN; rw [if_neg (by have := M.top; omega)]
  refine (A.2.2 K _ w fr cs hP S0 R0 F0).mono ?_
  rintro d g w' ⟨ι2, fr', rfl, g1, g2, g3, rfl⟩
  have hsame : ∀ i, (i < h.nx ∨ OLD ≤ i) → ι2 i = ι i := fun i hi => by
    rw [g1.same i (by have := M.top; omega)]; unfold capN; rw [if_pos hi]
  obtain ⟨ι', k1, k2, k3⟩ := g2.moved M hsame
  refine ⟨ι', fr', rfl, ⟨M.le, k1⟩, k3, ?_, M.df.symm⟩
  refine ⟨g3.fn, ⟨g3.tm.1, fun t a ht => RV.unren k2 (trLow_get hf'.tm ht) (g3.tm.2 t (a.ren ρ) (by show (mapT (AV.ren ρ) f'.tm).get t = _; rw [mapT_get, ht]; rfl))⟩, plainI_ok hf'.todo g3.todo, ?_, g3.mode, g3.kind, ?_⟩
  · have := g3.ds
    rw [show (f'.ren ρ).ds = f'.ds from rfl, hf'.ds] at this
    rw [hf'.ds]; exact this
  · have := g3.round
    rw [show (f'.ren ρ).x = f'.x from rfl, hf'.round] at this
    rw [hf'.round]; exact this
theorem DoesC.move {g : FuncId} {args : List AV} {v' : AV} (A : DoesC P E g args h (v'.ren ρ) h2) (M : Moves ρ h.nx h2 h') (ha : AV.lowL h.nx args = true) (hh : heapLow h.nx h.tr = true) (hn : ∀ i o, h.tr.get i = some o → o.live → i < h.nx) (hv : v'.low h'.nx = true) : DoesC P E g args h v' h' := by
  refine ⟨M.le, fun K ι w vs c rest hP S hargs hc hfr => ?_⟩
  have S0 := S.cap hn hh
  have hL0 : Lows h.nx (fun i => i) ι (capN h.nx ι) := fun i p hi hp => by unfold capN; rw [if_pos hi]; exact hp
  have a0 : RVs (capN h.nx ι) args vs.toList := RVs.unren hL0 ha (by rw [AV.renL_id]; exact hargs)
  have F0 : Free (capN h.nx ι) h.nx h2.nx := fun i a b => by unfold capN; rw [if_neg (by have := M.top; omega)]
  refine (A.2 K _ w vs c rest hP S0 a0 hc F0).mono ?_
  rintro d g w' ⟨ι2, u, rfl, g1, g2, g3, rfl⟩
  have hsame : ∀ i, (i < h.nx ∨ OLD ≤ i) → ι2 i = ι i := fun i hi => by
    rw [g1.same i (by have := M.top; omega)]; unfold capN; rw [if_pos hi]
  obtain ⟨ι', k1, k2, k3⟩ := g2.moved M hsame
  exact ⟨ι', u, rfl, ⟨M.le, k1⟩, k3, RV.unren k2 hv g3, M.df.symm⟩
theorem DoesS.forget {x : AX} {tm tm' : Tr AV} {td : List AI} {ds : List AD} {r : Bool} (hsub : ∀ t a, tm'.get t = some a → tm.get t = some a) : DoesS P E ⟨x, tm, td, ds, r⟩ h ⟨x, tm', td, ds, r⟩ h :=
  ⟨Nat.le_refl _, rfl, fun _ ι _ fr _ _ S R _ => .stop fun _ hr => ⟨ι, fr, rfl, Grow.refl _ _, S.rely hr, ⟨R.fn, ⟨R.tm.1, fun t a ht => R.tm.2 t a (hsub t a ht)⟩, R.todo, R.ds, R.mode, R.kind, R.round⟩, rfl⟩⟩
end
end Go.Ev
namespace Go.Ev
open Go.Conc
open Go.Conc.Lib (WgLib WgLink)
noncomputable def gcO (ids : List Nat) (s : OS) : OS := match s with | ⟨f, k, ⟨tr, nx, df⟩⟩ => ⟨f, k, ⟨reach tr 100000 ids .e, nx, df⟩⟩
inductive Path (P : Program) (E : Env) (I : WgIds) (D : FuncId) (ty : TypeId) (out : List FuncId) : OS → OS → Prop
  | run {s s' : OS} (n m : Nat) : runO E (runF E n) out m s = s' → Path P E I D ty out s s'
  | spawn {s s' : OS} (n m : Nat) : spawnO E I D ty n m out s = some s' → Path P E I D ty out s s'
  | gc {s s' : OS} (ids : List Nat) : gcO ids s = s' → Path P E I D ty out s s'
  | sem {s : OS} {f' : AF} {h' : AH} : DoesS P E s.f s.h f' h' → h'.nx ≤ OLD → Path P E I D ty out s ⟨f', s.k, h'⟩
  | trans {s s' s'' : OS} : Path P E I D ty out s s' → Path P E I D ty out s' s'' → Path P E I D ty out s s''
section
variable {P : Program} {E : Env} {I : WgIds} {W : World} {B0 : Nat} {cs : List Frame}
theorem gc_past (ids : List Nat) {s : OS} {gs : Array Goroutine} {w : World} {sl : Option (Nat × Nat)} {t : Trace} (H : MAt P E W B0 cs s gs w sl t) : MAt P E W B0 cs (gcO ids s) gs w sl t := by
  obtain ⟨f, k, tr, nx, df⟩ := s
  obtain ⟨K, Shun, a, q, h1, h2, h3, hA, h0, ⟨ι, fr, frs, k1, k2, k3, k4, k5, k6, k7⟩, hL, hP⟩ := H
  refine ⟨K, Shun, a, q, h1, h2, h3, hA, h0, ⟨ι, fr, frs, k1, k2, k3, k4, ?_, k6, k7⟩, hL, hP⟩
  exact (k5.toM (M := fun i o => tr.get i = some o) fun _ _ h _ => h).toSat fun i o e _ => reach_get (t := tr) 100000 ids .e (fun i o h => by rw [Tr.get_e] at h; cases h) i o e
theorem sem_past {s : OS} {f' : AF} {h' : AH} (A : DoesS P E s.f s.h f' h') (hO : h'.nx ≤ OLD) {gs : Array Goroutine} {w : World} {sl : Option (Nat × Nat)} {t : Trace} (H : MAt P E W B0 cs s gs w sl t) : Reaches P gs w sl t (MAt P E W B0 cs ⟨f', s.k, h'⟩) := by
  obtain ⟨K, Shun, a, q, h1, h2, h3, hA, h0, ⟨ι, fr, frs, rfl, hB, R, HS, S, _, _⟩, hL, hP⟩ := H
  have hf := hB.free hO
  refine Reaches.then (walk_past hA (A.2.2 K ι w fr (frs ++ cs) h1 S R hf) w (Rely.refl w) gs sl t q h0 hL hP) ?_
  rintro gs1 w1 sl1 t1 ⟨a1, d1, q1, hN, h01, ⟨ι', fr', rfl, g1, g2, g3, rfl⟩, hL1, hP1⟩
  exact .here ⟨K, Shun, _, q1, h1, h2, h3, hA, h01, ⟨ι', fr', frs, rfl, hB.grow g1, g3, HS.mono (g1.ext hf), g2, rfl, fun _ _ h => by cases h⟩, hL1, hP1⟩
theorem path_past (X : Tabs P E I) (hwait : waitOk E I = true) {L : WgLink} (H : WgLib P L) {out : List FuncId} {s s' : OS} (p : Path P E I L.done L.tWg out s s') : ∀ {gs : Array Goroutine} {w : World} {sl : Option (Nat × Nat)} {t : Trace}, MAt P E W B0 cs s gs w sl t → Reaches P gs w sl t (MAt P E W B0 cs s') := by
  induction p with
  | run n m e => intro gs w sl t h; rw [← e]; exact run_past X.F X.FF n m out h
  | spawn n m e => intro gs w sl t h; exact spawn_past X hwait H e h
  | gc ids e => intro gs w sl t h; rw [← e]; exact .here (gc_past ids h)
  | sem A hO => intro gs w sl t h; exact sem_past A hO h
  | trans _ _ ih1 ih2 => intro gs w sl t h; exact Reaches.then (ih1 h) fun _ _ _ _ h => ih2 h
structure Ends (W : World) (v : AV) (u : Value) (w : World) : Prop where
  val : ∃ ι, RV ι v u
  size : W.heap.size ≤ w.heap.size
  old : ∀ b, b < W.heap.size → w.heap[b]? = W.heap[b]?
  os : w.os = W.os
  tape : w.tape = W.tape
  output : w.output = W.output
theorem end_ok (F : Fits P E) (FF : FitsF P E) {K : Ctx} (hP : Of K P E) {ι : Nm} {h : AH} {w : World} {fr : Frame} {f : AF} (S : Sat K ι h w) (R : RF ι f fr) {v : AV} {h' : AH} (e : stepA E f h = some (.ret v h')) (hret : f.ret = true) (hds : f.ds = []) :
    ∃ u es, stepG P true (G fr []) w = GStep.after es (doReturn P true fr [] none u w) ∧ RV ι v u ∧ ∀ e ∈ es, EvF K w.heap.size e := by
  obtain ⟨x, tm, td, ds, ret⟩ := f
  simp only at hret hds
  subst hret; subst hds
  have hm : fr.mode = .returning := by simpa using R.mode
  have hd : fr.defers = [] := R.ds
  have e : retA E x tm td [] h = some (.ret v h') := e
  unfold retA at e
  simp only at e
  split at e
  · rename_i c n rs ex hg
    obtain ⟨fn, k1, k2, _, k4, _⟩ := FF.code x.fn c n rs ex hg
    have key : ∀ {l : List AV}, resA E rs tm h = some l → ∃ u es, stepG P true (G fr []) w = GStep.after es (doReturn P true fr [] none u w) ∧ RV ι (retV l) u ∧ ∀ e ∈ es, EvF K w.heap.size e := by
      intro l hl
      obtain ⟨u, es, g1, g2, g3⟩ := results_ok F hP S R.tm k4 hl
      refine ⟨u, seen P fr.fn es.toArray, ?_, g2, fun e he => g3 e (by simpa using Conc.mem_seen he)⟩
      rw [unwinds R]
      unfold unwind
      rw [hd]
      have := g1 #[]
      simp only [Array.empty_append] at this
      have hfn : P.funcs[fr.fn]? = some fn := by rw [R.fn]; exact k1
      simp only [hm, hfn, this]
    cases hl : resA E rs tm h with
    | none => rw [hl] at e; cases e
    | some l =>
      rw [hl] at e
      have := key hl
      match l, e, this with
      | [], e, this => cases e; exact this
      | [v], e, this => cases e; exact this
      | a :: b :: l, e, this => cases e; exact this
  · cases e
def now (P : Program) (w : World) : Ctx := ⟨P, w, w.heap.size, w.heap.size, fun b => w.heap.size ≤ b, fun _ h => h, True⟩
theorem sat_now (P : Program) {ι : Nm} (hι : Ext oldNm ι) (w : World) : Sat (now P w) ι eAH w :=
  ⟨(fun i o e => (by rw [show eAH.tr.get i = none from Tr.get_e i] at e; cases e)), (fun i j o o' p q e => (by rw [show eAH.tr.get i = none from Tr.get_e i] at e; cases e)), Nat.le_refl _, Nat.le_refl _, fun _ _ => rfl, rfl, rfl, rfl, fun _ => hι⟩
def Known (E : Env) (W : World) : Prop := ∀ b o a, E.old b o = some a → b < W.heap.size ∧ ∃ v, W.cell? ⟨b, o, none⟩ = some v ∧ RV oldNm a v
theorem the_run (X : Tabs P E I) (hwait : waitOk E I = true) {L : WgLink} (H : WgLib P L) {out : List FuncId} {fid : FuncId} {argsA : List AV} {f0 : AF} (hf0 : enterA E fid argsA false = some f0) {s' : OS} (p : Path P E I L.done L.tWg out ⟨f0, [], eAH⟩ s') (hk : s'.k = []) {v : AV} {h2 : AH} (hr : stepA E s'.f s'.h = some (.ret v h2)) (hret : s'.f.ret = true) (hds : s'.f.ds = []) (hd : s'.f.x.deferred = false) (hdf : s'.h.df = 0)
    (hin : P.inits.idxOf? s'.f.x.fn = none) (W : World) (hW : Known E W) (args : Array Value) (hargs : RVs oldNm argsA args.toList) :
    ∃ M last o w' t', runNT P (M + 1) (solo (G (Frame.enter P fid args .normal) []) W) #[] = (.ended o w', t') ∧ runN P M (solo (G (Frame.enter P fid args .normal) []) W) = .next last ∧ step P last = .ended o w' ∧ Conc.Good P (Ends W v) last o w' t' := by
  have h0 : MAt P E W W.heap.size [] ⟨f0, [], eAH⟩ #[G (Frame.enter P fid args .normal) []] W none #[] :=
    ⟨now P W, fun _ => False, _, fun _ => 0, ⟨rfl, fun b o a e => ⟨trivial, hW b o a e⟩, fun _ => trivial⟩, rfl, rfl, fun _ _ h => h.elim, rfl, ⟨oldNm, _, [], rfl, fun i _ hi => (by unfold oldNm; rw [if_neg (by omega)]), enter_ok X.FF hf0 hargs rfl, rfl, sat_now P (fun _ _ h => h) W, rfl, fun _ _ h => by cases h⟩, leavers_one P _, PastD.of (past_nil.mono (Nat.zero_le _))⟩
  obtain ⟨N, gs1, w1, sl1, t1, hrun, K, Shun, a, q, hKP, hKW, hKB, hA, h01, ⟨ι, fr, frs, rfl, hB, R, HS, S, _, _⟩, hL, hP⟩ := path_past X hwait H p h0
  rw [hk] at HS
  have HS : frs = [] := HS
  subst HS
  rw [hdf] at hP
  have hkind : fr.kind = .normal := by rw [R.kind, hd]; rfl
  obtain ⟨N2, last, o, w', t', e1, e2, e3, e4⟩ := beside_ends (P := P) (Shun := Shun) (B := w1.heap.size) (D := fun _ _ _ => False) (Post := Ends W v) (sl := sl1) (n := 0) (fun _ _ _ h => h.elim) h01 hL hP.to (fun w₂ hw => by
    obtain ⟨d, rfl⟩ := hw
    have S₂ : Sat K ι s'.h (w1.at d) := S.rely (Rely.drawn w1 d)
    obtain ⟨u, es, g1, g2, g3⟩ := end_ok X.F X.FF hKP S₂ R hr hret hds
    have hE : Ends W v u (w1.at d) := ⟨⟨ι, g2⟩, by have := S₂.bs; rw [hKB] at this; exact this, fun b hb => (S₂.old b (by rw [hKB]; exact hb)).trans (by rw [hKW]), by rw [S₂.os, hKW], by rw [S₂.tape, hKW], by rw [S₂.output, hKW]⟩
    refine ⟨rfl, u, es, ?_, fun e he => ⟨fun x hx hs => ?_, (g3 e he).still.1, (g3 e he).still.2, evG_low (.inl (g3 e he))⟩, hE⟩
    · rw [List.append_nil, g1]
      unfold doReturn
      simp only [hkind, R.fn, hin]
      simp [GStep.after]
    · obtain ⟨b, hb, hb1, _⟩ := evG_touch (.inl (g3 e he)) hx
      exact absurd hb1 fun h => h.elim (hA _ b hs hb).1 (hA _ b hs hb).2)
  rw [solo_eq_crowd]
  refine ⟨N + N2, last, o, w', t', ?_, ?_, e3, e4⟩
  · rw [Nat.add_assoc, runNT_add, hrun]; exact e1
  · rw [runN_add, ← runNT_fst P _ _ #[], hrun]; exact e2
end
end Go.Ev
namespace Go.Ev
section
variable {P : Program} {E : Env} {K : Ctx} {ι : Nm} {h h' : AH} {w : World}
theorem SRun.det {α : Type} {s : Sem α} {a b : α} {w1 w2 : World} {e1 e2 : List Event} (h1 : SRun P s w a w1 e1) (h2 : SRun P s w b w2 e2) : w1 = w2 := by
  have := (h1 #[]).symm.trans (h2 #[])
  simp only [Prod.mk.injEq, Result.ok.injEq] at this
  exact this.1.2
theorem Grow.none {ι' : Nm} {n : Nat} (g : Grow ι ι' n n) : ι' = ι := funext fun i => g.same i (by omega)
theorem Sat.cellOf (S : Sat K ι h w) {id off : Nat} {vs : List AV} {el : TypeId} {g z : Bool} (ho : h.obj id = .cells vs el g z) {p : Nat × Nat} (hp : ι id = some p) {k : IntKind} {n : Int} (hv : vs[off]? = some (.int k n)) :
    w.cell? ⟨p.1, off, none⟩ = some (.int k n) ∧ K.base ≤ p.1 ∧ K.own p.1 ∧ p.1 < w.heap.size ∧ (z = false → w.frozen? ⟨p.1, off, none⟩ = false) := by
  obtain ⟨q, ob, hq, hb1, hown, hlt, hb, c, lo, hi, rfl, ⟨l1, l2, hc, hl⟩, h1, h2, h3⟩ := S.at ho trivial
  obtain rfl : p = q := by rw [hp] at hq; exact Option.some.inj hq
  obtain ⟨v, hv1, hv2⟩ := hl.get hv
  unfold RV at hv2
  subst hv2
  have hlen : off < l1.length := (List.getElem?_eq_some_iff.1 hv1).1
  have hoff : c[off]? = some (.int k n) := by rw [← Array.getElem?_toList, hc, List.getElem?_append_left hlen]; exact hv1
  refine ⟨by rw [cell_of hb]; exact hoff, hb1, hown, hlt, fun hz => ?_⟩
  rw [frozen_of hb]
  have hk := (Array.getElem?_eq_some_iff.1 hoff).1
  have := (h3 hz).1 off hk
  by_cases h3 : lo ≤ off
  · simp only [h3, decide_true, Bool.true_and, decide_eq_false_iff_not]; omega
  · simp [h3]
theorem Sat.write1 (S : Sat K ι h w) {id off : Nat} {k : IntKind} {m : Int} (e : storeC h id off [.int k m] = some h') {p : Nat × Nat} (hp : ι id = some p) {u : Value} (hc : w.cell? ⟨p.1, off, none⟩ = some u) (hf : w.frozen? ⟨p.1, off, none⟩ = false) :
    Sat K ι h' (w.setCell ⟨p.1, off, none⟩ (.int k m)) ∧ w.heap.size ≤ (w.setCell ⟨p.1, off, none⟩ (.int k m)).heap.size ∧ (∀ b, b < w.heap.size → ¬ (K.base ≤ b ∧ K.own b) → (w.setCell ⟨p.1, off, none⟩ (.int k m)).heap[b]? = w.heap[b]?) ∧ h'.nx = h.nx ∧ h'.df = h.df := by
  have hn : h'.nx = h.nx ∧ h'.df = h.df := by
    unfold storeC at e
    split at e
    · obtain ⟨_, rfl⟩ := cond_some e
      exact ⟨AH.put_nx, AH.put_df⟩
    · cases e
  obtain ⟨ι', w', es, h1, h2, h3, h4, h5⟩ := storeC_ok (P := K.P) S hp e (vs := [.int k m]) (RVs_cons (by unfold RV; rfl) RVs_nil) (by rw [hn.1]; intro i h1 h2; omega)
  rw [hn.1] at h2
  obtain rfl := h2.none
  have hst : SRun K.P (storeCells ⟨p.1, off, none⟩ [.int k m] 0) w () (w.setCell ⟨p.1, off, none⟩ (.int k m)) ([⟨.cell ⟨p.1, off, none⟩, true, false⟩] ++ []) := by
    unfold storeCells
    rw [add_none]
    exact SRun.bind (SRun.store (P := K.P) hc hf (by simp) (by simp)) (SRun.pure _)
  obtain rfl := SRun.det h1 hst
  exact ⟨h3, h4.size, h4.kept, hn⟩
theorem eok_of {e : Array Value → Sem Value} {g : FuncId} (hx : ExtFn P g e) {vs : Array Value} {u : Value} {v : AV} {w' : World} {es : List Event} (hr : SRun P (e vs) w u w' es) (hs : ∀ x ∈ es, x.sync = true ∧ ∀ g, x.loc ≠ .mark (.extern g)) (hn : h'.nx = h.nx) (S' : Sat K ι h' w') (hv : RV ι v u)
    (hf : FineG K w w' es.toArray) (hd : deafBehind h.df es.toArray = h'.df) : EOk P K ι h w (callFunc g vs) v h' := fun _ =>
  ⟨ι, w', .value u, _, ext_run hx hr, by rw [hn]; exact Grow.refl _ _, S', hv, fun fn => by rw [seen_sync fn hs]; exact ⟨hf, hd⟩⟩
theorem RVs_arg {a : AV} {l : List AV} {vs : Array Value} (h : RVs ι (a :: l) vs.toList) : ∃ v r, vs.toList = v :: r ∧ vs[0]? = some v ∧ RV ι a v ∧ RVs ι l r := by
  obtain ⟨v, r, h1, h2, h3⟩ := RVs_cons_inv h
  exact ⟨v, r, h1, by rw [← Array.getElem?_toList, h1]; rfl, h2, h3⟩
theorem Sat.df (S : Sat K ι h w) (d : Nat) : Sat K ι { h with df := d } w := ⟨S.objs, S.inj, S.lo, S.bs, S.old, S.os, S.tape, S.output, S.oldn⟩
theorem fine_own {w' : World} {es : List Event} (hs : w.heap.size ≤ w'.heap.size) (hk : ∀ b, b < w.heap.size → ¬ (K.base ≤ b ∧ K.own b) → w'.heap[b]? = w.heap[b]?) (he : ∀ e ∈ es, EvG K w'.heap.size e) (ho : w'.os = w.os) (ht : w'.tape = w.tape) (hu : w'.output = w.output) : FineG K w w' es.toArray :=
  ⟨hs, hk, fun e h => he e (by simpa using h), ho, ht, hu⟩
theorem evg_cell {n b off : Nat} {wr : Bool} (h1 : K.base ≤ b) (h2 : K.own b) (h3 : b < n) : EvG K n ⟨.cell ⟨b, off, none⟩, wr, true⟩ := .inl ⟨.inl ⟨h1, h2⟩, h3⟩
theorem eok_l {e : Array Value → Sem Value} {g : FuncId} (hx : ExtFn P g e) (S : Sat K ι h w) {vs : Array Value} {v : AV} (hl : LOk P K ι h w (e vs) v h') : EOk P K ι h w (callFunc g vs) v h' :=
  VOk.ext S fun hf => by
    obtain ⟨ι', w', nv, es, h1, h2, h3, h4, h5, h6⟩ := hl hf
    refine ⟨ι', w', .value nv, _, ext_run hx h1, h2, h3, h4, ⟨h5.size, h5.kept, fun e he => ?_⟩, h6⟩
    rcases List.mem_cons.1 he with rfl | he
    · unfold EvF extE; trivial
    · exact h5.evs e he
theorem ext_ok (FX : FitsX P E) : ∀ g n rs x, E.ft.get g = some ⟨none, n, rs, x⟩ → ∀ (K : Ctx) ι h w args (vs : Array Value) v h', Of K P E → Sat K ι h w → RVs ι args vs.toList → extA x args h = some (.val v h') → EOk P K ι h w (callFunc g vs) v h' := by
  intro g n rs x hg K ι h w args vs v h' hP S ha e
  unfold extA at e
  split at e
  ·
    cases e
    obtain ⟨ef, hx, hev⟩ := FX.noEscape g n rs hg
    obtain ⟨u, rfl, hu⟩ := args1 ha
    exact eok_of hx (es := []) (by rw [hev]; exact SRun.pure _) (by simp) rfl S hu (FineG.refl w) rfl
  · cases e
    obtain ⟨ef, hx, hev⟩ := FX.false_ g n rs hg
    exact eok_of hx (es := []) (by rw [hev]; exact SRun.pure _) (by simp) rfl S (by unfold RV; rfl) (FineG.refl w) rfl
  ·
    rename_i id off
    obtain ⟨m, hx, hm⟩ := FX.race g n rs hg
    split at e
    · rename_i cvs el cg cz ho
      cases e
      obtain ⟨u, rfl, hu⟩ := args1 ha
      obtain ⟨p, hp, rfl⟩ := ptr_inv hu
      obtain ⟨q, ob, hq, hb1, hown, hlt, _⟩ := S.at ho trivial
      obtain rfl : p = q := by rw [hp] at hq; exact Option.some.inj hq
      have hev : EvG K w.heap.size (mkE (m ⟨p.1, off, none⟩)) := by
        rcases hm with rfl | rfl | rfl | rfl | rfl <;> exact .inl ⟨hb1, hown, hlt⟩
      have hnd : (mkE (m ⟨p.1, off, none⟩)).loc ≠ .mark .disable ∧ (mkE (m ⟨p.1, off, none⟩)).loc ≠ .mark .enable := by
        rcases hm with rfl | rfl | rfl | rfl | rfl <;> simp [mkE]
      refine eok_of hx (run_marked m ⟨p.1, off, none⟩ rfl) (fun x hx => ?_) rfl S (by unfold RV; exact ⟨#[], rfl, RVs_nil⟩) (fine_own (Nat.le_refl _) (fun _ _ _ => rfl) (fun e he => ?_) rfl rfl rfl) (deaf_still (fun e he => ?_) _)
      · simp at hx; subst hx
        refine ⟨rfl, fun f => ?_⟩
        rcases hm with rfl | rfl | rfl | rfl | rfl <;> simp [mkE]
      · simp at he; subst he; exact hev
      · simp at he; subst he; exact hnd
    · cases e
  ·
    cases e
    have hx := FX.dis g n rs hg
    refine eok_of hx (run_mark0 .disable vs) (fun x hx => ?_) rfl (S.df _) (by unfold RV; exact ⟨#[], rfl, RVs_nil⟩) (fine_own (Nat.le_refl _) (fun _ _ _ => rfl) (fun e he => ?_) rfl rfl rfl) rfl
    · simp at hx; subst hx; exact ⟨rfl, by simp [mkE]⟩
    · simp at he; subst he; exact .inr (.inl rfl)
  ·
    cases hz : Nat.beq h.df 0 with
    | true => rw [hz] at e; cases e
    | false =>
      rw [hz] at e
      cases e
      have hx := FX.en g n rs hg
      refine eok_of hx (run_mark0 .enable vs) (fun x hx => ?_) rfl (S.df _) (by unfold RV; exact ⟨#[], rfl, RVs_nil⟩) (fine_own (Nat.le_refl _) (fun _ _ _ => rfl) (fun e he => ?_) rfl rfl rfl) rfl
      · simp at hx; subst hx; exact ⟨rfl, by simp [mkE]⟩
      · simp at he; subst he; exact .inr (.inr rfl)
  ·
    rename_i k id off k' d
    have hx := FX.atAdd g n rs k hg
    split at e
    · rename_i cvs el cg cz ho
      split at e
      · rename_i k'' m hm
        cases hc : (ikEq k k' && ikEq k k'') with
        | false => rw [hc] at e; cases e
        | true =>
          rw [hc] at e
          rw [Bool.and_eq_true] at hc
          obtain rfl := ikEq_true hc.1
          obtain rfl := ikEq_true hc.2
          simp only [cond_true, Option.map_eq_some_iff] at e
          obtain ⟨h1, hst, e⟩ := e
          cases e
          obtain ⟨u, r, hvs, _, hu, hr⟩ := RVs_arg ha
          obtain ⟨p, hp, rfl⟩ := ptr_inv hu
          obtain ⟨u2, r2, hr', hu2, hr2⟩ := RVs_cons_inv hr
          rw [RVs_nil_inv hr2] at hr'
          unfold RV at hu2
          subst hu2
          have hvs : vs = #[.pointer (some ⟨p.1, off, none⟩), .int k d] := by apply Array.toList_inj.1; rw [hvs, hr']
          subst hvs
          have hz : cz = false := by
            unfold storeC at hst
            rw [ho] at hst
            cases cz with
            | false => rfl
            | true => cases hst
          obtain ⟨c1, c2, c3, c4, c5⟩ := S.cellOf ho hp hm
          obtain ⟨s1, s2, s3, s4, s5⟩ := S.write1 hst hp c1 (c5 hz)
          refine eok_of hx (run_add c1 (c5 hz)) (fun x hx => ?_) s4 s1 (by unfold RV; rfl) (fine_own s2 s3 (fun e he => ?_) (s1.os.trans S.os.symm) (s1.tape.trans S.tape.symm) (s1.output.trans S.output.symm)) ?_
          · simp at hx; rcases hx with rfl | rfl <;> exact ⟨rfl, by simp [rdA, wrA]⟩
          · simp at he; rcases he with rfl | rfl <;> exact evg_cell c2 c3 (by omega)
          · rw [s5]; exact deaf_still (fun e he => by simp at he; rcases he with rfl | rfl <;> simp [rdA, wrA]) _
      · cases e
    · cases e
  ·
    rename_i k id off
    have hx := FX.atLoad g n rs k hg
    split at e
    · rename_i cvs el cg cz ho
      split at e
      · rename_i k'' m hm
        cases hc : ikEq k k'' with
        | false => rw [hc] at e; cases e
        | true =>
          rw [hc] at e
          obtain rfl := ikEq_true hc
          cases e
          obtain ⟨u, rfl, hu⟩ := args1 ha
          obtain ⟨p, hp, rfl⟩ := ptr_inv hu
          obtain ⟨c1, c2, c3, c4, c5⟩ := S.cellOf ho hp hm
          refine eok_of hx (run_loadT c1) (fun x hx => ?_) rfl S (by unfold RV; rfl) (fine_own (Nat.le_refl _) (fun _ _ _ => rfl) (fun e he => ?_) rfl rfl rfl) (deaf_still (fun e he => ?_) _)
          · simp at hx; subst hx; exact ⟨rfl, by simp [rdA]⟩
          · simp at he; subst he; exact evg_cell c2 c3 c4
          · simp at he; subst he; simp [rdA]
      · cases e
    · cases e
  ·
    rename_i k id off k' o k1 b
    have hx := FX.atCas g n rs k hg
    split at e
    · rename_i cvs el cg ho
      split at e
      · rename_i k'' m hm
        cases hc : (ikEq k k' && ikEq k k'' && ikEq k k1) with
        | false => rw [hc] at e; cases e
        | true =>
          rw [hc] at e
          rw [Bool.and_eq_true, Bool.and_eq_true] at hc
          obtain rfl := ikEq_true hc.1.1
          obtain rfl := ikEq_true hc.1.2
          obtain rfl := ikEq_true hc.2
          obtain ⟨u, r, hvs, _, hu, hr⟩ := RVs_arg ha
          obtain ⟨p, hp, rfl⟩ := ptr_inv hu
          obtain ⟨u2, r2, hr', hu2, hr2⟩ := RVs_cons_inv hr
          obtain ⟨u3, r3, hr3', hu3, hr3⟩ := RVs_cons_inv hr2
          rw [RVs_nil_inv hr3] at hr3'
          unfold RV at hu2 hu3
          subst hu2; subst hu3
          have hvs : vs = #[.pointer (some ⟨p.1, off, none⟩), .int k o, .int k b] := by apply Array.toList_inj.1; rw [hvs, hr', hr3']
          subst hvs
          obtain ⟨c1, c2, c3, c4, c5⟩ := S.cellOf ho hp hm
          simp only [cond_true] at e
          cases hno : (m == o) with
          | true =>
            rw [hno] at e
            simp only [cond_true, Option.map_eq_some_iff] at e
            obtain ⟨h1, hst, e⟩ := e
            cases e
            obtain rfl := eq_of_beq hno
            obtain ⟨s1, s2, s3, s4, s5⟩ := S.write1 hst hp c1 (c5 rfl)
            refine eok_of hx (run_cas_hit c1 (c5 rfl)) (fun x hx => ?_) s4 s1 (by unfold RV; rfl) (fine_own s2 s3 (fun e he => ?_) (s1.os.trans S.os.symm) (s1.tape.trans S.tape.symm) (s1.output.trans S.output.symm)) ?_
            · simp at hx; rcases hx with rfl | rfl <;> exact ⟨rfl, by simp [rdA, wrA]⟩
            · simp at he; rcases he with rfl | rfl <;> exact evg_cell c2 c3 (by omega)
            · rw [s5]; exact deaf_still (fun e he => by simp at he; rcases he with rfl | rfl <;> simp [rdA, wrA]) _
          | false =>
            rw [hno] at e
            cases e
            have hne : m ≠ o := by simpa using hno
            refine eok_of hx (run_cas_miss c1 (c5 rfl) hne) (fun x hx => ?_) rfl S (by unfold RV; rfl) (fine_own (Nat.le_refl _) (fun _ _ _ => rfl) (fun e he => ?_) rfl rfl rfl) (deaf_still (fun e he => ?_) _)
            · simp at hx; subst hx; exact ⟨rfl, by simp [rdA]⟩
            · simp at he; subst he; exact evg_cell c2 c3 c4
            · simp at he; subst he; simp [rdA]
      · cases e
    · cases e
  ·
    rename_i a b
    cases e
    have hx := FX.cmpStr g n rs hg
    obtain ⟨u, r, hvs, _, hu, hr⟩ := RVs_arg ha
    obtain ⟨u2, r2, hr', hu2, hr2⟩ := RVs_cons_inv hr
    rw [RVs_nil_inv hr2] at hr'
    obtain rfl := str_inv hu
    obtain rfl := str_inv hu2
    have hvs : vs = #[.string ⟨a.toArray⟩, .string ⟨b.toArray⟩] := by apply Array.toList_inj.1; rw [hvs, hr']
    subst hvs
    refine eok_of hx (es := []) ?_ (by simp) rfl S (by unfold int64 RV; rfl) (FineG.refl w) rfl
    show SRun P (do Pure.pure (goInt (Extern.BytealgCompare.cmp (← Extern.Bytes.bytesOf (.string ⟨a.toArray⟩)) (← Extern.Bytes.bytesOf (.string ⟨b.toArray⟩))))) w _ w []
    exact SRun.bind0 (SRun.pure _) (SRun.bind0 (SRun.pure _) (SRun.pure _))
  ·
    rename_i t id
    have hx := FX.mapClone g n rs hg
    split at e
    · rename_i es ck ho
      cases e
      obtain ⟨u, rfl, hu⟩ := args1 ha
      unfold RV at hu
      obtain ⟨x, rfl, hx1⟩ := hu
      obtain ⟨p, hp, rfl⟩ := map_inv hx1
      obtain ⟨q, ob, hq, b1, b2, b3, hb, es', rfl, hr⟩ := S.at ho trivial
      obtain rfl : p = q := by rw [hp] at hq; exact Option.some.inj hq
      obtain ⟨g1, g2⟩ := SRun.getObjE (P := P) (K := K) hb (by simp) rfl b1 b2
      have hl : LOk P K ι h w (Extern.MapsClone.clone #[.iface t (.map (some p.1))]) (.iface t (.map h.nx)) (h.new (.map es ck)) := by
        refine LOk.bindE g1 g2 ?_
        refine LOk_newObj S (cap := 0) (o := .map es ck) (ob := .map es' ck) ⟨es', rfl, hr⟩ (fun b => .iface t (.map (some b))) (fun b w => SRun.pure _) (fun ι' b hb _ => ?_)
        unfold RV
        refine ⟨_, rfl, ?_⟩
        unfold RV; exact ⟨_, hb, rfl⟩
      exact eok_l hx S hl
    · cases e
  · cases e
  · cases e
end
end Go.Ev
namespace Go.Ev
def valO (ag : Bool) (x : Array Value) : Value := if ag then .agg x else x.getD 0 undef
structure FlatT (P : Program) (D : Nat) (t : TypeId) (ks : List Nat) (ag : Bool) : Prop where
  agg : ∀ w, SRun P (isAgg t) w ag w []
  size : ∀ w, SRun P (sizeOf t) w ks.length w []
  sc : ag = false → ks.length = 1
  pos : 0 < ks.length
  ck : ∀ (n : Nat) (b : Bool) (w : World) (x : Array Value) (l : List AV) (ι : Nm), D ≤ n → RVs ι l x.toList → kindL ks l = true → SRun P (Instr.checkKey b n t (valO ag x)) w () w []
  eq : ∀ (n : Nat) (w : World) (x y : Array Value) (l m : List AV) (ι : Nm) (r : Bool), D ≤ n → RVs ι l x.toList → RVs ι m y.toList → kindL ks l = true → eqL l m = some r → SRun P (Op.equalIn n t (valO ag x) (valO ag y)) w r w []
theorem FlatT.mono {P : Program} {D D' : Nat} {t : TypeId} {ks : List Nat} {ag : Bool} (h : FlatT P D t ks ag) (hD : D ≤ D') : FlatT P D' t ks ag :=
  ⟨h.agg, h.size, h.sc, h.pos, fun n b w x l ι hn => h.ck n b w x l ι (by omega), fun n w x y l m ι r hn => h.eq n w x y l m ι r (by omega)⟩
theorem kindL_len : ∀ {ks : List Nat} {l : List AV}, kindL ks l = true → l.length = ks.length
  | [], [], _ => rfl
  | [], _ :: _, h => by cases h
  | _ :: _, [], h => by cases h
  | k :: ks, a :: l, h => by
    unfold kindL at h
    rw [Bool.and_eq_true] at h
    simp [kindL_len h.2]
theorem kindL_app : ∀ {ks ks' : List Nat} {l : List AV}, kindL (ks ++ ks') l = true → ∃ l1 l2, l = l1 ++ l2 ∧ kindL ks l1 = true ∧ kindL ks' l2 = true
  | [], ks', l, h => ⟨[], l, rfl, rfl, h⟩
  | k :: ks, ks', [], h => by cases h
  | k :: ks, ks', a :: l, h => by
    have h : (_ && kindL (ks ++ ks') l) = true := h
    rw [Bool.and_eq_true] at h
    obtain ⟨l1, l2, rfl, h1, h2⟩ := kindL_app h.2
    exact ⟨a :: l1, l2, rfl, by unfold kindL; rw [Bool.and_eq_true]; exact ⟨h.1, h1⟩, h2⟩
theorem eqL_app : ∀ {l1 l2 m : List AV} {r : Bool}, eqL (l1 ++ l2) m = some r → ∃ m1 m2 r1 r2, m = m1 ++ m2 ∧ l1.length = m1.length ∧ eqL l1 m1 = some r1 ∧ eqL l2 m2 = some r2 ∧ r = (r1 && r2)
  | [], l2, m, r, h => ⟨[], m, true, r, rfl, rfl, rfl, h, by simp⟩
  | a :: l1, l2, [], r, h => by cases h
  | a :: l1, l2, b :: m, r, h => by
    have h : (match eqS a b with | none => none | some false => (match eqL (l1 ++ l2) m with | none => none | some _ => some false) | some true => eqL (l1 ++ l2) m) = some r := h
    cases he : eqS a b with
    | none => rw [he] at h; cases h
    | some q =>
      rw [he] at h
      cases q with
      | true =>
        obtain ⟨m1, m2, r1, r2, rfl, hl, h1, h2, rfl⟩ := eqL_app (show eqL (l1 ++ l2) m = some r from h)
        exact ⟨b :: m1, m2, r1, r2, rfl, by simp [hl], by unfold eqL; rw [he]; exact h1, h2, rfl⟩
      | false =>
        simp only at h
        cases hq : eqL (l1 ++ l2) m with
        | none => rw [hq] at h; cases h
        | some q =>
          rw [hq] at h
          cases h
          obtain ⟨m1, m2, r1, r2, rfl, hl, h1, h2, _⟩ := eqL_app hq
          exact ⟨b :: m1, m2, false, r2, rfl, by simp [hl], by unfold eqL; rw [he]; simp only [h1], h2, rfl⟩
theorem eqL_len {l m : List AV} {r : Bool} (h : eqL l m = some r) : l.length = m.length := by
  obtain ⟨m1, m2, r1, r2, rfl, h1, h2, h3, _⟩ := eqL_app (l1 := l) (l2 := []) (by simpa using h)
  cases m2 with
  | nil => simpa using h1
  | cons _ _ => cases h3
theorem RVs_app_inv {ι : Nm} {l1 l2 : List AV} {vs : List Value} (h : RVs ι (l1 ++ l2) vs) : RVs ι l1 (vs.take l1.length) ∧ RVs ι l2 (vs.drop l1.length) := by
  induction l1 generalizing vs with
  | nil => exact ⟨by simpa using RVs_nil, by simpa using h⟩
  | cons a l1 ih =>
    obtain ⟨v, r, rfl, h1, h2⟩ := RVs_cons_inv (show RVs ι (a :: (l1 ++ l2)) vs from h)
    obtain ⟨h3, h4⟩ := ih h2
    exact ⟨by simpa using RVs_cons h1 h3, by simpa using h4⟩
section
variable {P : Program} {D : Nat} {w : World}
theorem part_ok {t : TypeId} {ks : List Nat} {ag : Bool} (h : FlatT P D t ks ag) {cs : Array Value} {off : Nat} (hs : off + ks.length ≤ cs.size) : SRun P (part t cs off) w (valO ag (cs.extract off (off + ks.length))) w [] := by
  unfold part
  refine SRun.bind0 (h.agg w) ?_
  cases ag with
  | true => exact SRun.bind0 (h.size w) (SRun.pure _)
  | false =>
    have h1 := h.sc rfl
    have hlt : off < cs.size := by omega
    have hc : cs[off]? = some cs[off] := Array.getElem?_eq_getElem hlt
    have : valO false (cs.extract off (off + ks.length)) = cs[off] := by
      unfold valO
      rw [h1]
      simp only [Bool.false_eq_true, if_false, Array.getD_eq_getD_getElem?, Array.getElem?_extract]
      rw [if_pos (by omega), Nat.add_zero, hc]
      rfl
    rw [this]
    simp only [hc]
    exact SRun.pure _
inductive Itm {α : Type} (P : Program) (D : Nat) (ty : α → TypeId) (off : α → Nat) : Nat → List α → List Nat → Prop
  | nil {o : Nat} : Itm P D ty off o [] []
  | cons {o : Nat} {a : α} {as : List α} {ks ks' : List Nat} {ag : Bool} : off a = o → FlatT P D (ty a) ks ag → Itm P D ty off (o + ks.length) as ks' → Itm P D ty off o (a :: as) (ks ++ ks')
theorem extract_list (x : Array Value) (o n : Nat) : (x.extract o (o + n)).toList = (x.toList.drop o).take n := by
  rw [Array.toList_extract]
  simp [List.extract_eq_take_drop]
theorem items_eq {α : Type} {ty : α → TypeId} {off : α → Nat} {d : Nat} (hd : D ≤ d) {x y : Array Value} {B : α → Option Bool × Unit → Sem (ForInStep (Option Bool × Unit))} {ι : Nm} : ∀ {o : Nat} {as : List α} {ks : List Nat}, Itm P D ty off o as ks → (∀ a ∈ as, ∀ s, B a s = (do
      let u ← part (ty a) x (off a)
      let v ← part (ty a) y (off a)
      let r ← Op.equalIn d (ty a) u v
      if (!r) = true then pure (ForInStep.done (some false, ())) else pure (ForInStep.yield (none, ())))) →
    ∀ {l m : List AV} {r : Bool}, RVs ι l (x.toList.drop o) → RVs ι m (y.toList.drop o) → kindL ks l = true → eqL l m = some r → SRun P (forIn as ((none, ()) : Option Bool × Unit) B) w (if r then (none, ()) else (some false, ())) w [] := by
  intro o as ks H
  induction H with
  | nil =>
    intro _ l m r hx hy hk he
    have : l = [] := by cases l with | nil => rfl | cons _ _ => cases hk
    subst this
    cases m with
    | nil => cases he; rw [List.forIn_nil]; exact SRun.pure _
    | cons _ _ => cases he
  | @cons o a as ks ks' ag ho hf _ ih =>
    intro hB l m r hx hy hk he
    obtain ⟨l1, l2, rfl, hk1, hk2⟩ := kindL_app hk
    obtain ⟨m1, m2, r1, r2, rfl, hl, he1, he2, rfl⟩ := eqL_app he
    obtain ⟨hx1, hx2⟩ := RVs_app_inv hx
    obtain ⟨hy1, hy2⟩ := RVs_app_inv hy
    have hlk := kindL_len hk1
    have hxl := hx1.length
    have hyl := hy1.length
    rw [← hl] at hy1 hy2 hyl
    rw [hlk] at hx1 hx2 hxl hy1 hy2 hyl
    simp only [List.length_take, List.length_drop, Array.length_toList] at hxl hyl
    have hpos := hf.pos
    rw [← extract_list] at hx1 hy1
    rw [List.drop_drop] at hx2 hy2
    rw [List.forIn_cons, hB a (by simp)]
    subst ho
    have hs := hf.eq d w _ _ l1 m1 ι r1 hd hx1 hy1 hk1 he1
    have hb : SRun P (do
        let u ← part (ty a) x (off a)
        let v ← part (ty a) y (off a)
        let r ← Op.equalIn d (ty a) u v
        if (!r) = true then pure (ForInStep.done (some false, ())) else pure (ForInStep.yield (none, ()))) w (if r1 then ForInStep.yield (none, ()) else ForInStep.done (some false, ())) w [] := by
      refine SRun.bind0 (part_ok hf (by omega)) (SRun.bind0 (part_ok hf (by omega)) (SRun.bind0 hs ?_))
      cases r1
      · exact SRun.pure _
      · exact SRun.pure _
    refine SRun.bind0 hb ?_
    cases r1 with
    | false => exact SRun.pure _
    | true =>
      simp only [Bool.true_and]
      exact ih (fun a ha => hB a (by simp [ha])) hx2 hy2 hk2 he2
theorem items_ck {α : Type} {ty : α → TypeId} {off : α → Nat} {d : Nat} (hd : D ≤ d) {b : Bool} {x : Array Value} {B : α → PUnit → Sem (ForInStep PUnit)} {ι : Nm} : ∀ {o : Nat} {as : List α} {ks : List Nat}, Itm P D ty off o as ks → (∀ a ∈ as, ∀ s, ∀ n ag, SRun P (part (ty a) x (off a)) w n w [] → SRun P (Instr.checkKey b d (ty a) n) w () w [] → ∀ z, SRun P (sizeOf (ty a)) w z w [] → ag = z → SRun P (B a s) w (.yield ⟨⟩) w []) →
    ∀ {l : List AV}, RVs ι l (x.toList.drop o) → kindL ks l = true → SRun P (forIn as PUnit.unit B) w PUnit.unit w [] := by
  intro o as ks H
  induction H with
  | nil =>
    intro _ l hx hk
    rw [List.forIn_nil]; exact SRun.pure _
  | @cons o a as ks ks' ag ho hf _ ih =>
    intro hB l hx hk
    obtain ⟨l1, l2, rfl, hk1, hk2⟩ := kindL_app hk
    obtain ⟨hx1, hx2⟩ := RVs_app_inv hx
    have hlk := kindL_len hk1
    have hxl := hx1.length
    rw [hlk] at hx1 hx2 hxl
    simp only [List.length_take, List.length_drop, Array.length_toList] at hxl
    have hpos := hf.pos
    rw [← extract_list] at hx1
    rw [List.drop_drop] at hx2
    rw [List.forIn_cons]
    subst ho
    refine SRun.bind0 (hB a (by simp) _ _ ks.length (part_ok hf (by omega)) (hf.ck d b w _ l1 ι hd hx1 hk1) _ (hf.size w) rfl) ?_
    exact ih (fun a ha => hB a (by simp [ha])) hx2 hk2
end
end Go.Ev
namespace Go.Ev
section
variable {P : Program} {D : Nat} {w : World}
theorem agg_run {t : TypeId} {d : TypeDesc} {ag : Bool} (h : P.underlying t = some d) (ha : ag = match d with | .struct _ | .array _ _ => true | _ => false) : SRun P (isAgg t) w ag w [] := by
  unfold isAgg
  refine SRun.bind0 (SRun.underlying h) ?_
  subst ha
  cases d <;> exact SRun.pure _
theorem flat_one {ι : Nm} {k : Nat} {l : List AV} {x : Array Value} (hx : RVs ι l x.toList) (hk : kindL [k] l = true) : ∃ a v, l = [a] ∧ x = #[v] ∧ RV ι a v ∧ (match a with | .bool _ => Nat.beq k 0 | .int _ _ => Nat.beq k 1 | .str _ => Nat.beq k 2 | _ => false) = true := by
  cases l with
  | nil => cases hk
  | cons a l =>
    unfold kindL at hk
    rw [Bool.and_eq_true] at hk
    cases l with
    | cons _ _ => have := hk.2; cases this
    | nil =>
      obtain ⟨v, rfl, hv⟩ := args1 hx
      exact ⟨a, v, rfl, rfl, hv, hk.1⟩
theorem eqL_one {a : AV} {m : List AV} {r : Bool} (h : eqL [a] m = some r) : ∃ b, m = [b] ∧ eqS a b = some r := by
  have hl := eqL_len h
  cases m with
  | nil => simp at hl
  | cons b m =>
    cases m with
    | cons _ _ => simp at hl
    | nil =>
      refine ⟨b, rfl, ?_⟩
      unfold eqL at h
      cases he : eqS a b with
      | none => rw [he] at h; cases h
      | some q => rw [he] at h; cases q <;> exact h
theorem flat_int {t : TypeId} {k : IntKind} {i : TypeInfo} (h : P.underlying t = some (.int k)) (hi : P.info? t = some i) (hs : i.size = 1) : FlatT P 1 t [1] false := by
  refine ⟨fun w => agg_run h rfl, fun w => by have := SRun.sizeOf (w := w) hi; rw [hs] at this; exact this, fun _ => rfl, by decide, fun n b w x l ι hn hx hk => ?_, fun n w x y l m ι r hn hx hy hk he => ?_⟩
  · obtain ⟨a, v, rfl, rfl, hv, hka⟩ := flat_one hx hk
    obtain ⟨n, rfl⟩ : ∃ n', n = n' + 1 := ⟨n - 1, by omega⟩
    unfold Instr.checkKey
    refine SRun.bind0 (SRun.underlying h) ?_
    cases a <;> first | (cases hka; done) | skip
    unfold RV at hv; subst hv
    exact SRun.pure _
  · obtain ⟨a, v, rfl, rfl, hv, hka⟩ := flat_one hx hk
    obtain ⟨b, rfl, he1⟩ := eqL_one he
    clear he
    obtain ⟨u, rfl, hu⟩ := args1 hy
    obtain ⟨n, rfl⟩ : ∃ n', n = n' + 1 := ⟨n - 1, by omega⟩
    unfold Op.equalIn
    refine SRun.bind0 (SRun.underlying h) ?_
    cases a <;> first | (cases hka; done) | skip
    rename_i k1 a
    cases b <;> first | (cases he1; done) | skip
    rename_i k2 b
    unfold RV at hv hu; subst hv; subst hu
    have he1 : cond (ikEq k1 k2) (some (a == b)) none = some r := he1
    cases hik : ikEq k1 k2 with
    | false => rw [hik] at he1; cases he1
    | true =>
      rw [hik] at he1
      cases he1
      obtain rfl := ikEq_true hik
      show SRun P (if k1 = k1 then pure (a == b) else _) w _ w _
      rw [if_pos rfl]
      exact SRun.pure _
theorem flat_str {t : TypeId} {i : TypeInfo} (h : P.underlying t = some .string) (hi : P.info? t = some i) (hs : i.size = 1) : FlatT P 1 t [2] false := by
  refine ⟨fun w => agg_run h rfl, fun w => by have := SRun.sizeOf (w := w) hi; rw [hs] at this; exact this, fun _ => rfl, by decide, fun n b w x l ι hn hx hk => ?_, fun n w x y l m ι r hn hx hy hk he => ?_⟩
  · obtain ⟨a, v, rfl, rfl, hv, hka⟩ := flat_one hx hk
    obtain ⟨n, rfl⟩ : ∃ n', n = n' + 1 := ⟨n - 1, by omega⟩
    unfold Instr.checkKey
    refine SRun.bind0 (SRun.underlying h) ?_
    cases a <;> first | (cases hka; done) | skip
    unfold RV at hv; subst hv
    exact SRun.pure _
  · obtain ⟨a, v, rfl, rfl, hv, hka⟩ := flat_one hx hk
    obtain ⟨b, rfl, he1⟩ := eqL_one he
    clear he
    obtain ⟨u, rfl, hu⟩ := args1 hy
    obtain ⟨n, rfl⟩ : ∃ n', n = n' + 1 := ⟨n - 1, by omega⟩
    unfold Op.equalIn
    refine SRun.bind0 (SRun.underlying h) ?_
    cases a <;> first | (cases hka; done) | skip
    rename_i a
    cases b <;> first | (cases he1; done) | skip
    rename_i b
    unfold RV at hv hu; subst hv; subst hu
    unfold eqS at he1
    cases he1
    show SRun P (pure ((⟨a.toArray⟩ : ByteArray) == ⟨b.toArray⟩)) w _ w _
    rw [bytes_beq]
    exact SRun.pure _
theorem flat_struct {t : TypeId} {fs : Array Field} {i : TypeInfo} {ks : List Nat} (h : P.underlying t = some (.struct fs)) (hi : P.info? t = some i) (hs : i.size = ks.length) (hst : P.stoodInHeld t = false) (hn : ∀ f ∈ fs.toList, f.name ≠ "_")
    (hI : Itm P D (fun f : Field => f.type) (fun f : Field => f.offset) 0 fs.toList ks) (hpos : 0 < ks.length) : FlatT P (D + 1) t ks true := by
  refine ⟨fun w => agg_run h rfl, fun w => by have := SRun.sizeOf (w := w) hi; rw [hs] at this; exact this, fun h => (by cases h), hpos, fun n b w x l ι hd hx hk => ?_, fun n w x y l m ι r hd hx hy hk he => ?_⟩
  · obtain ⟨n, rfl⟩ : ∃ n', n = n' + 1 := ⟨n - 1, by omega⟩
    unfold Instr.checkKey
    refine SRun.bind0 (SRun.underlying h) ?_
    simp only [valO, if_true]
    rw [← Array.forIn_toList]
    refine SRun.bind0 (items_ck (d := n) (b := b) (x := x) (by omega) hI (fun f hf s v ag hp hc _ _ _ => ?_) (by simpa using hx) hk) (SRun.pure _)
    simp only [hn f hf, ne_eq, not_false_eq_true, if_true]
    exact SRun.bind0 hp (SRun.bind0 hc (SRun.pure _))
  · obtain ⟨n, rfl⟩ : ∃ n', n = n' + 1 := ⟨n - 1, by omega⟩
    unfold Op.equalIn
    refine SRun.bind0 (SRun.underlying h) ?_
    simp only [valO, if_true]
    refine SRun.bind0 SRun.program ?_
    simp only [hst, Bool.false_eq_true, if_false]
    rw [← Array.forIn_toList]
    refine SRun.bind0 (items_eq (d := n) (x := x) (y := y) (by omega) hI (fun f hf s => ?_) (by simpa using hx) (by simpa using hy) hk he) ?_
    · simp only [hn f hf, ne_eq, not_false_eq_true, if_true]
    · cases r <;> exact SRun.pure _
theorem itm_array {e : TypeId} {ks : List Nat} {ag : Bool} (hF : FlatT P D e ks ag) : ∀ (n s : Nat), Itm P D (fun _ : Nat => e) (fun i => i * ks.length) (s * ks.length) (List.range' s n 1) (List.replicate n ks).flatten
  | 0, s => Itm.nil
  | n + 1, s => by
    rw [List.range'_succ, List.replicate_succ, List.flatten_cons]
    refine Itm.cons rfl hF ?_
    have := itm_array hF n (s + 1)
    rw [Nat.add_mul, Nat.one_mul] at this
    exact this
theorem flat_array {t e : TypeId} {len : Nat} {i : TypeInfo} {ks : List Nat} {ag : Bool} (h : P.underlying t = some (.array len e)) (hi : P.info? t = some i) (hF : FlatT P D e ks ag) (hs : i.size = (List.replicate len ks).flatten.length) (hpos : 0 < (List.replicate len ks).flatten.length) : FlatT P (D + 1) t (List.replicate len ks).flatten true := by
  have hI := itm_array hF len 0
  rw [Nat.zero_mul] at hI
  refine ⟨fun w => agg_run h rfl, fun w => by have := SRun.sizeOf (w := w) hi; rw [hs] at this; exact this, fun h => (by cases h), hpos, fun n b w x l ι hd hx hk => ?_, fun n w x y l m ι r hd hx hy hk he => ?_⟩
  · obtain ⟨n, rfl⟩ : ∃ n', n = n' + 1 := ⟨n - 1, by omega⟩
    unfold Instr.checkKey
    refine SRun.bind0 (SRun.underlying h) ?_
    simp only [valO, if_true]
    rw [Std.Legacy.Range.forIn_eq_forIn_range']
    have e1 : (Std.Legacy.Range.size { start := 0, stop := len, step := 1, step_pos := Nat.one_pos }) = len := by simp [Std.Legacy.Range.size]
    rw [e1]
    refine SRun.bind0 (items_ck (d := n) (b := b) (x := x) (by omega) hI (fun f hf s v z hp hc z' hz hzz => ?_) (by simpa using hx) hk) (SRun.pure _)
    refine SRun.bind0 (hF.size w) ?_
    exact SRun.bind0 hp (SRun.bind0 hc (SRun.pure _))
  · obtain ⟨n, rfl⟩ : ∃ n', n = n' + 1 := ⟨n - 1, by omega⟩
    unfold Op.equalIn
    refine SRun.bind0 (SRun.underlying h) ?_
    simp only [valO, if_true]
    refine SRun.bind0 (hF.size w) ?_
    rw [Std.Legacy.Range.forIn_eq_forIn_range']
    have e1 : (Std.Legacy.Range.size { start := 0, stop := len, step := 1, step_pos := Nat.one_pos }) = len := by simp [Std.Legacy.Range.size]
    rw [e1]
    refine SRun.bind0 (items_eq (d := n) (x := x) (y := y) (by omega) hI (fun f hf s => rfl) (by simpa using hx) (by simpa using hy) hk he) ?_
    cases r <;> exact SRun.pure _
theorem FlatT.says {t : TypeId} {ks : List Nat} {gs : TypeDesc} (h : FlatT P D t ks true) (hD : D ≤ 10000) (hu : P.underlying t = some gs) (hg : P.eqGuardType P.depth t = false) : ∃ gs, P.underlying t = some gs ∧ ∀ (x : Array Value) (l : List AV) (ι : Nm) (w : World), RVs ι l x.toList → kindL ks l = true →
    (∀ b, SRun P (Instr.checkKey b 10000 t (.agg x)) w () w []) ∧
    ∀ (y : Array Value) (m : List AV) (r : Bool), RVs ι m y.toList → eqL l m = some r →
    ∀ (o1 o2 : Operand), ∀ op, (op = BinOp.eql ∨ op = BinOp.neq) → SRun P (eqGuard op t o1 o2 (.agg x) (.agg y)) w () w [] ∧ SRun P (Op.equal t (.agg x) (.agg y)) w r w [] := by
  refine ⟨gs, hu, fun x l ι w hx hk => ⟨fun b => h.ck 10000 b w x l ι hD hx hk, fun y m r hy he o1 o2 op hop => ⟨?_, h.eq 10000 w x y l m ι r hD hx hy hk he⟩⟩⟩
  unfold eqGuard
  have hp : SRun P (do
      let p ← program
      let q ← program
      if (!p.eqGuardType q.depth t) = true then pure () else (do
        let b ← Op.eqGuardIn Op.maxDepth t (.agg x) (.agg y)
        if b = true then unsupported (.noEntry "binop/eql: two nil values of an interface type with methods, in a part of a struct or an array") else pure ())) w () w [] := by
    refine SRun.bind0 SRun.program (SRun.bind0 SRun.program ?_)
    simp only [hg, Bool.not_false, if_true]
    exact SRun.pure _
  rcases hop with rfl | rfl
  · exact hp
  · exact hp
end
end Go.Ev
namespace Go.Ev
def descB (P : Program) : TD → TypeDesc → Bool
  | .bool, .bool => true
  | .int k, .int k' => ikEq k k'
  | .str, .string => true
  | .ptr e, .pointer e' => Nat.beq e e'
  | .slice e, .slice e' => Nat.beq e e'
  | .map k e, .map k' e' => Nat.beq k k' && Nat.beq e e' && (P.underlying k).isSome
  | .func, .func _ _ _ => true
  | .iface b, .interface ms => b == ms.isEmpty
  | .struct fs, .struct gs => Nat.beq fs.length gs.size && (fs.zip gs.toList).all fun p => Nat.beq p.1.1 p.2.offset && Nat.beq p.1.2.2 p.2.type && (match P.info? p.2.type with | some gi => Nat.beq gi.size p.1.2.1 | none => false)
  | .array n e, .array n' e' => Nat.beq n n' && Nat.beq e e'
  | .uptr, .unsafePointer => true
  | .tuple, .tuple _ => true
  | _, _ => false
def isAggV : Value → Bool
  | .agg _ => true
  | _ => false
def tiokB (P : Program) (t : Nat) (ti : TI) : Bool :=
  match P.info? t, P.underlying t with
  | some i, some d => (match i.zero with
    | some z => Nat.beq i.size ti.size && Nat.beq i.bytes ti.bytes && Nat.beq z.cells.size ti.size && Nat.beq ti.zero.length ti.size && (isAggV z == ti.isAgg) && AV.beqL ti.zero (z.cells.toList.map avScalar) && descB P ti.d d
    | none => false)
  | _, _ => false
def allT {α : Type} (p : Nat → α → Bool) : Tr α → Nat → Nat → Bool
  | .e, _, _ => true
  | .n l v r, a, b => (match v with | some x => p a x | none => true) && (allT p l (a + b) (2 * b) && allT p r (a + 2 * b) (2 * b))
def TrAll {α : Type} (p : Nat → α → Prop) : Tr α → Nat → Nat → Prop
  | .e, _, _ => True
  | .n l v r, a, b => (∀ x, v = some x → p a x) ∧ TrAll p l (a + b) (2 * b) ∧ TrAll p r (a + 2 * b) (2 * b)
theorem TrAll.get {α : Type} {p : Nat → α → Prop} : ∀ {t : Tr α} {a b i : Nat} {x : α}, TrAll p t a b → t.get i = some x → p (a + b * i) x
  | .e, a, b, i, x, _, h => by rw [Tr.get_e] at h; cases h
  | .n l v r, a, b, i, x, H, h => by
    obtain ⟨h1, h2, h3⟩ := H
    rw [Tr.get_n] at h
    by_cases h0 : i = 0
    · subst h0
      simp at h
      have := h1 x h
      simpa using this
    · by_cases hodd : i % 2 = 1
      · simp [h0, hodd] at h
        have := TrAll.get h2 h
        have e : a + b + 2 * b * (i / 2) = a + b * i := by
          have : i = 2 * (i / 2) + 1 := by omega
          conv => rhs; rw [this]
          rw [Nat.mul_add, Nat.mul_one, ← Nat.mul_assoc, Nat.mul_comm b 2]; omega
        rw [e] at this; exact this
      · simp [h0, hodd] at h
        have := TrAll.get h3 h
        have e : a + 2 * b + 2 * b * (i / 2 - 1) = a + b * i := by
          have : i = 2 * (i / 2 - 1) + 2 := by omega
          conv => rhs; rw [this]
          rw [Nat.mul_add, ← Nat.mul_assoc, Nat.mul_comm b 2]; omega
        rw [e] at this; exact this
theorem allT_all {α : Type} {p : Nat → α → Bool} : ∀ {t : Tr α} {a b : Nat}, allT p t a b = true → TrAll (fun i x => p i x = true) t a b
  | .e, _, _, _ => trivial
  | .n l v r, a, b, h => by
    unfold allT at h
    rw [Bool.and_eq_true, Bool.and_eq_true] at h
    obtain ⟨h1, h2, h3⟩ := h
    refine ⟨fun x hx => ?_, allT_all h2, allT_all h3⟩
    subst hx; exact h1
theorem avScalars_ok {ι : Nm} : ∀ l : List Value, RVs ι (l.map avScalar) l
  | [] => RVs_nil
  | v :: l => RVs_cons (RV_scalar v) (avScalars_ok l)
theorem AV.beqL_eq' {l m : List AV} (h : AV.beqL l m = true) : l = m := AV.beqL_eq h
theorem descB_ok {P : Program} {a : TD} {d : TypeDesc} (h : descB P a d = true) : match (generalizing := false) a, d with
    | .bool, .bool => True
    | .int k, .int k' => k = k'
    | .str, .string => True
    | .ptr e, .pointer e' => e = e'
    | .slice e, .slice e' => e = e'
    | .map k e, .map k' e' => k = k' ∧ e = e' ∧ ∃ kd, P.underlying k = some kd
    | .func, .func _ _ _ => True
    | .iface b, .interface ms => b = ms.isEmpty
    | .struct fs, .struct gs => fs.length = gs.size ∧ ∀ (i : Nat) (x : Nat × Nat × TypeId) (g : Field), fs[i]? = some x → gs[i]? = some g → x.1 = g.offset ∧ x.2.2 = g.type ∧ ∃ gi, P.info? g.type = some gi ∧ gi.size = x.2.1
    | .array n e, .array n' e' => n = n' ∧ e = e'
    | .uptr, .unsafePointer => True
    | .tuple, .tuple _ => True
    | _, _ => False := by
  cases a <;> cases d <;> simp only [descB, Bool.false_eq_true] at h ⊢
  · exact ikEq_true h
  · exact Nat.eq_of_beq_eq_true h
  · exact Nat.eq_of_beq_eq_true h
  · rw [Bool.and_eq_true, Bool.and_eq_true] at h
    exact ⟨Nat.eq_of_beq_eq_true h.1.1, Nat.eq_of_beq_eq_true h.1.2, Option.isSome_iff_exists.1 h.2⟩
  · exact eq_of_beq h
  · rw [Bool.and_eq_true, List.all_eq_true] at h
    refine ⟨Nat.eq_of_beq_eq_true h.1, fun i x g hx hg => ?_⟩
    have hm : (x, g) ∈ List.zip _ _ := List.mem_of_getElem? (i := i) (by rw [List.getElem?_zip_eq_some]; exact ⟨hx, by rw [Array.getElem?_toList]; exact hg⟩)
    have := h.2 _ hm
    simp only [Bool.and_eq_true] at this
    refine ⟨Nat.eq_of_beq_eq_true this.1.1, Nat.eq_of_beq_eq_true this.1.2, ?_⟩
    have h3 := this.2
    split at h3
    · exact ⟨_, ‹_›, Nat.eq_of_beq_eq_true h3⟩
    · cases h3
  · rw [Bool.and_eq_true] at h
    exact ⟨Nat.eq_of_beq_eq_true h.1, Nat.eq_of_beq_eq_true h.2⟩
theorem tiokB_ok {P : Program} {t : Nat} {ti : TI} (h : tiokB P t ti = true) : TIok P t ti := by
  unfold tiokB at h
  split at h
  · rename_i i d hi hd
    split at h
    · rename_i z hz
      simp only [Bool.and_eq_true] at h
      obtain ⟨⟨⟨⟨⟨⟨h1, h2⟩, h3⟩, h4⟩, h5⟩, h6⟩, h7⟩ := h
      have h6 := AV.beqL_eq h6
      have h5 : isAggV z = ti.isAgg := eq_of_beq h5
      refine ⟨⟨i, z, hi, Nat.eq_of_beq_eq_true h1, Nat.eq_of_beq_eq_true h2, hz, fun ι => ?_, fun ι => by rw [h6]; exact avScalars_ok _, Nat.eq_of_beq_eq_true h3, Nat.eq_of_beq_eq_true h4⟩, d, hd, descB_ok h7⟩
      unfold TI.zeroV
      rw [← h5]
      cases hz2 : isAggV z with
      | true =>
        obtain ⟨cs, rfl⟩ : ∃ cs, z = .agg cs := by cases z <;> first | exact ⟨_, rfl⟩ | cases hz2
        exact RV_agg (by rw [h6]; exact avScalars_ok _)
      | false =>
        have hc : z.cells = #[z] := by cases z <;> first | rfl | cases hz2
        rw [h6, hc]
        exact RV_scalar z
    · cases h
  · cases h
end Go.Ev
namespace Go.Ev
def ExtSays (fn : Func) : EX → Prop
  | .noEscape => ∃ e, Extern.find fn = some e ∧ ∀ v, e #[v] = Pure.pure v
  | .false_ => ∃ e, Extern.find fn = some e ∧ ∀ vs, e vs = Pure.pure (.bool false)
  | .race => ∃ m : Addr → Mark, Extern.find fn = some (Extern.Race.marked m) ∧ (m = .acquire ∨ m = .release ∨ m = .releaseMerge ∨ m = .read ∨ m = .write)
  | .dis => Extern.find fn = some (fun _ => do mark .disable; Pure.pure Extern.Race.none_)
  | .en => Extern.find fn = some (fun _ => do mark .enable; Pure.pure Extern.Race.none_)
  | .atAdd k => Extern.find fn = some (Extern.Atomic.update (Op.intArith .add) k true)
  | .atCas k => Extern.find fn = some (Extern.Atomic.casT (.int k))
  | .atLoad k => Extern.find fn = some (Extern.Atomic.loadT (.int k))
  | .cmpStr => Extern.find fn = some Extern.BytealgCompare.compare
  | .mapClone => Extern.find fn = some Extern.MapsClone.clone
  | .stop => False
def FnOk (P : Program) (g : Nat) (fi : FI) : Prop :=
  ∃ fn, P.funcs[g]? = some fn ∧ fn.ntmps = fi.ntmps ∧ fn.results.toList = fi.results ∧ fn.body = fi.body ∧ (fn.name == "runtime.NumGoroutine") = false ∧
    (fi.body.isSome = true ∨ fi.ext = .stop ∨ (Extern.findNext fn = none ∧ ExtSays fn fi.ext))
theorem fnok_one {p : Nat → FI → Prop} {a : Nat} {x : FI} (h : p a x) : ∀ y, some x = some y → p a y := fun y e => by cases e; exact h
theorem fnok_no {p : Nat → FI → Prop} {a : Nat} : ∀ y, (none : Option FI) = some y → p a y := fun y e => by cases e
section
variable {P : Program} {E : Env}
theorem fn_at (H : TrAll (FnOk P) E.ft 0 1) {g : Nat} {fi : FI} (h : E.ft.get g = some fi) : FnOk P g fi := by
  have := TrAll.get H h
  simpa using this
theorem ext_at (H : TrAll (FnOk P) E.ft 0 1) {g : Nat} {n : Nat} {rs : List ResultVar} {x : EX} (h : E.ft.get g = some ⟨none, n, rs, x⟩) (hx : x ≠ .stop) : ∃ fn, P.funcs[g]? = some fn ∧ (fn.name == "runtime.NumGoroutine") = false ∧ fn.body.isNone = true ∧ Extern.findNext fn = none ∧ ExtSays fn x := by
  obtain ⟨fn, h1, h2, h3, h4, h5, h6⟩ := fn_at H h
  rcases h6 with h7 | h7 | ⟨h7, h8⟩
  · cases h7
  · exact absurd h7 hx
  · exact ⟨fn, h1, h5, by rw [h4]; rfl, h7, h8⟩
theorem fitsX_of (H : TrAll (FnOk P) E.ft 0 1) : FitsX P E where
  noEscape g n rs h := by
    obtain ⟨fn, h1, h2, h3, h4, e, h5, h6⟩ := ext_at H h (by simp)
    exact ⟨e, ⟨fn, h1, h2, h3, h4, h5⟩, h6⟩
  false_ g n rs h := by
    obtain ⟨fn, h1, h2, h3, h4, e, h5, h6⟩ := ext_at H h (by simp)
    exact ⟨e, ⟨fn, h1, h2, h3, h4, h5⟩, h6⟩
  race g n rs h := by
    obtain ⟨fn, h1, h2, h3, h4, m, h5, h6⟩ := ext_at H h (by simp)
    exact ⟨m, ⟨fn, h1, h2, h3, h4, h5⟩, h6⟩
  dis g n rs h := by
    obtain ⟨fn, h1, h2, h3, h4, h5⟩ := ext_at H h (by simp)
    exact ⟨fn, h1, h2, h3, h4, h5⟩
  en g n rs h := by
    obtain ⟨fn, h1, h2, h3, h4, h5⟩ := ext_at H h (by simp)
    exact ⟨fn, h1, h2, h3, h4, h5⟩
  atAdd g n rs k h := by
    obtain ⟨fn, h1, h2, h3, h4, h5⟩ := ext_at H h (by simp)
    exact ⟨fn, h1, h2, h3, h4, h5⟩
  atCas g n rs k h := by
    obtain ⟨fn, h1, h2, h3, h4, h5⟩ := ext_at H h (by simp)
    exact ⟨fn, h1, h2, h3, h4, h5⟩
  atLoad g n rs k h := by
    obtain ⟨fn, h1, h2, h3, h4, h5⟩ := ext_at H h (by simp)
    exact ⟨fn, h1, h2, h3, h4, h5⟩
  cmpStr g n rs h := by
    obtain ⟨fn, h1, h2, h3, h4, h5⟩ := ext_at H h (by simp)
    exact ⟨fn, h1, h2, h3, h4, h5⟩
  mapClone g n rs h := by
    obtain ⟨fn, h1, h2, h3, h4, h5⟩ := ext_at H h (by simp)
    exact ⟨fn, h1, h2, h3, h4, h5⟩
theorem fitsF_of (H : TrAll (FnOk P) E.ft 0 1) (hm : P.follows .mixedOrders = true) : FitsF P E where
  code g c n rs x h := by
    obtain ⟨fn, h1, h2, h3, h4, h5, _⟩ := fn_at H h
    exact ⟨fn, h1, h4, h2, h3, h5⟩
  ext := ext_ok (fitsX_of H)
  mixed := hm
  recov := rfl
theorem types_of (H : allT (tiokB P) E.tt 0 1 = true) : ∀ t ti, E.tt.get t = some ti → TIok P t ti := fun t ti h => by
  have := TrAll.get (allT_all H) h
  simp only [Nat.zero_add, Nat.one_mul] at this
  exact tiokB_ok this
theorem meth_ptr {t : TypeId} {i : TypeInfo} {m : Method} {g : FuncId} {name : String} {e : TypeId} (hi : P.info? t = some i) (hu : P.underlying t = some (.pointer e)) (hm : i.methods.find? (fun m => m.name == name) = some m) (hp : m.path.toList = []) (hf : m.func = some (g, true)) {fuel : Nat} (hfu : fuel ≠ 0)
    (v : Value) (w : World) : SRun P (method fuel t v name) w (g, v) w [] := by
  cases fuel with
  | zero => exact absurd rfl hfu
  | succ fuel =>
    unfold method
    refine SRun.bind0 (SRun.typeInfo hi) ?_
    simp only [hm, hp, hf]
    refine SRun.bind0 (a := (t, Place.val v)) (by unfold follow; exact SRun.pure _) ?_
    refine SRun.bind0 (a := v) ?_ (SRun.pure _)
    unfold receiverAt
    exact SRun.bind0 (SRun.underlying hu) (SRun.pure _)
end
end Go.Ev
namespace Go.Ev
def cGo : List Nat → Code → Code
  | [], c => c
  | i :: p, .seq a b => if i == 0 then cGo p a else cGo p b
  | i :: p, .cond _ a b => if i == 0 then cGo p a else cGo p b
  | _ :: p, .block _ a => cGo p a
  | _ :: p, .loop a => cGo p a
  | _ :: p, .scope a => cGo p a
  | i :: p, .rangeFunc _ _ a b => if i == 0 then cGo p a else cGo p b
  | _, c => c
def cAt (f : Func) (p : List Nat) : Code := match f.body with | some c => cGo p c | none => .skip
abbrev zL {α : Type} (v : α) : Tr α := .n .e (some v) .e
abbrev zN {α : Type} (l : Tr α) (v : α) (r : Tr α) : Tr α := .n l (some v) r
abbrev zO {α : Type} (l r : Tr α) : Tr α := .n l none r
abbrev zI (n : Int) : AV := .int .i64 n
abbrev zP (a b : Nat) : AV := .ptr a b
abbrev zC (l : List AV) (t : TypeId) : AO := .cells l t false false
abbrev zG (l : List AV) (t : TypeId) : AO := .cells l t true false
noncomputable def ent (E : Env) (g : FuncId) (args : List AV) : AF := match enterA E g args false with | some f => f | none => ⟨⟨0, false, none, 0⟩, .e, [], [], false⟩
theorem DoesC.ent {P : Program} {E : Env} (FF : FitsF P E) {g : FuncId} {args : List AV} {h h' : AH} {v : AV} (e : (enterA E g args false).isSome = true) (H : Does P E (ent E g args) h v h') : DoesC P E g args h v h' := by
  cases hf : enterA E g args false with
  | none => rw [hf] at e; cases e
  | some f =>
    unfold Ev.ent at H
    rw [hf] at H
    exact DoesC.enter FF hf H
noncomputable def keepT : List Nat → Tr AV → Tr AV
  | [], _ => .e
  | i :: l, t => match t.get i with
    | some a => (keepT l t).set i a
    | none => keepT l t
theorem keepT_sub : ∀ (l : List Nat) (t : Tr AV) (i : Nat) (a : AV), (keepT l t).get i = some a → t.get i = some a
  | [], t, i, a, e => by unfold keepT at e; rw [Tr.get_e] at e; cases e
  | j :: l, t, i, a, e => by
    unfold keepT at e
    split at e
    · rename_i b hb
      rcases Tr.get_set e with ⟨rfl, rfl⟩ | ⟨_, h⟩
      · exact hb
      · exact keepT_sub l t i a h
    · exact keepT_sub l t i a e
noncomputable def keepF (l : List Nat) (f : AF) : AF := match f with | ⟨x, tm, td, ds, r⟩ => ⟨x, keepT l tm, td, ds, r⟩
theorem DoesS.keep {P : Program} {E : Env} {f f' : AF} {h h' : AH} (l : List Nat) (A : DoesS P E f h f' h') : DoesS P E f h (keepF l f') h' := by
  obtain ⟨x, tm, td, ds, r⟩ := f'
  exact A.trans (DoesS.forget (keepT_sub l tm))
theorem path_to {P : Program} {E : Env} (F : Fits P E) (FF : FitsF P E) {f f' : AF} {h h' : AH} {obs : List Prop} (l : List Ans) (keep : List Nat)
    (e : (match pathP P E l f h with | some (f1, h1, o) => some (keepF keep f1, h1, o) | none => none) = some (f', h', obs)) (H : All obs) : DoesS P E f h f' h' := by
  split at e
  · rename_i f1 h1 o hp
    cases e
    exact DoesS.keep keep (path_ok F FF l f h hp H)
  · cases e
theorem path_ret {P : Program} {E : Env} (F : Fits P E) (FF : FitsF P E) {f : AF} {h h' : AH} {v : AV} {obs : List Prop} (l : List Ans)
    (e : (match pathP P E l f h with | some (f1, h1, o) => (match stepA E f1 h1 with | some (.ret v h2) => some (v, h2, o) | _ => none) | none => none) = some (v, h', obs)) (H : All obs) : Does P E f h v h' := by
  split at e
  · rename_i f1 h1 o hp
    split at e
    · rename_i hs
      cases e
      exact Does.of (path_ok F FF l f h hp H) (Does.ret F FF hs)
    · cases e
  · cases e
end Go.Ev
namespace Go.Ev
open Go.Conc
open Go.Conc.Lib (WgLib WgLink)
def absO : Value → Option AV
  | .bool b => some (.bool b)
  | .int k n => some (.int k n)
  | .string s => some (.str s.data.toList)
  | .pointer none => some .nilp
  | .pointer (some ⟨b, o, none⟩) => some (.ptr (OLD + b) o)
  | .slice none 0 0 => some (.osl none 0 0)
  | .slice (some ⟨b, o, none⟩) n c => if n ≤ c then some (.osl (some (b, o)) n c) else none
  | .map none => some .nilm
  | .map (some b) => some (.map (OLD + b))
  | .nilFunc => some .nilf
  | .nilIface => some .nili
  | _ => none
theorem absO_ok {v : Value} {a : AV} (e : absO v = some a) : RV oldNm a v := by
  unfold absO at e
  split at e
  all_goals first
    | (cases e; unfold RV; rfl)
    | (cases e; unfold RV; exact ⟨_, oldNm_old _, rfl⟩)
    | (cases e; unfold RV; exact ⟨rfl, Nat.le_refl _, fun _ => ⟨rfl, rfl⟩⟩)
    | skip
  · split at e
    · rename_i hle
      cases e
      unfold RV
      exact ⟨rfl, hle, fun hk => by cases hk⟩
    · cases e
  · cases e
def oldOf (w : World) (b o : Nat) : Option AV := match w.cell? ⟨b, o, none⟩ with | some v => absO v | none => none
noncomputable def Env.at (E : Env) (w : World) : Env := { E with old := oldOf w, peek := true }
theorem known_at (E : Env) (w : World) : Known (E.at w) w := by
  intro b o a e
  have e : oldOf w b o = some a := e
  unfold oldOf at e
  split at e
  · rename_i v hv
    refine ⟨?_, v, hv, absO_ok e⟩
    unfold World.cell? at hv
    cases hb : w.heap[b]? with
    | none => simp [hb] at hv
    | some ob => exact (Array.getElem?_eq_some_iff.1 hb).1
  · cases e
theorem old_at {E : Env} {w : World} {b o : Nat} {v : Value} {a : AV} (h : w.cell? ⟨b, o, none⟩ = some v) (ha : absO v = some a) : (E.at w).old b o = some a := by
  show oldOf w b o = some a
  unfold oldOf; rw [h]; exact ha
theorem ble_old (b : Nat) : Nat.ble OLD (OLD + b) = true := Nat.ble_eq_true_of_le (by omega)
theorem sub_old (b : Nat) : OLD + b - OLD = b := by omega
theorem loadT_old_agg {E : Env} {h : AH} {t : TypeId} {ti : TI} (ht : E.tt.get t = some ti) (hag : ti.isAgg = true) {b off : Nat} {l : List AV} (hl : oldC E.old b off ti.size = some l) : loadT E h t (OLD + b) off = some (.agg l) := by
  unfold loadT
  rw [ht]
  simp only [hag, cond_true]
  unfold loadC
  rw [ble_old, cond_true, sub_old, hl]; rfl
theorem loadT_old_one {E : Env} {h : AH} {t : TypeId} {ti : TI} (ht : E.tt.get t = some ti) (hag : ti.isAgg = false) {b off : Nat} {a : AV} (ha : E.old b off = some a) : loadT E h t (OLD + b) off = some a := by
  unfold loadT
  rw [ht]
  simp only [hag, cond_false]
  rw [ble_old, cond_true, sub_old, ha]
def rebA (bl : Nat → Nat) : AV → AV
  | .ptr i o => .ptr (cond (Nat.ble OLD i) i (OLD + bl i)) o
  | v => v
def rebOk : AV → Bool
  | .ptr _ _ => true
  | a => AV.low 0 a
def trReb : Tr AV → Bool
  | .e => true
  | .n l v r => trReb l && (match v with | some a => rebOk a | none => true) && trReb r
theorem trReb_get : ∀ {t : Tr AV}, trReb t = true → ∀ {i : Nat} {a : AV}, t.get i = some a → rebOk a = true
  | .e, _, i, a, e => by rw [Tr.get_e] at e; cases e
  | .n l v r, h, i, a, e => by
    unfold trReb at h
    simp only [Bool.and_eq_true] at h
    rw [Tr.get_n] at e
    split at e
    · subst e; exact h.1.2
    · split at e
      · exact trReb_get h.1.1 e
      · exact trReb_get h.2 e
theorem old_only {ι : Nm} (hι : Ext oldNm ι) : Lows 0 (fun i => i) ι oldNm := fun i p hi hp => by
  have hi : OLD ≤ i := by omega
  have := hι i (i - OLD, 0) (by unfold oldNm; rw [if_pos hi])
  rw [hp] at this
  rw [Option.some.inj this]
  unfold oldNm; rw [if_pos hi]
theorem rebA_ok {ι : Nm} (hι : Ext oldNm ι) {bl : Nat → Nat} (hbl : ∀ i p, ι i = some p → i < OLD → bl i = p.1) {a : AV} {v : Value} (hr : rebOk a = true) (h : RV ι a v) : RV oldNm (rebA bl a) v := by
  cases a with
  | ptr i o =>
    unfold RV at h
    obtain ⟨p, hp, rfl⟩ := h
    unfold rebA RV
    cases hb : Nat.ble OLD i with
    | true =>
      rw [cond_true]
      have hi := Nat.le_of_ble_eq_true hb
      have := hι i (i - OLD, 0) (by unfold oldNm; rw [if_pos hi])
      rw [hp] at this
      exact ⟨p, by rw [Option.some.inj this]; unfold oldNm; rw [if_pos hi], rfl⟩
    | false =>
      rw [cond_false]
      have hi : i < OLD := by
        rcases Nat.lt_or_ge i OLD with h1 | h1
        · exact h1
        · rw [Nat.ble_eq_true_of_le h1] at hb; cases hb
      refine ⟨_, oldNm_old _, ?_⟩
      rw [hbl i p hp hi]
  | _ => exact RV.unren (old_only hι) hr (by rw [AV.ren_id]; exact h)
noncomputable def AF.reb (bl : Nat → Nat) (f : AF) : AF := ⟨f.x, mapT (rebA bl) f.tm, f.todo, f.ds, f.ret⟩
theorem RF.reb {ι : Nm} (hι : Ext oldNm ι) {bl : Nat → Nat} (hbl : ∀ i p, ι i = some p → i < OLD → bl i = p.1) {f : AF} {fr : Frame} (R : RF ι f fr) (ht : trReb f.tm = true) (hp : plainI f.todo = true) (hds : f.ds = []) (hx : f.x.round = none) : RF oldNm (f.reb bl) fr := by
  refine ⟨R.fn, ⟨R.tm.1, fun t a e => ?_⟩, plainI_ok hp R.todo, ?_, R.mode, R.kind, ?_⟩
  · have e : (mapT (rebA bl) f.tm).get t = some a := e
    rw [mapT_get] at e
    obtain ⟨b, hb, rfl⟩ := Option.map_eq_some_iff.1 e
    exact rebA_ok hι hbl (trReb_get ht hb) (R.tm.2 t b hb)
  · have := R.ds
    rw [hds] at this
    show RDs oldNm f.ds fr.defers
    rw [hds]; exact this
  · have := R.round
    rw [hx] at this
    show match f.x.round with | none => fr.roundOf = none | some id => ∃ p, oldNm id = some p ∧ fr.roundOf = some p.1
    rw [hx]; exact this
section
variable {P : Program} {I : WgIds} {W : World} {B0 : Nat}
theorem finish {E : Env} (F : Fits P E) (FF : FitsF P E) {s' : OS} {gs1 : Array Goroutine} {w1 : World} {sl1 : Option (Nat × Nat)} {t1 : Trace} (HM : MAt P E W B0 [] s' gs1 w1 sl1 t1) (hk : s'.k = []) {v : AV} {h2 : AH} (hr : stepA E s'.f s'.h = some (.ret v h2)) (hret : s'.f.ret = true) (hds : s'.f.ds = []) (hd : s'.f.x.deferred = false) (hdf : s'.h.df = 0)
    (hin : P.inits.idxOf? s'.f.x.fn = none) {Post : Value → World → Prop} (hpost : ∀ u w, (∃ ι, RV ι v u) → B0 ≤ w.heap.size → (∀ b, b < B0 → w.heap[b]? = W.heap[b]?) → w.os = W.os → w.tape = W.tape → w.output = W.output → Post u w) :
    ∃ N2 last o w' t', runNT P (N2 + 1) (crowd gs1 w1 sl1) t1 = (.ended o w', t') ∧ runN P N2 (crowd gs1 w1 sl1) = .next last ∧ step P last = .ended o w' ∧ Conc.Good P Post last o w' t' := by
  obtain ⟨K, Shun, a, q, hKP, hKW, hKB, hA, h01, ⟨ι, fr, frs, rfl, hB, R, HS, S, _, _⟩, hL, hP⟩ := HM
  rw [hk] at HS
  have HS : frs = [] := HS
  subst HS
  rw [hdf] at hP
  have hkind : fr.kind = .normal := by rw [R.kind, hd]; rfl
  exact beside_ends (P := P) (Shun := Shun) (B := w1.heap.size) (D := fun _ _ _ => False) (Post := Post) (sl := sl1) (n := 0) (fun _ _ _ h => h.elim) h01 hL hP.to (fun w₂ hw => by
    obtain ⟨d, rfl⟩ := hw
    have S₂ : Sat K ι s'.h (w1.at d) := S.rely (Rely.drawn w1 d)
    obtain ⟨u, es, g1, g2, g3⟩ := end_ok F FF hKP S₂ R hr hret hds
    have hE : Post u (w1.at d) := hpost _ _ ⟨ι, g2⟩ (by have := S₂.bs; rw [hKB] at this; exact this) (fun b hb => (S₂.old b (by rw [hKB]; exact hb)).trans (by rw [hKW])) (by rw [S₂.os, hKW]) (by rw [S₂.tape, hKW]) (by rw [S₂.output, hKW])
    refine ⟨rfl, u, es, ?_, fun e he => ⟨fun x hx hs => ?_, (g3 e he).still.1, (g3 e he).still.2, evG_low (.inl (g3 e he))⟩, hE⟩
    · rw [List.append_nil, g1]
      unfold doReturn
      simp only [hkind, R.fn, hin]
      simp [GStep.after]
    · obtain ⟨b, hb, hb1, _⟩ := evG_touch (.inl (g3 e he)) hx
      exact absurd hb1 fun h => h.elim (hA _ b hs hb).1 (hA _ b hs hb).2)
structure Laid (h1 : AH) (W w1 : World) (bl : Nat → Nat) : Prop where
  size : W.heap.size ≤ w1.heap.size
  old : ∀ b, b < W.heap.size → w1.heap[b]? = W.heap[b]?
  os : w1.os = W.os
  tape : w1.tape = W.tape
  output : w1.output = W.output
  cells : ∀ i vs el g z, h1.tr.get i = some (.cells vs el g z) → (∀ a ∈ vs, AV.low 0 a = true) → ∀ o a, vs[o]? = some a → ∃ v, w1.cell? ⟨bl i, o, none⟩ = some v ∧ RV oldNm a v
theorem the_run2 {E : Env} (X : Tabs P E I) (XW : ∀ w, Tabs P (E.at w) I) (hwait : ∀ w, waitOk (E.at w) I = true) {L : WgLink} (H : WgLib P L) {out : List FuncId} {fid : FuncId} {argsA : List AV} (hE0 : ∀ b o, E.old b o = none) {f0 f1 : AF} {h1 : AH} (hf0 : enterA E fid argsA false = some f0)
    (A : DoesS P E f0 eAH f1 h1) (hdf1 : h1.df = 0) (hn1 : h1.nx ≤ OLD) (ht : trReb f1.tm = true) (hp1 : plainI f1.todo = true) (hds1 : f1.ds = []) (hx1 : f1.x.round = none) (W : World) (args : Array Value) (hargs : RVs oldNm argsA args.toList) {v : AV}
    (hrest : ∀ (w1 : World) (bl : Nat → Nat), Laid h1 W w1 bl → ∃ (s' : OS) (h2 : AH), Path P (E.at w1) I L.done L.tWg out ⟨f1.reb bl, [], eAH⟩ s' ∧ s'.k = [] ∧ stepA (E.at w1) s'.f s'.h = some (.ret v h2) ∧ s'.f.ret = true ∧ s'.f.ds = [] ∧ s'.f.x.deferred = false ∧ s'.h.df = 0 ∧ P.inits.idxOf? s'.f.x.fn = none) :
    ∃ M last o w' t', runNT P (M + 1) (solo (G (Frame.enter P fid args .normal) []) W) #[] = (.ended o w', t') ∧ runN P M (solo (G (Frame.enter P fid args .normal) []) W) = .next last ∧ step P last = .ended o w' ∧ Conc.Good P (Ends W v) last o w' t' := by
  have hK0 : Of (now P W) P E := ⟨rfl, fun b o a e => (by rw [hE0] at e; cases e), fun _ => trivial⟩
  have W1 := A.2.2 (now P W) oldNm W (Frame.enter P fid args .normal) [] hK0 (sat_now P (fun _ _ h => h) W) (enter_ok X.FF hf0 hargs rfl) (fun i _ hi => by unfold oldNm; rw [if_neg (by omega)])
  have hA0 : Away (now P W) (fun _ => False) := fun _ _ h => h.elim
  obtain ⟨N, gs1, w1, sl1, t1, hrun, a1, d1, q1, hN1, h01, ⟨ι, fr, rfl, g1, g2, g3, rfl⟩, hL1, hP1⟩ := walk_past hA0 W1 W (Rely.refl W) #[G (Frame.enter P fid args .normal) []] none #[] (fun _ => 0) rfl (leavers_one P _) (PastD.of (past_nil.mono (Nat.zero_le _)))
  rw [hdf1] at hP1
  have hι : Ext oldNm ι := g2.oldn trivial
  let bl : Nat → Nat := fun i => match ι i with | some p => p.1 | none => 0
  have hbl : ∀ i p, ι i = some p → i < OLD → bl i = p.1 := fun i p hp _ => by show (match ι i with | some p => p.1 | none => 0) = _; rw [hp]
  have hlaid : Laid h1 W w1 bl := by
    refine ⟨g2.bs, g2.old, g2.os, g2.tape, g2.output, fun i vs el g z e hlow o a ha => ?_⟩
    obtain ⟨p, ob, k1, k2, k3, k4, c, lo, hi, rfl, ⟨l1, l2, hc, hv⟩, _⟩ := g2.objs i _ e trivial
    obtain ⟨u, hu1, hu2⟩ := hv.get ha
    refine ⟨u, ?_, ?_⟩
    · rw [show bl i = p.1 from by show (match ι i with | some p => p.1 | none => 0) = _; rw [k1]]
      rw [cell_of k4, ← Array.getElem?_toList, hc, List.getElem?_append_left]
      · exact hu1
      · rw [List.getElem?_eq_some_iff] at hu1; exact hu1.1
    · exact RV.unren (old_only hι) (hlow a (List.mem_of_getElem? ha)) (by rw [AV.ren_id]; exact hu2)
  obtain ⟨s', h2, hpath, hk, hr, hret, hds, hd, hdf, hin⟩ := hrest w1 bl hlaid
  have hM : MAt P (E.at w1) w1 w1.heap.size [] ⟨f1.reb bl, [], eAH⟩ gs1 w1 sl1 t1 :=
    ⟨now P w1, fun _ => False, _, q1, ⟨rfl, fun b o a e => ⟨trivial, known_at E w1 b o a e⟩, fun _ => trivial⟩, rfl, rfl, fun _ _ h => h.elim, h01, ⟨oldNm, fr, [], rfl, fun i _ hi => (by unfold oldNm; rw [if_neg (by omega)]), RF.reb hι hbl g3 ht hp1 hds1 hx1, rfl, sat_now P (fun _ _ h => h) w1, rfl, fun _ _ h => by cases h⟩, hL1, hP1⟩
  obtain ⟨N2, gs2, w2, sl2, t2, hrun2, hM2⟩ := path_past (XW w1) (hwait w1) H hpath hM
  obtain ⟨N3, last, o, w', t', e1, e2, e3, e4⟩ := finish (XW w1).F (XW w1).FF hM2 hk hr hret hds hd hdf hin (Post := Ends W v) (fun u w hv hsz hold hos htp hout =>
    ⟨hv, Nat.le_trans hlaid.size hsz, fun b hb => (hold b (Nat.lt_of_lt_of_le hb hlaid.size)).trans (hlaid.old b hb), hos.trans hlaid.os, htp.trans hlaid.tape, hout.trans hlaid.output⟩)
  rw [solo_eq_crowd]
  refine ⟨N + (N2 + N3), last, o, w', t', ?_, ?_, e3, e4⟩
  · rw [Nat.add_assoc, Nat.add_assoc, runNT_add, hrun]
    simp only
    rw [runNT_add, hrun2]; exact e1
  · rw [runN_add, ← runNT_fst P _ _ #[], hrun]
    simp only
    rw [runN_add, ← runNT_fst P _ _ t1, hrun2]; exact e2
end
end Go.Ev
namespace Go.Ev
def AF.lowB (n : Nat) (f : AF) : Bool := match f with | ⟨⟨_, _, r, _⟩, tm, td, ds, _⟩ => trLow n tm && (plainI td && ((match ds with | [] => true | _ => false) && (match r with | none => true | _ => false)))
theorem AF.lowB_ok {n : Nat} {f : AF} (h : f.lowB n = true) : f.low n := by
  obtain ⟨⟨a, b, r, c⟩, tm, td, ds, rt⟩ := f
  unfold AF.lowB at h
  simp only [Bool.and_eq_true] at h
  obtain ⟨h1, h2, h3, h4⟩ := h
  refine ⟨h1, h2, ?_, ?_⟩
  · cases ds with | nil => rfl | cons a l => cases h3
  · cases r with | none => rfl | some a => cases h4
theorem moves_empty {n df : Nat} {h2 : AH} (hle : n ≤ h2.nx) (hdf : h2.df = df) (top : Nat.ble h2.nx OLD = true) : Moves (fun i => i) n h2 ⟨.e, n, df⟩ := by
  refine ⟨Nat.le_refl _, hle, Nat.le_of_ble_eq_true top, hdf.symm, fun _ _ => rfl, fun i a b => ?_, fun _ _ _ _ h => h, fun i o e _ => ?_, rfl⟩
  · have : i < n := b
    omega
  · have e : (Tr.e : Tr AO).get i = some o := e
    rw [Tr.get_e] at e; cases e
section
variable {P : Program} {E : Env} {f f' : AF} {n df : Nat} {h2 : AH} {v : AV}
theorem DoesS.clean (A : DoesS P E f ⟨.e, n, df⟩ f' h2) (hf : f.lowB n = true) (hf' : f'.lowB n = true) (hdf : h2.df = df) (top : Nat.ble h2.nx OLD = true) : DoesS P E f ⟨.e, n, df⟩ f' ⟨.e, n, df⟩ := by
  refine DoesS.move (ρ := fun i => i) A (moves_empty A.1 hdf top) (AF.lowB_ok hf) rfl (fun i o e _ => by rw [show (⟨.e, n, df⟩ : AH).tr = .e from rfl, Tr.get_e] at e; cases e) ?_ (AF.lowB_ok hf')
  obtain ⟨x, tm, td, ds, r⟩ := f'
  unfold AF.ren
  rw [mapT_id AV.ren_id]
theorem Does.clean (A : Does P E f ⟨.e, n, df⟩ v h2) (hf : f.lowB n = true) (hv : v.low n = true) (hdf : h2.df = df) (top : Nat.ble h2.nx OLD = true) : Does P E f ⟨.e, n, df⟩ v ⟨.e, n, df⟩ := by
  refine ⟨Nat.le_refl _, fun K ι w fr c rest hP S R hc hfr => ?_⟩
  have M := moves_empty A.1 hdf top
  have hn : ∀ i o, (⟨.e, n, df⟩ : AH).tr.get i = some o → o.live → i < n := fun i o e _ => by rw [show (⟨.e, n, df⟩ : AH).tr = .e from rfl, Tr.get_e] at e; cases e
  have S0 := S.cap hn rfl
  have R0 : RF (capN n ι) f fr := RF.lows (n := n) (fun i p hi hp => by unfold capN; rw [if_pos hi]; exact hp) (AF.lowB_ok hf) R
  have F0 : Free (capN n ι) n h2.nx := fun i a b => by unfold capN; rw [if_neg (by have := M.top; omega)]
  refine (A.2 K _ w fr c rest hP S0 R0 hc F0).mono ?_
  rintro d g w' ⟨ι2, u, rfl, g1, g2, g3, rfl⟩
  have hsame : ∀ i, (i < n ∨ OLD ≤ i) → ι2 i = ι i := fun i hi => by
    rw [g1.same i (by have := M.top; show i < n ∨ h2.nx ≤ i; omega)]; unfold capN; rw [if_pos hi]
  obtain ⟨ι', k1, k2, k3⟩ := g2.moved M hsame
  exact ⟨ι', u, rfl, ⟨Nat.le_refl _, k1⟩, k3, RV.unren k2 hv (by rw [AV.ren_id]; exact g3), M.df.symm⟩
theorem DoesC.over {g : FuncId} {args : List AV} (C : DoesC P E g args ⟨.e, 0, df⟩ v ⟨.e, 0, df⟩) (ha : AV.lowL 0 args = true) (hv : v.low 0 = true) {h : AH} (hdf : h.df = df) (hn : h.nx ≤ OLD) : DoesC P E g args h v h := by
  subst hdf
  have L : Lies (fun i => i) ⟨.e, 0, h.df⟩ ⟨.e, 0, h.df⟩ h h := by
    refine ⟨Nat.le_refl _, Nat.zero_le _, hn, fun _ _ _ _ h => h, fun i hi => absurd hi (Nat.not_lt_zero _), fun i _ hi => absurd hi (Nat.not_lt_zero _), fun _ _ => rfl, Nat.le_refl _, ?_, ?_, ?_, fun i o e _ => .inr ⟨e, ?_⟩, rfl, rfl, rfl⟩
    all_goals (intro j o e; rw [show (⟨.e, 0, h.df⟩ : AH).tr = .e from rfl, Tr.get_e] at e; cases e)
  have := DoesC.frame C L ha
  rw [AV.renL_id, AV.ren_id] at this
  exact this
end
end Go.Ev
namespace Go.Ev
theorem cond_t {α : Type} {b : Bool} {x y v : α} (h : b = true) (hh : (bif b then x else y) = v) : x = v := by rw [h] at hh; exact hh
theorem cond_f {α : Type} {b : Bool} {x y v : α} (h : b = false) (hh : (bif b then x else y) = v) : y = v := by rw [h] at hh; exact hh
theorem indexA_str {E : Env} {t : TypeId} (ht : E.d t = some .str) {s : List UInt8} {k : IntKind} {i : Int} (h : (decide (0 ≤ i) && decide (i < (↑s.length : Int))) = true) : indexA E t (.str s) (.int k i) = some (.int .u8 (↑(s.getD i.toNat 0).toNat : Int)) := by
  rw [Bool.and_eq_true, decide_eq_true_eq, decide_eq_true_eq] at h
  obtain ⟨h1, h2⟩ := h
  have hl : i.toNat < s.length := by omega
  unfold indexA
  rw [ht]
  simp only [h1, decide_true, cond_true]
  rw [List.getElem?_eq_getElem hl, List.getD_eq_getElem?_getD, List.getElem?_eq_getElem hl]
  rfl
theorem Of.under {K : Ctx} {P : Program} {E : Env} {w : World} (hE : ∀ b o, E.old b o = none) (hp : E.peek = false) (h : Of K P (E.at w)) : Of K P E :=
  ⟨h.P, fun b o a e => (by rw [hE] at e; cases e), fun e => (by rw [hp] at e; cases e)⟩
theorem DoesC.at {P : Program} {E : Env} (hE : ∀ b o, E.old b o = none) (hp : E.peek = false) {g : FuncId} {args : List AV} {h h' : AH} {v : AV} (C : DoesC P E g args h v h') (w : World) : DoesC P (E.at w) g args h v h' :=
  ⟨C.1, fun K ι w' vs c rest hO => C.2 K ι w' vs c rest (hO.under hE hp)⟩
def posB {α : Type} (f : Nat → Bool) : Tr α → Bool
  | .e => true
  | .n l v r => posB (fun i => f (2 * i + 1)) l && ((match v with | some _ => f 0 | none => true) && posB (fun i => f (2 * i + 2)) r)
theorem posB_get {α : Type} : ∀ {t : Tr α} {f : Nat → Bool}, posB f t = true → ∀ {i : Nat} {a : α}, t.get i = some a → f i = true
  | .e, f, _, i, a, e => by rw [Tr.get_e] at e; cases e
  | .n l v r, f, h, i, a, e => by
    unfold posB at h
    simp only [Bool.and_eq_true] at h
    rw [Tr.get_n] at e
    split at e
    · rename_i hi
      subst hi
      rw [e] at h
      exact h.2.1
    · split at e
      · have := posB_get h.1 e
        rw [show 2 * (i / 2) + 1 = i by omega] at this
        exact this
      · have := posB_get h.2.2 e
        rw [show 2 * (i / 2 - 1) + 2 = i by omega] at this
        exact this
theorem moves_drop {h h2 : AH} (hle : h.nx ≤ h2.nx) {ids : List Nat} (er : reach h2.tr 100000 ids .e = h.tr) (hp : posB (fun i => Nat.blt i h.nx) h.tr = true) (hh : heapLow h.nx h.tr = true) (hdf : h2.df = h.df) (top : Nat.ble h2.nx OLD = true) : Moves (fun i => i) h.nx h2 h := by
  refine ⟨Nat.le_refl _, hle, Nat.le_of_ble_eq_true top, hdf.symm, fun _ _ => rfl, fun i a b => absurd b (by omega), fun _ _ _ _ e => e, fun i o e _ => ⟨?_, ?_⟩, hh⟩
  · have := posB_get hp e
    exact Nat.le_of_ble_eq_true this
  · rw [AO.ren_id]
    rw [← er] at e
    exact reach_get (t := h2.tr) 100000 ids .e (fun i o e => by rw [Tr.get_e] at e; cases e) i o e
theorem DoesC.drop {P : Program} {E : Env} {g : FuncId} {args : List AV} {h h2 : AH} {v : AV} (C : DoesC P E g args h v h2) (ids : List Nat) (er : reach h2.tr 100000 ids .e = h.tr) (hp : posB (fun i => Nat.blt i h.nx) h.tr = true) (hh : heapLow h.nx h.tr = true) (hdf : h2.df = h.df) (top : Nat.ble h2.nx OLD = true) (ha : AV.lowL h.nx args = true) (hv : v.low h.nx = true) : DoesC P E g args h v h :=
  DoesC.move (ρ := fun i => i) (by rw [AV.ren_id]; exact C) (moves_drop C.1 er hp hh hdf top) ha hh (fun i o e _ => Nat.le_of_ble_eq_true (posB_get hp e)) hv
theorem beq_swap {a b : List UInt8} (h : (a == b) = false) : (b == a) = false := by
  rcases Bool.eq_false_or_eq_true (b == a) with h1 | h1
  · have := eq_of_beq h1
    subst this
    rw [beq_self_eq_true] at h; cases h
  · exact h1
theorem findK_miss {s : List UInt8} : ∀ {es : List AE} {i : Nat}, (∀ e ∈ es, ∃ k, e.key = .str k ∧ (k == s) = false) → findK (.str s) es i = some none
  | [], _, _ => rfl
  | e :: es, i, h => by
    obtain ⟨k, h1, h2⟩ := h e (List.mem_cons_self ..)
    unfold findK
    rw [h1]
    have : eqK (.str s) (.str k) = some false := by
      show some (s == k) = some false
      rw [beq_swap h2]
    rw [this]
    exact findK_miss fun e he => h e (List.mem_cons_of_mem _ he)
theorem lookup_miss2 {E : Env} {h : AH} {t kt e : TypeId} {x z : AV} {s k1 k2 : List UInt8} (ht : E.d t = some (.map kt e)) (hz : (match E.tt.get e with | some ei => some ei.zeroV | none => none) = some z) (hk : E.d kt = some .str) (hm : (mapEs h x).map (fun es => es.map AE.key) = some [.str k1, .str k2]) (h1 : (k1 == s) = false) (h2 : (k2 == s) = false) :
    lookupA E h t x (.str s) true = some (.tup [z, .bool false]) := by
  obtain ⟨es, hes, hkeys⟩ := Option.map_eq_some_iff.1 hm
  unfold lookupA
  rw [ht]
  have hko : keyOk E kt (.str s) = true := by unfold keyOk; rw [hk]
  simp only [hko, cond_true, hes]
  have hf : findK (.str s) es 0 = some none := findK_miss fun e he => by
    have := List.mem_map_of_mem (f := AE.key) he
    rw [hkeys] at this
    rcases List.mem_cons.1 this with h | h
    · exact ⟨_, h, h1⟩
    · rcases List.mem_cons.1 h with h | h
      · exact ⟨_, h, h2⟩
      · cases h
  cases hei : E.tt.get e with
  | none => rw [hei] at hz; cases hz
  | some ei =>
    rw [hei] at hz
    simp only [hf, cond_true]
    rw [Option.some.inj hz]
noncomputable def copyLen (E : Env) (td : TypeId) (n : Nat) : Option Nat := match E.tt.get td with
  | some { d := .slice e, .. } => (match E.tt.get e with | some ei => some (n * ei.size) | none => none)
  | _ => none
theorem copy_old {E : Env} {h h' : AH} {td t2 : TypeId} {id off len bb o n c k : Nat} {cc : Option Nat} {cells : List AV} (hpk : E.peek = true) (hz : copyLen E td (Nat.min n len) = some k) (hC : oldC E.old bb o k = some cells) (hs : storeC h id off cells = some h') :
    loudB E h .copy [.sl id off len cc, .osl (some (bb, o)) n c] [td, t2] = some (.val (int64 (Nat.min n len : Nat)) h') := by
  have hl : loadC E h (OLD + bb) o k = some cells := by
    unfold loadC
    rw [Nat.ble_eq_true_of_le (show OLD ≤ OLD + bb from Nat.le_add_right _ _), cond_true, Nat.add_sub_cancel_left]
    exact hC
  have hu : unS E (.osl (some (bb, o)) n c) = .sl (OLD + bb) o n (some c) := by
    unfold unS
    simp only [hpk, cond_true]
  have hc : copyA E h td (.sl id off len cc) (.sl (OLD + bb) o n (some c)) = some (int64 (Nat.min n len : Nat), h') := by
    unfold copyLen at hz
    unfold copyA
    split at hz
    · rename_i e _ he
      simp only [he]
      split at hz
      · rename_i ei hei
        simp only [hei]
        cases hz
        rw [hl]
        show Option.map _ (storeC h id off cells) = _
        rw [hs]
        rfl
      · cases hz
    · cases hz
  show (copyA E h td (unS E (.sl id off len cc)) (unS E (.osl (some (bb, o)) n c))).map _ = _
  rw [hu, show unS E (.sl id off len cc) = .sl id off len cc from rfl, hc]
  rfl
end Go.Ev
