/- A part of the proof that the law ProofNil returns true for every input (its card: YtfemddccapnonaaGreatDoorMyCard): EvDraw6, EvTame, EvTame2, EvExt, EvWait, EvWait2. Conditions: those of the given row alone. -/
import Derived.Test.YtfemddccapnonaaGreatDoorEv4
import Derived.Conc.Own2
import Derived.Conc.MarkLaws
import Derived.Conc.AtomicLaws2
import Derived.Conc.FxGenDone
import Derived.Conc.Beside
import Derived.Conc.CrowdBase
import Derived.Conc.FxEnd
namespace Go.Ev
open Go.Conc (G)
theorem go_cases (ops : Array Oper) (fuel t : Nat) (listed : Array Bool) :
    (Region.ready .any ops listed = [] ∧ Region.linearise.go .any ops (fuel + 1) t listed [] = []) ∨
    ∃ i ∈ Region.ready .any ops listed, Region.linearise.go .any ops (fuel + 1) t listed [] = i :: Region.linearise.go .any ops fuel (t / (Region.ready .any ops listed).length) (listed.setIfInBounds i true) [] := by
  simp only [Region.linearise.go]
  change (Region.ready .any ops listed = [] ∧ (match (Region.ready .any ops listed)[t % (Region.ready .any ops listed).length]? with
      | some i => Region.linearise.go .any ops fuel (t / (Region.ready .any ops listed).length) (listed.setIfInBounds i true) [i]
      | none => [].reverse) = []) ∨ ∃ i ∈ Region.ready .any ops listed, (match (Region.ready .any ops listed)[t % (Region.ready .any ops listed).length]? with
      | some i => Region.linearise.go .any ops fuel (t / (Region.ready .any ops listed).length) (listed.setIfInBounds i true) [i]
      | none => [].reverse) = _
  cases hi : (Region.ready .any ops listed)[t % (Region.ready .any ops listed).length]? with
  | none =>
    left
    refine ⟨?_, rfl⟩
    cases hr : Region.ready .any ops listed with
    | nil => rfl
    | cons x xs =>
      rw [hr] at hi
      have hlt : t % (x :: xs).length < (x :: xs).length := Nat.mod_lt _ (by simp)
      rw [List.getElem?_eq_none_iff] at hi
      omega
  | some i =>
    right
    refine ⟨i, List.mem_of_getElem? hi, ?_⟩
    simp only []
    rw [linearise_go_acc, List.reverse_singleton, List.singleton_append]
theorem mem_ready {ops : Array Oper} {listed : Array Bool} (hs : listed.size = ops.size) {i : Nat} : i ∈ Region.ready .any ops listed ↔ i < ops.size ∧ Dl listed i = false ∧ ∃ o, ops[i]? = some o ∧ ∀ e ∈ o.after, Region.binds .any e = true → Dl listed e.on = true := by
  unfold Region.ready
  rw [List.mem_filter, List.mem_range, Bool.and_eq_true]
  have hg : ∀ i, i < ops.size → listed.getD i true = Dl listed i := fun i hi => by
    unfold Dl
    rw [Array.getD_eq_getD_getElem?, Array.getD_eq_getD_getElem?, Array.getElem?_eq_getElem (by omega)]; rfl
  constructor
  · rintro ⟨h1, h2, h3⟩
    rw [hg i h1] at h2
    obtain ⟨o, ho⟩ := some_oper h1
    rw [ho] at h3
    simp only [Option.map_some, Option.getD_some, Array.all_eq_true_iff_forall_mem] at h3
    refine ⟨h1, by simpa using h2, o, ho, fun e he hb => ?_⟩
    have := h3 e he
    unfold Dl
    simpa [hb] using this
  · rintro ⟨h1, h2, o, ho, h3⟩
    refine ⟨h1, by rw [hg i h1, h2]; rfl, ?_⟩
    rw [ho]
    simp only [Option.map_some, Option.getD_some, Array.all_eq_true_iff_forall_mem]
    intro e he
    cases hb : Region.binds .any e with
    | false => rfl
    | true => have := h3 e he hb; unfold Dl at this; simpa using this
theorem Dl_set {listed : Array Bool} {i : Nat} (hi : i < listed.size) : Dl (listed.setIfInBounds i true) = addD (Dl listed) i := by
  funext j
  have e : ∀ l : Array Bool, Dl l j = l[j]?.getD false := fun l => by unfold Dl; rw [Array.getD_eq_getD_getElem?]
  unfold addD
  rw [e, e, Array.getElem?_setIfInBounds]
  by_cases h : i = j
  · subst h; simp [hi]
  · have : (j == i) = false := by simp; omega
    simp [h, this]
theorem left_set {n : Nat} {listed : Array Bool} {i : Nat} (hi : i < n) (hs : listed.size = n) (hno : Dl listed i = false) : left' n (listed.setIfInBounds i true) < left' n listed := by
  unfold left'
  rw [Dl_set (by omega)]
  have hsub : ((List.range n).filter fun j => addD (Dl listed) i j == false).Sublist ((List.range n).filter fun j => Dl listed j == false) := by
    have : ((List.range n).filter fun j => addD (Dl listed) i j == false) = (((List.range n).filter fun j => Dl listed j == false).filter fun j => addD (Dl listed) i j == false) := by
      rw [List.filter_filter]
      refine List.filter_congr fun j _ => ?_
      simp only [addD]
      cases Dl listed j <;> cases (j == i) <;> rfl
    rw [this]
    exact List.filter_sublist
  have hle := hsub.length_le
  rcases Nat.lt_or_ge ((List.range n).filter fun j => addD (Dl listed) i j == false).length ((List.range n).filter fun j => Dl listed j == false).length with h | h
  · exact h
  · have heq := hsub.eq_of_length_le h
    have hmem : i ∈ (List.range n).filter fun j => Dl listed j == false := List.mem_filter.2 ⟨List.mem_range.2 hi, by rw [hno]; rfl⟩
    rw [← heq] at hmem
    have := (List.mem_filter.1 hmem).2
    rw [addD_self] at this; cases this
section
variable {P : Program} {main : Bool} {K : Ctx} {E : Env} {r : Nat → Outs} {x : AX} {ops : Array Oper} {T : Txt} {qs : List DQ} {ds : List AD} {k' : List Item} {cs : List Frame}
theorem all_listed (R : RegFacts ops) {listed : Array Bool} (hs : listed.size = ops.size) (h : Region.ready .any ops listed = []) : ∀ i, i < ops.size → Dl listed i = true := by
  intro i
  induction i using Nat.strongRecOn with
  | ind i ih =>
    intro hi
    cases hD : Dl listed i with
    | true => rfl
    | false =>
      obtain ⟨o, ho⟩ := some_oper hi
      have : i ∈ Region.ready .any ops listed := (mem_ready hs).2 ⟨hi, hD, o, ho, fun e he hb => by
        have := R.edge i o ho e he hb
        exact ih e.on this (by omega)⟩
      rw [h] at this; simp at this
theorem ready_of (R : RegFacts ops) {listed : Array Bool} (hs : listed.size = ops.size) (hc : Closed ops (Dl listed)) {i : Nat} (h : i ∈ Region.ready .any ops listed) : Ready ops (Dl listed) i := by
  obtain ⟨h1, h2, o, ho, h3⟩ := (mem_ready hs).1 h
  refine ⟨h1, h2, fun p hp => ?_⟩
  obtain ⟨e, he, hb, hh⟩ := before_edge ho hp
  have hD := h3 e he hb
  rcases hh with rfl | ⟨_, hh⟩
  · exact hD
  · exact hc e.on hD p hh
def DrawPart (K : Ctx) (ι0 : Nm) (nx n : Nat) (x : AX) (tm : Tr AV) (ds : List AD) (ops : Array Oper) (k' : List Item) (cs : List Frame) (h' : AH) : Nat → Goroutine → World → Prop := fun d g w =>
  ∃ rest, Left ops n rest ∧ DrawAt K ι0 nx x tm ds ops rest k' cs h' d g w
theorem draw_go (X : Fix P main E r x ops T qs) (hP : Of K P E) (hbar : ∀ i, T.n ≤ i → i < ops.size → ∀ j, j < T.n → Bf ops i j) {ι0 : Nm} : ∀ (fuel t : Nat) (listed : Array Bool) (m : Nat) (ι : Nm) (w : World) (fr : Frame), listed.size = ops.size → left' ops.size listed ≤ fuel → (∀ i, T.n ≤ i → Dl listed i = false) →
    Inv K ι0 ops T (Dl listed) m ι w → AtRest ι x (tmD x ops T (Dl listed) ops.size) ds ops (Region.linearise.go .any ops fuel t listed []) k' fr →
    Walk P main K (DrawPart K ι0 (T.h 0).nx T.n x (T.tm T.n) ds ops k' cs (putAll (T.ps T.n) (T.h T.n))) (T.h m).df (G fr cs) w := by
  intro fuel
  induction fuel with
  | zero =>
    intro t listed m ι w fr hs hl hno I H
    have hall : ∀ i, i < T.n → Dl listed i = true := fun i hi => by
      have hi' : i < ops.size := Nat.lt_of_lt_of_le hi X.le
      cases hD : Dl listed i with
      | true => rfl
      | false =>
        have : i ∈ (List.range ops.size).filter fun i => Dl listed i == false := List.mem_filter.2 ⟨List.mem_range.2 hi', by rw [hD]; rfl⟩
        have := List.length_pos_of_mem this
        unfold left' at hl
        omega
    refine (I.done X hall hno H).mono fun d g w' h => ⟨_, ⟨0, t, listed, hs, hl, fun i => ?_, rfl⟩, h⟩
    rcases Nat.lt_or_ge i T.n with h | h
    · rw [hall i h]; simp [h]
    · rw [hno i h]; simp; omega
  | succ fuel ih =>
    intro t listed m ι w fr hs hl hno I H
    by_cases hall : ∀ i, i < T.n → Dl listed i = true
    · refine (I.done X hall hno H).mono fun d g w' h => ⟨_, ⟨fuel + 1, t, listed, hs, hl, fun i => ?_, rfl⟩, h⟩
      rcases Nat.lt_or_ge i T.n with h | h
      · rw [hall i h]; simp [h]
      · rw [hno i h]; simp; omega
    · obtain ⟨i0, hi0, hD0⟩ : ∃ i0, i0 < T.n ∧ Dl listed i0 = false := by
        refine Classical.byContradiction fun hc => hall fun i hi => ?_
        cases hD : Dl listed i with
        | true => rfl
        | false => exact absurd ⟨i, hi, hD⟩ hc
      rcases go_cases ops fuel t listed with ⟨h1, h2⟩ | ⟨i, h1, h2⟩
      · have := all_listed X.reg hs h1 i0 (Nat.lt_of_lt_of_le hi0 X.le)
        rw [hD0] at this; cases this
      · rw [h2] at H
        have hi := ready_of X.reg hs I.closed h1
        have hin : i < T.n := by
          rcases Nat.lt_or_ge i T.n with h | h
          · exact h
          · have := hi.ahead i0 (hbar i h hi.lt i0 hi0)
            rw [hD0] at this; cases this
        have hA : AtOp ι x (tmD x ops T (Dl listed) ops.size) ds ops i (Region.linearise.go .any ops fuel (t / (Region.ready .any ops listed).length) (listed.setIfInBounds i true) []) k' fr := ⟨H.fn, H.tm, H.todo, H.ds, H.mode, H.kind, H.round⟩
        refine draw_one X hP I hi hin hA fun m' ι' w' fr' I' H' => ?_
        have hD := Dl_set (listed := listed) (i := i) (by rw [hs]; exact hi.lt)
        rw [← hD] at I' H'
        refine ih _ _ m' ι' w' fr' (by simp [hs]) (by have := left_set hi.lt hs hi.no; omega) (fun l hl => ?_) I' H'
        rw [hD, addD_ne (by omega)]
        exact hno l hl
theorem draw_part (F : Fits P E) (FF : FitsF P E) (hr : ∀ i, OutsOk P main E (r i)) (hup : ∀ i, (r i).Up) {n : Nat} (hn : n ≤ ops.size) (hbar : ∀ i, n ≤ i → i < ops.size → ∀ j, j < n → Bf ops i j) {ι : Nm} {w : World} {tm tm' : Tr AV} {t : Nat} {fr : Frame} {h h' : AH} (hP : Of K P E) (S : Sat K ι h w)
    (H : AtRest ι x tm ds ops (Region.linearise .any ops t) k' fr) (hreg : regOk ops.toList (Region.before ops) ops = true) (e : runD E r x (Region.before ops) ops h (ops.toList.take n) 0 tm [] [] [] h = some (tm', h')) (hf : Free ι h.nx h'.nx) :
    Walk P main K (DrawPart K ι h.nx n x tm' ds ops k' cs h') h.df (G fr cs) w := by
  have R := regFacts hreg
  obtain ⟨T, qs, t0, t1, t2, t3, t4, _, t6, t7, t8⟩ := runD_txt hn (ops.toList.take n) 0 tm [] [] [] h _ (Nat.zero_le _) rfl e
  subst t0
  simp only [List.reverse_nil, List.nil_append, Nat.sub_zero] at t6 t7
  have X : Fix P main E r x ops T qs := ⟨F, FF, hr, hup, R, t3, hn, fun j hj => t4 j (Nat.zero_le _) hj, t6, by rw [t2]; exact t7⟩
  have e1 : tm' = T.tm T.n := (Prod.mk.inj t8).1
  have e2 : h' = putAll (T.ps T.n) (T.h T.n) := (Prod.mk.inj t8).2
  subst e1; subst e2
  have hDl : Dl (Array.replicate ops.size false) = fun _ => false := by
    funext j
    unfold Dl
    rw [Array.getD_eq_getD_getElem?, Array.getElem?_replicate]
    split <;> rfl
  have hno : ∀ f, ¬ Pend ops T (fun _ => false) f := fun f hp => by have := hp.2.1; cases this
  have hfr : Free ι (T.h 0).nx (T.h T.n).nx := by rw [t2]; rw [putAll_nx] at hf; exact hf
  have hmono := nx_mono hup X.st (a := 0) T.n (Nat.zero_le _) (Nat.le_refl _)
  have I : Inv K ι ops T (Dl (Array.replicate ops.size false)) 0 ι w := by
    rw [hDl]
    refine ⟨S.toM fun i o hm _ => ?_, ⟨hmono, fun _ _ => rfl⟩, fun j hj _ => ?_, (fun l _ _ => ⟨fun h => (by cases h), fun h => (by omega)⟩), (fun i hi => (by cases hi)), (fun f hp => absurd hp (hno f)), Nat.zero_le _⟩
    · rcases hm with h1 | ⟨f, h1, _⟩
      · rw [t2] at h1; exact h1
      · exact absurd h1 (hno f)
    · have h1 := nx_mono hup X.st j (Nat.zero_le j) (Nat.le_of_lt hj)
      have h2 := nx_mono hup X.st T.n (show j + 1 ≤ T.n from hj) (Nat.le_refl _)
      exact hfr.sub h1 h2
  have H0 : AtRest ι x (tmD x ops T (Dl (Array.replicate ops.size false)) ops.size) ds ops (Region.linearise.go .any ops ops.size t (Array.replicate ops.size false) []) k' fr := by
    refine AtRest.tmc _ H fun s => ?_
    rw [hDl]
    have : ∀ n, tmD x ops T (fun _ => false) n = tm := by
      intro n
      induction n with
      | zero => exact t1
      | succ n ih => exact ih
    rw [this]
  have W := draw_go (cs := cs) X hP hbar ops.size t (Array.replicate ops.size false) 0 ι w fr (by simp) (by
    unfold left'
    exact Nat.le_trans (List.length_filter_le _ _) (by simp)) (fun i _ => by rw [hDl]) I H0
  rw [t2] at W
  exact W
theorem left_nil {rest : List Nat} (h : Left ops ops.size rest) : rest = [] := by
  obtain ⟨fuel, t, listed, hs, _, hD, rfl⟩ := h
  cases fuel with
  | zero => rfl
  | succ fuel =>
    rcases go_cases ops fuel t listed with ⟨_, h2⟩ | ⟨i, h1, _⟩
    · exact h2
    · obtain ⟨h3, h4, _⟩ := (mem_ready hs).1 h1
      rw [hD i] at h4
      simp at h4; omega
theorem draw_ok (F : Fits P E) (FF : FitsF P E) (hr : ∀ i, OutsOk P main E (r i)) (hup : ∀ i, (r i).Up) : DrawOk P main E r := by
  intro K ι w x tm ds ops t k' fr cs h tm' h' hP S H hreg e hf
  have ht : ops.toList = ops.toList.take ops.size := by rw [List.take_of_length_le (by simp)]
  rw [ht] at e
  refine (draw_part F FF hr hup (Nat.le_refl _) (fun i h1 h2 => by omega) hP S H (by rw [← ht] at *; exact hreg) e hf).mono fun d g w' hD => ?_
  obtain ⟨rest, hl, ι', fr', a1, a2, a3, a4, a5⟩ := hD
  rw [left_nil hl] at a4
  exact ⟨ι', fr', a1, a2, a3, a4, a5⟩
theorem runF_ok (F : Fits P E) (FF : FitsF P E) (n : Nat) : RunOk P E main (runF E n) := by
  induction n with
  | zero => intro K ι w fr c rest f h v h' _ e; cases e
  | succ n ih => exact stepR_ok F FF ih (runF_up n) (draw_ok F FF (fun _ => outs_ok ih FF) (fun _ => outs_up (runF_up n)))
end
end Go.Ev
namespace Go.Ev
open Go.Conc (G)
inductive T1 where
  | go (f : AF)
  | call (f : AF) (dst : Option Tmp) (g : FuncId) (args : List AV)
  | dcall (f : AF) (g : FuncId) (args : List AV)
  | conv (f : AF) (dst : Option Tmp) (id off : Nat)
  | spawn (f : AF) (g : FuncId) (args : List AV)
  | ret (v : AV)
noncomputable def resT (tm : Tr AV) : List ResultVar → Option (List AV)
  | [] => some []
  | .tmp t :: l => (match resT tm l with | some r => some (ev tm (.tmp t) :: r) | none => none)
  | .cell _ _ :: _ => none
def eAH : AH := ⟨.e, 0, 0⟩
noncomputable def callT (x : AX) (tm : Tr AV) (td : List AI) (ds : List AD) (d : Option Tmp) : Option OR → Option T1
  | some (.call g args) => some (.call ⟨x, tm, td, ds, false⟩ d g args)
  | _ => none
noncomputable def opT (E : Env) (x : AX) (tm : Tr AV) (td : List AI) (ds : List AD) (o : Oper) : Option T1 :=
  match (cond (readsHeap o.op) none (quietOp o.op E.blind tm eAH)) with
  | some v => some (.go ⟨x, fin x o.dst v tm, td, ds, false⟩)
  | none => match o.op with
    | .call c => (match c.callee with | .value _ => callT x tm td ds o.dst (loudOp o.op E tm eAH) | _ => none)
    | .convert s d y => (match E.d s, E.d d, ev tm y with
      | some (.ptr e), some .uptr, .ptr id off => (match E.tt.get e with
        | some ti => cond (Nat.beq ti.size 0) none (some (.conv ⟨x, tm, td, ds, false⟩ o.dst id off))
        | none => none)
      | _, _, _ => none)
    | .defer _ => (match x.round, loudOp o.op E tm eAH with
      | none, some (.dfr a) => some (.go ⟨x, fin x o.dst undefA tm, td, a :: ds, false⟩)
      | _, _ => none)
    | .go c => (match c.callee with
      | .value g => (match ev tm g with
        | .fn f a b => some (.spawn ⟨x, fin x o.dst undefA tm, td, ds, false⟩ f (a ++ evs tm c.args.toList ++ b))
        | _ => none)
      | _ => none)
    | _ => none
noncomputable def regionT (E : Env) (x : AX) (tm : Tr AV) (ds : List AD) (k : List AI) (ops : Array Oper) (o : Oper) (rest : List Oper) : Option T1 :=
  match wantedA o ops tm with
  | some true => opT E x tm (inR ops rest k) ds o
  | some false => some (.go ⟨x, fin x o.dst undefA tm, inR ops rest k, ds, false⟩)
  | none => none
def goT : Option A1 → Option T1
  | some (.go f _) => some (.go f)
  | _ => none
def plainC (x : AX) : Code → Bool
  | .rangeFunc .. => false
  | .region _ _ draw => !draw
  | .ret | .exit _ | .goto _ => x.round.isNone
  | .refuse _ => false
  | _ => true
noncomputable def stepT (E : Env) (f : AF) : Option T1 :=
  match f with
  | ⟨x, tm, td, ds, true⟩ => (match ds with
    | d :: ds' => (match d.f with
      | .fn g first cap => some (.dcall ⟨x, tm, td, ds', true⟩ g (first ++ d.args ++ cap))
      | _ => none)
    | [] => (match E.ft.get x.fn with
      | some ⟨some _, _, rs, _⟩ => (match resT tm rs with
        | some [v] => some (.ret v)
        | some l => some (.ret (.tup l))
        | none => none)
      | _ => none))
  | ⟨x, tm, [], ds, false⟩ => (match x.round with | none => some (.go ⟨x, tm, [], ds, true⟩) | some _ => none)
  | ⟨x, tm, i :: k, ds, false⟩ => (match i with
    | .code c => cond (plainC x c) (goT (codeA E c k x tm ds eAH)) none
    | .inBlock _ => some (.go ⟨x, tm, k, ds, false⟩)
    | .inScope _ => some (.go ⟨x, tm, k, ds, false⟩)
    | .inLoop body => some (.go ⟨x, tm, .code body :: .inLoop body :: k, ds, false⟩)
    | .inRegion ops l => (match l with
      | [] => some (.go ⟨x, tm, k, ds, false⟩)
      | o :: rest => regionT E x tm ds k ops o rest)
    | _ => none)
def Still (P : Program) (main : Bool) (fr : Frame) (cs : List Frame) (w : World) (fr' : Frame) : Prop :=
  ∃ es, stepG P main (G fr cs) w = .go (G fr' cs) w es ∧ ∀ e ∈ es, e.loc = .mark .noRoom
def WaitsS (ι : Nm) (f : AF) (dst : Option Tmp) (fr : Frame) : Prop := ∀ v u, RV ι v u → RF ι ⟨f.x, fin f.x dst v f.tm, f.todo, f.ds, false⟩ (fr.finish u)
def CallsNow (P : Program) (main : Bool) (fr : Frame) (cs : List Frame) (w : World) (g : FuncId) (vs : Array Value) (back : Value → Frame) : Prop :=
  ∀ u w' es, SRun P (callFunc g vs) w (.value u) w' es → stepG P main (G fr cs) w = .go (G (back u) cs) w' (seen P fr.fn es.toArray)
def T1Ok (P : Program) (main : Bool) (E : Env) (ι : Nm) (fr : Frame) (cs : List Frame) : T1 → Prop
  | .go f' => ∀ w, ∃ fr', Still P main fr cs w fr' ∧ RF ι f' fr'
  | .call f' d g args => WaitsS ι f' d fr ∧ fr.mode = .run ∧ ∃ vs : Array Value, RVs ι args vs.toList ∧ ∀ w,
      (∀ c n rs x, E.ft.get g = some ⟨some c, n, rs, x⟩ → stepG P main (G fr cs) w = .go (G (Frame.enter P g vs .normal) (fr :: cs)) w #[]) ∧
      CallsNow P main fr cs w g vs (fun u => fr.finish u) ∧
      (∀ w2 es, (callFunc g vs).runT P w #[] = (.halt .blocked w2, es) → stepG P main (G fr cs) w = .go { G fr cs with status := .blocked } w2 #[])
  | .dcall f' g args => ∃ (vs : Array Value) (fr' : Frame), RVs ι args vs.toList ∧ RF ι f' fr' ∧ fr'.mode = .returning ∧ fr'.fn = fr.fn ∧ ∀ w,
      (∀ c n rs x, E.ft.get g = some ⟨some c, n, rs, x⟩ → stepG P main (G fr cs) w = .go (G (Frame.enter P g vs .deferred) (fr' :: cs)) w #[]) ∧
      (∀ u w' es, SRun P (callFunc g vs) w (.value u) w' es → stepG P main (G fr cs) w = .go (G fr' cs) w' (seen P fr.fn es.toArray))
  | .conv f' d id off => WaitsS ι f' d fr ∧ ∃ p, ι id = some p ∧ ∀ w (c : Array Value) (T : TypeId) (fz : Nat × Nat), w.heap[p.1]? = some (.cells c T fz) → off < c.size →
      ∃ es, stepG P main (G fr cs) w = .go (G (fr.finish (.pointer (some ⟨p.1, off, none⟩))) cs) w es ∧ ∀ e ∈ es, e.loc = .mark .noRoom
  | .spawn f' g args => ∃ (fs as cs' : Array Value), RVs ι args ((fs ++ as) ++ cs').toList ∧ ∃ fr', RF ι f' fr' ∧
      ∀ w, stepG P main (G fr cs) w = .spawn (G fr' cs) (Conc.born P { target := .fn (.func g) cs', args := fs ++ as }) w #[]
  | .ret v => ∃ u, RV ι v u ∧ ∀ w, stepG P main (G fr cs) w = GStep.after #[] (doReturn P main fr cs none u w)
section
variable {P : Program} {main : Bool} {E : Env} {ι : Nm} {x : AX} {tm : Tr AV} {ds : List AD} {fr : Frame} {cs : List Frame}
def here (P : Program) (w : World) : Ctx := ⟨P, w, w.heap.size, w.heap.size, fun b => w.heap.size ≤ b, fun _ h => h, False⟩
theorem sat_here (P : Program) (ι : Nm) (w : World) : Sat (here P w) ι eAH w :=
  ⟨(fun i o e => (by rw [show eAH.tr.get i = none from Tr.get_e i] at e; cases e)), (fun i j o o' p q e => (by rw [show eAH.tr.get i = none from Tr.get_e i] at e; cases e)), Nat.le_refl _, Nat.le_refl _, fun _ _ => rfl, rfl, rfl, rfl, fun h => h.elim⟩
theorem ev_here {P : Program} {w : World} {e : Event} (h : EvF (here P w) w.heap.size e) : e.loc = .mark .noRoom ∨ ∃ f, e.loc = .mark (.extern f) := by
  obtain ⟨loc, wr, sy⟩ := e
  cases loc with
  | cell a =>
    have h1 := h.1; have h2 := h.2; simp only [here] at h1
    rcases h1 with h1 | h1
    · omega
    · exact h1.1.elim
  | obj r => have h1 := h.1; have h2 := h.2.2.1; simp only [here] at h1; omega
  | mark m =>
    cases m with
    | acquire a => have h1 := h.1; have h2 := h.2.2; simp only [here] at h1; omega
    | release a => have h1 := h.1; have h2 := h.2.2; simp only [here] at h1; omega
    | releaseMerge a => have h1 := h.1; have h2 := h.2.2; simp only [here] at h1; omega
    | read a => have h1 := h.1; have h2 := h.2.2; simp only [here] at h1; omega
    | write a => have h1 := h.1; have h2 := h.2.2; simp only [here] at h1; omega
    | disable => exact h.elim
    | enable => exact h.elim
    | extern f => exact .inr ⟨f, rfl⟩
    | noRoom => exact .inl rfl
  | output => exact h.elim
  | goroutines => exact h.elim
theorem seen_fold_noext (quiet : FuncId → Bool) : ∀ (l : List Event) (q : Bool) (kept : Array Event) (e : Event), e ∈ (l.foldl (Conc.seenStep quiet) (q, kept)).2 → e ∈ kept ∨ ∀ f, e.loc ≠ .mark (.extern f) := by
  intro l
  induction l with
  | nil => exact fun _ _ _ h => .inl h
  | cons a l ih =>
    intro q kept e h
    simp only [List.foldl_cons, Conc.seenStep] at h
    split at h
    · exact ih _ _ _ h
    · rename_i hne
      rcases ih _ _ _ h with h | h
      · split at h
        · exact .inl h
        · rcases Array.mem_push.1 h with h | rfl
          · exact .inl h
          · exact .inr fun f hf => hne f hf
      · exact .inr h
theorem seen_noext {P : Program} {fn : FuncId} {es : Array Event} {e : Event} (h : e ∈ seen P fn es) : ∀ f, e.loc ≠ .mark (.extern f) := by
  rw [Conc.seen_def] at h
  rcases seen_fold_noext _ es.toList _ #[] e h with h | h
  · simp at h
  · exact h
theorem seen_here {P : Program} {w : World} {fn : FuncId} {es : List Event} (h : ∀ e ∈ es, EvF (here P w) w.heap.size e) : ∀ e ∈ seen P fn es.toArray, e.loc = .mark .noRoom := fun e he => by
  rcases ev_here (h e (by simpa using Conc.mem_seen he)) with h1 | ⟨f, h1⟩
  · exact h1
  · exact absurd h1 (seen_noext he f)
theorem still_todo (hm : fr.mode = .run) {l : List Item} (hs : ∀ w, stepG.exec P main true fr cs none w = .go (G { fr with todo := l } cs) w) (w : World) : Still P main fr cs w { fr with todo := l } :=
  ⟨#[], by have := hs w; simp [G, stepG, hm] at this ⊢; rw [this], by simp⟩
theorem plain_ok (F : Fits P E) (FF : FitsF P E) {c : Code} {k : List AI} (R : RF ι ⟨x, tm, .code c :: k, ds, false⟩ fr) (hp : plainC x c = true) {f' : AF} (e : goT (codeA E c k x tm ds eAH) = some (.go f')) (w : World) : ∃ fr', Still P main fr cs w fr' ∧ RF ι f' fr' := by
  have hm : fr.mode = .run := by simpa using R.mode
  obtain ⟨i, k', ht, rfl, hk⟩ := R.todo
  have mk : ∀ {l : List Item} {td : List AI}, (∀ w, stepG.exec P main true fr cs none w = .go (G { fr with todo := l } cs) w) → RIs ι td l → f' = ⟨x, tm, td, ds, false⟩ → ∃ fr', Still P main fr cs w fr' ∧ RF ι f' fr' := fun hs hl he => ⟨_, still_todo hm hs w, by rw [he]; exact R.to hl⟩
  have leave : x.round = none → (∀ w, stepG.exec P main true fr cs none w = .go (G { fr with mode := .returning } cs) w) → f' = ⟨x, tm, .code c :: k, ds, true⟩ → ∃ fr', Still P main fr cs w fr' ∧ RF ι f' fr' := fun _ hs he =>
    ⟨{ fr with mode := .returning }, ⟨#[], by have := hs w; simp [G, stepG, hm] at this ⊢; rw [this], by simp⟩, by rw [he]; exact ⟨R.fn, R.tm, R.todo, R.ds, rfl, R.kind, R.round⟩⟩
  cases c with
  | skip => cases e; exact mk (l := k') (fun w => by unfold stepG.exec; simp only [ht]; rfl) hk rfl
  | label n => cases e; exact mk (l := k') (fun w => by unfold stepG.exec; simp only [ht]; rfl) hk rfl
  | ret =>
    have hx : x.round = none := by simpa [plainC] using hp
    have hr : fr.roundOf = none := by have := R.round; simp only [hx] at this; exact this
    have e : goT (leaveA x tm (.code .ret :: k) ds eAH (some .ret)) = some (.go f') := e
    unfold leaveA at e
    simp only [hx, goT] at e
    cases e
    exact leave hx (fun w => by unfold stepG.exec; simp only [ht, hr]; rfl) rfl
  | seq a b => cases e; exact mk (td := .code a :: .code b :: k) (l := .code a :: .code b :: k') (fun w => by unfold stepG.exec; simp only [ht]; rfl) (.cons rfl (.cons rfl hk)) rfl
  | cond c a b =>
    have e : goT (match ev tm c with
     | .bool t => some (A1.go ⟨x, tm, .code (cond t a b) :: k, ds, false⟩ eAH)
     | _ => none) = some (.go f') := e
    cases hv : ev tm c <;> rw [hv] at e <;> try (cases e; done)
    rename_i t
    cases e
    have hc := R.tm.ev fr rfl c
    rw [hv] at hc
    have hc : fr.eval c = .bool t := bool_inv hc
    exact mk (td := .code (cond t a b) :: k) (l := .code (if t then a else b) :: k') (fun w => by unfold stepG.exec; simp only [ht, hc]; rfl) (.cons (i := .code (if t then a else b)) (by cases t <;> rfl) hk) rfl
  | block id body => cases e; exact mk (td := .code body :: .inBlock id :: k) (l := .code body :: .inBlock id :: k') (fun w => by unfold stepG.exec; simp only [ht]; rfl) (.cons rfl (.cons rfl hk)) rfl
  | loop body => cases e; exact mk (td := .code body :: .inLoop body :: k) (l := .code body :: .inLoop body :: k') (fun w => by unfold stepG.exec; simp only [ht]; rfl) (.cons rfl (.cons rfl hk)) rfl
  | scope body => cases e; exact mk (td := .code body :: .inScope body :: k) (l := .code body :: .inScope body :: k') (fun w => by unfold stepG.exec; simp only [ht]; rfl) (.cons rfl (.cons rfl hk)) rfl
  | exit id =>
    have hx : x.round = none := by simpa [plainC] using hp
    have hr : fr.roundOf = none := by have := R.round; simp only [hx] at this; exact this
    have e : goT (match exitA id k with
     | some k' => some (A1.go ⟨x, tm, k', ds, false⟩ eAH)
     | none => leaveA x tm (.code (.exit id) :: k) ds eAH (some (.exit id))) = some (.go f') := e
    cases hx' : exitA id k with
    | some k2 =>
      rw [hx'] at e
      cases e
      obtain ⟨k3, h1, h2⟩ := exitA_ok hx' hk
      exact mk (l := k3) (fun w => by unfold stepG.exec; simp only [ht, h1]; rfl) h2 rfl
    | none =>
      rw [hx'] at e
      unfold leaveA at e
      simp only [hx, goT] at e
      cases e
  | goto l =>
    have hx : x.round = none := by simpa [plainC] using hp
    have e : goT (match gotoA l k with
     | some k' => some (A1.go ⟨x, tm, k', ds, false⟩ eAH)
     | none => leaveA x tm (.code (.goto l) :: k) ds eAH (some (.goto l))) = some (.go f') := e
    cases hx' : gotoA l k with
    | some k2 =>
      rw [hx'] at e
      cases e
      obtain ⟨k3, h1, h2⟩ := gotoA_ok hx' hk
      exact mk (l := k3) (fun w => by unfold stepG.exec; simp only [ht, h1]; rfl) h2 rfl
    | none =>
      rw [hx'] at e
      unfold leaveA at e
      simp only [hx, goT] at e
      cases e
  | rangeFunc g ps a b => cases hp
  | region id ops draw =>
    cases draw with
    | false => cases e; exact mk (td := inR ops ops.toList k) (l := .inRegion ops (List.range ops.size) :: k') (fun w => by unfold stepG.exec; simp only [ht]; rfl) (.cons ⟨0, rfl, rfl⟩ hk) rfl
    | true => cases hp
  | refuse s => cases hp
end
end Go.Ev
namespace Go.Ev
open Go.Conc (G)
section
variable {P : Program} {main : Bool} {E : Env} {ι : Nm} {x : AX} {tm : Tr AV} {ds : List AD} {fr : Frame} {cs : List Frame}
theorem resolve_fn {ρ : Operand → Value} {c : Call} {ty : TypeId} {gop : Operand} (hc : c.callee = .value gop) {i : FuncId} {fs cc : Array Value} (hg : ρ gop = .func (.func i) fs cc) (w : World) :
    SRun P (resolve ρ c ty) w { target := .fn (.func i) cc, args := fs ++ c.args.map ρ } w [] := by
  unfold resolve
  rw [hc]
  simp only [hg]
  exact SRun.pure _
theorem apply_blocked {fr : Frame} (hk : (fr.kind == CallKind.early) = false) {s : Sem Next} {w w2 : World} {es : Array Event} (h : s.runT P w #[] = (.halt .blocked w2, es)) : stepG.apply P true fr cs none s w = .go { G fr cs with status := .blocked } w2 #[] := by
  unfold stepG.apply
  simp only [if_true, h, hk]
  simp [GStep.after, G, seen]
theorem callT_ok (FF : FitsF P E) {ops : Array Oper} {j : Nat} {rest : List Oper} {k : List AI} {k' : List Item} (H : AtOp ι x tm ds ops j ((List.range ops.size).drop (j + 1)) k' fr) {o : Oper} (ho : ops[j]? = some o)
    (hrest : rest = ops.toList.drop (j + 1)) (hk : RIs ι k k') (hw : Region.wanted o (yielded ops fr.tmps) = true) {c : Call} (hop : o.op = .call c) {gop : Operand} (hc : c.callee = .value gop) {r : T1}
    (e : callT x tm (inR ops rest k) ds o.dst (loudOp o.op E tm eAH) = some r) : T1Ok P main E ι fr cs r := by
  rw [hop] at e
  have e : callT x tm (inR ops rest k) ds o.dst (callA c E tm eAH) = some r := e
  unfold callA at e
  rw [hc] at e
  simp only at e
  have hd : fr.roundOf = none ∨ ∀ c, o.op ≠ .defer c := .inr fun c' h => by rw [hop] at h; cases h
  unfold callV at e
  split at e
  · rename_i i first cap hv
    cases e
    have hg := H.rho gop
    rw [hv] at hg
    obtain ⟨fs, cc, hgv, hf, hcp⟩ := fn_inv hg
    have hargs : RVs ι (evs tm c.args.toList) (c.args.map fr.eval).toList := by simpa using RVs_evs H.rho c.args.toList
    have hrun : ∀ w, (execOp fr.eval o).runT P w #[] = (callFunc i ((fs ++ c.args.map fr.eval) ++ cc)).runT P w #[] := fun w => by
      unfold execOp
      rw [hop]
      simp only
      exact SRun.thenT (resolve_fn hc hgv w) (fun d => invoke d.target d.args) #[]
    refine ⟨fun v u hv' => (H.finish ho (Ext.refl ι) hv').rf hk hrest, H.mode, (fs ++ c.args.map fr.eval) ++ cc, ?_, fun w => ⟨fun c0 n rs ex hgt => ?_, fun u w' es hs => ?_, fun w2 es hs => ?_⟩⟩
    · simp only [Array.toList_append]
      exact (hf.append hargs).append hcp
    · exact op_enters FF H ho hw hd (hrun w) hgt
    · rw [step_oper H ho hw hd, apply_thenT (hrun w)]
      exact apply_yields H hs (v := .any) (ι' := ι) (by unfold Yields RV; trivial)
    · rw [step_oper H ho hw hd, apply_thenT (hrun w)]
      exact apply_blocked (kind_not_early H.kind) hs
  · cases e
  · cases e
theorem conv_run (F : Fits P E) {s d el : TypeId} (hs : E.d s = some (.ptr el)) (hd : E.d d = some .uptr) {ti : TI} (ht : E.tt.get el = some ti) (hz : ti.size ≠ 0) {w : World} {b off : Nat} {c : Array Value} {T : TypeId} {fz : Nat × Nat} (hb : w.heap[b]? = some (.cells c T fz)) (hlt : off < c.size) :
    SRun P (convert s d (.pointer (some ⟨b, off, none⟩))) w (.pointer (some ⟨b, off, none⟩)) w [] := by
  unfold convert
  refine SRun.bind0 (SRun.underlying (desc_ptr F hs)) ?_
  refine SRun.bind0 (SRun.underlying (desc_uptr F hd)) ?_
  unfold Conv.unsafePointer
  refine SRun.bind0 (SRun.underlying (desc_ptr F hs)) ?_
  refine SRun.bind0 (SRun.underlying (desc_uptr F hd)) ?_
  refine SRun.bind0 (SRun_seenAt hb) ?_
  refine SRun.bind0 (SRun_cellsIn hb) ?_
  refine SRun.bind0 (SRun_sizeOf (tt_of F ht)) ?_
  simp only [hz, decide_false, Bool.false_or, Option.isNone_none, Bool.and_true]
  have h2 : ¬ (c.size ≤ off) := by omega
  simp [h2]
  exact SRun.pure _
theorem fits_blind (F : Fits P E) : Fits P E.blind := by
  obtain ⟨⟩ := F
  constructor <;> assumption
theorem opT_ok (F : Fits P E) (FF : FitsF P E) {ops : Array Oper} {j : Nat} {rest : List Oper} {k : List AI} {k' : List Item} (H : AtOp ι x tm ds ops j ((List.range ops.size).drop (j + 1)) k' fr) {o : Oper} (ho : ops[j]? = some o)
    (hrest : rest = ops.toList.drop (j + 1)) (hk : RIs ι k k') (hw : Region.wanted o (yielded ops fr.tmps) = true) {r : T1} (e : opT E x tm (inR ops rest k) ds o = some r) : T1Ok P main E ι fr cs r := by
  unfold opT at e
  split at e
  · rename_i v hv
    cases e
    have hq : quietOp o.op E.blind tm eAH = some v := by
      cases hr : readsHeap o.op with
      | true => rw [hr] at hv; cases hv
      | false => rw [hr] at hv; exact hv
    have hd : fr.roundOf = none ∨ ∀ c, o.op ≠ .defer c := .inr fun c hc => by rw [defer_quiet hc] at hq; cases hq
    intro w
    obtain ⟨u, es, h1, h2, h3⟩ := quiet_ok (K := here P w) (E := E.blind) ⟨rfl, fun _ _ _ e => (by cases e), fun h => (by cases h)⟩ (fits_blind F) (sat_here P ι w) H.rho hq
    refine ⟨fr.finish u, ⟨seen P fr.fn es.toArray, ?_, seen_here h3⟩, (H.finish ho (Ext.refl ι) h2).rf hk hrest⟩
    rw [step_oper H ho hw hd]
    exact apply_yields H h1 (v := v) (ι' := ι) h2
  · split at e
    · rename_i c hop
      split at e
      · rename_i g hc
        exact callT_ok FF H ho hrest hk hw hop hc e
      · cases e
    · rename_i s d y hop
      split at e
      · rename_i el id off hs hdd hv
        split at e
        · rename_i ti ht
          cases hz : Nat.beq ti.size 0 with
          | true => rw [hz] at e; cases e
          | false =>
            rw [hz] at e
            cases e
            have hz' : ti.size ≠ 0 := fun h => by rw [h] at hz; cases hz
            have hd : fr.roundOf = none ∨ ∀ c, o.op ≠ .defer c := .inr fun c hc => by rw [hop] at hc; cases hc
            have hy := H.rho y
            rw [hv] at hy
            obtain ⟨p, hp, hyv⟩ := ptr_inv hy
            refine ⟨fun v u hv' => (H.finish ho (Ext.refl ι) hv').rf hk hrest, p, hp, fun w c T fz hb hlt => ?_⟩
            have hrun := conv_run (P := P) F hs hdd ht hz' hb hlt
            have hx : SRun P (execOp fr.eval o) w (.value (.pointer (some ⟨p.1, off, none⟩))) w [] := by
              unfold execOp
              rw [hop]
              simp only [hyv]
              have := SRun.bind (e2 := []) hrun (SRun.pure (P := P) (w := w) (Next.value (.pointer (some ⟨p.1, off, none⟩)))) (f := fun v => Pure.pure (Next.value v))
              simpa using this
            refine ⟨#[], ?_, by simp⟩
            rw [step_oper H ho hw hd]
            have := apply_yields (cs := cs) H hx (v := .any) (ι' := ι) (by unfold Yields RV; trivial)
            rw [this]
            rfl
        · cases e
      · cases e
    · rename_i c hop
      split at e
      · rename_i a hr hl
        cases e
        have hrd : fr.roundOf = none := by have := H.round; rw [hr] at this; exact this
        rw [hop] at hl
        have hl : (match c.callee with
          | .value g => (match ev tm g with
            | .fn f a b => some (OR.dfr ⟨.fn f a b, evs tm c.args.toList⟩)
            | _ => none)
          | _ => none) = some (.dfr a) := hl
        split at hl
        · rename_i gop hc
          split at hl
          · rename_i i first cap hv
            cases hl
            have hg := H.rho gop
            rw [hv] at hg
            obtain ⟨fs, cc, hgv, hf, hcp⟩ := fn_inv hg
            have hargs : RVs ι (evs tm c.args.toList) (c.args.map fr.eval).toList := by simpa using RVs_evs H.rho c.args.toList
            intro w
            have hrun : (execOp fr.eval o).runT P w #[] = (.ok (.defer { target := .fn (.func i) cc, args := fs ++ c.args.map fr.eval }) w, #[]) := by
              unfold execOp
              rw [hop]
              have h1 := SRun.thenT (resolve_fn (P := P) (ty := o.type) hc hgv w) (fun d => (Pure.pure (Next.defer d) : Sem Next)) #[]
              have h2 := SRun.pure (P := P) (w := w) (Next.defer { target := .fn (.func i) cc, args := fs ++ c.args.map fr.eval }) #[]
              simp only
              rw [h1, h2]; simp
            have hkk := kind_not_early H.kind
            refine ⟨({ fr with defers := { target := .fn (.func i) cc, args := fs ++ c.args.map fr.eval } :: fr.defers } : Frame).finish undef, ⟨#[], ?_, by simp⟩, ?_⟩
            · rw [step_oper H ho hw (.inl hrd)]
              unfold stepG.apply
              simp only [if_true, hrun, hkk]
              simp [GStep.after, G, seen]
            · have H' : AtOp ι x tm (⟨.fn i first cap, evs tm c.args.toList⟩ :: ds) ops j ((List.range ops.size).drop (j + 1)) k' { fr with defers := { target := .fn (.func i) cc, args := fs ++ c.args.map fr.eval } :: fr.defers } :=
                ⟨H.fn, H.tm, H.todo, ⟨_, fr.defers, rfl, ⟨fs.toList, (c.args.map fr.eval).toList, cc, hf, hargs, hcp, by simp⟩, H.ds⟩, H.mode, H.kind, H.round⟩
              exact (H'.finish ho (Ext.refl ι) RV_undef).rf hk hrest
          · cases hl
        · cases hl
      · cases e
    · rename_i c hop
      split at e
      · rename_i gop hc
        split at e
        · rename_i i first cap hv
          cases e
          have hd : fr.roundOf = none ∨ ∀ c, o.op ≠ .defer c := .inr fun c' h => by rw [hop] at h; cases h
          have hg := H.rho gop
          rw [hv] at hg
          obtain ⟨fs, cc, hgv, hf, hcp⟩ := fn_inv hg
          have hargs : RVs ι (evs tm c.args.toList) (c.args.map fr.eval).toList := by simpa using RVs_evs H.rho c.args.toList
          refine ⟨fs, c.args.map fr.eval, cc, ?_, fr.finish undef, (H.finish ho (Ext.refl ι) RV_undef).rf hk hrest, fun w => ?_⟩
          · simp only [Array.toList_append]
            exact (hf.append hargs).append hcp
          · have hrun : (execOp fr.eval o).runT P w #[] = (.ok (.spawn { target := .fn (.func i) cc, args := fs ++ c.args.map fr.eval }) w, #[]) := by
              unfold execOp
              rw [hop]
              have h1 := SRun.thenT (resolve_fn (P := P) (ty := o.type) hc hgv w) (fun d => (Pure.pure (Next.spawn d) : Sem Next)) #[]
              have h2 := SRun.pure (P := P) (w := w) (Next.spawn { target := .fn (.func i) cc, args := fs ++ c.args.map fr.eval }) #[]
              simp only
              rw [h1, h2]; simp
            have hkk := kind_not_early H.kind
            rw [step_oper H ho hw hd]
            unfold stepG.apply
            simp only [if_true, hrun, hkk]
            simp [GStep.after, G, seen, Conc.born]
        · cases e
      · cases e
    · cases e
theorem resT_ok {nt : Nat} {tmps : Array Value} (hT : RT ι nt tm tmps) : ∀ {rs : List ResultVar} {l : List AV}, resT tm rs = some l → ∃ vs, RVs ι l vs ∧ ∀ w,
    SRun P (rs.mapM fun r => match r with | .tmp t => (Pure.pure (tmps.getD t undef) : Sem Value) | .cell a t => do loadVar t (← asAddr (tmps.getD a undef))) w vs w [] := by
  intro rs
  induction rs with
  | nil => intro l e; cases e; exact ⟨[], RVs_nil, fun w => SRun.pure _⟩
  | cons r rs ih =>
    intro l e
    cases r with
    | tmp t =>
      simp only [resT] at e
      split at e
      · rename_i r' hr'
        cases e
        obtain ⟨vs, h1, h2⟩ := ih hr'
        refine ⟨_ :: vs, RVs_cons (hT.ev { (default : Frame) with tmps := tmps } rfl (.tmp t)) h1, fun w => ?_⟩
        rw [List.mapM_cons]
        refine SRun.bind0 (SRun.pure _) ?_
        exact SRun.bind0 (h2 w) (SRun.pure _)
      · cases e
    | cell a t => cases e
theorem results_tame {nt : Nat} {tmps : Array Value} (hT : RT ι nt tm tmps) {fn : Func} {rs : List ResultVar} (hrs : fn.results.toList = rs) {l : List AV} (e : resT tm rs = some l) :
    ∃ v, RV ι (retV l) v ∧ ∀ w, SRun P (results fn tmps) w v w [] := by
  obtain ⟨vs, h2, h1⟩ := resT_ok (P := P) hT e
  refine ⟨if h : vs.toArray.size = 1 then vs.toArray[0] else .tuple vs.toArray, ?_, fun w => ?_⟩
  · cases l with
    | nil =>
      rw [RVs_nil_inv h2]
      show RV ι (.tup []) (.tuple #[])
      unfold RV
      exact ⟨#[], rfl, RVs_nil⟩
    | cons a l =>
      obtain ⟨v, r, rfl, g1, g2⟩ := RVs_cons_inv h2
      cases l with
      | nil => rw [RVs_nil_inv g2]; exact g1
      | cons b l =>
        obtain ⟨v', r', rfl, g3, g4⟩ := RVs_cons_inv g2
        have : ¬ (v :: v' :: r').toArray.size = 1 := by simp
        rw [dif_neg this]
        show RV ι (.tup (a :: b :: l)) _
        unfold RV
        exact ⟨_, rfl, RVs_cons g1 (RVs_cons g3 g4)⟩
  · unfold results
    have hm : SRun P (fn.results.mapM fun
      | .tmp t => (Pure.pure (tmps.getD t undef) : Sem Value)
      | .cell a t => do loadVar t (← asAddr (tmps.getD a undef))) w vs.toArray w [] := by
      rw [Array.mapM_eq_mapM_toList, hrs]
      exact SRun.bind0 (h1 w) (SRun.pure _)
    exact SRun.bind0 hm (SRun.pure _)
theorem tame_ok (F : Fits P E) (FF : FitsF P E) {f : AF} (R : RF ι f fr) {r : T1} (e : stepT E f = some r) : T1Ok P main E ι fr cs r := by
  obtain ⟨x, tm, td, ds, ret⟩ := f
  cases ret with
  | true =>
    have hm : fr.mode = .returning := by simpa using R.mode
    cases ds with
    | nil =>
      have hds : fr.defers = [] := R.ds
      simp only [stepT] at e
      split at e
      · rename_i c n rs ex hg
        obtain ⟨fn, k1, k2, _, k4, _⟩ := FF.code x.fn c n rs ex hg
        have key : ∀ {l : List AV}, resT tm rs = some l → T1Ok P main E ι fr cs (.ret (retV l)) := fun hl => by
          obtain ⟨u, h1, h2⟩ := results_tame (P := P) R.tm k4 hl
          refine ⟨u, h1, fun w => ?_⟩
          rw [unwinds R]
          unfold unwind
          rw [hds]
          have := h2 w #[]
          have hfn : P.funcs[fr.fn]? = some fn := by rw [R.fn]; exact k1
          simp only [hm, hfn, this]
          simp [seen]
        cases hl : resT tm rs with
        | none => rw [hl] at e; cases e
        | some l =>
          rw [hl] at e
          have := key hl
          match l, e, this with
          | [], e, this => cases e; exact this
          | [v], e, this => cases e; exact this
          | a :: b :: l, e, this => cases e; exact this
      · cases e
    | cons d ds' =>
      obtain ⟨d', dr, hd, h1, h2⟩ := R.ds
      simp only [stepT] at e
      split at e
      · rename_i g first cap hf
        cases e
        unfold RD at h1
        rw [hf] at h1
        obtain ⟨fs, as, c, ha1, ha2, ha3, rfl⟩ := h1
        have R' : RF ι ⟨x, tm, td, ds', true⟩ { fr with defers := dr } := ⟨R.fn, R.tm, R.todo, h2, R.mode, R.kind, R.round⟩
        have hu : ∀ w, stepG P main (G fr cs) w = callDeferred P { fr with defers := dr } cs none { target := .fn (.func g) c, args := (fs ++ as).toArray } w := fun w => by
          rw [unwinds R]
          unfold unwind
          rw [hd]
        refine ⟨(fs ++ as).toArray ++ c, { fr with defers := dr }, ?_, R', hm, rfl, fun w => ⟨fun c0 n rs ex hgt => ?_, fun u w' es hs => ?_⟩⟩
        · simp only [Array.toList_append]
          exact (ha1.append ha2).append ha3
        · obtain ⟨fn, k1, k2, _, _, k5⟩ := FF.code g c0 n rs ex hgt
          have hr := callFunc_enter (w := w) (vs := (fs ++ as).toArray ++ c) k1 (by rw [k2]; rfl) k5
          rcases callDeferred_eq (cs := cs) (fr := { fr with defers := dr }) (d := { target := .fn (.func g) c, args := (fs ++ as).toArray }) rfl rfl hr with hcd | hcd
          · rw [hu w, hcd]; simp [GStep.after, seen]
          · exact absurd rfl (hcd.2.2 _ _)
        · rcases callDeferred_eq (cs := cs) (fr := { fr with defers := dr }) (d := { target := .fn (.func g) c, args := (fs ++ as).toArray }) rfl rfl hs with hcd | hcd
          · rw [hu w, hcd]; simp [GStep.after]
          · exact absurd ⟨_, rfl⟩ hcd.1
      · cases e
  | false =>
    have hm : fr.mode = .run := by simpa using R.mode
    have mk : ∀ {l : List Item} {td' : List AI}, (∀ w, stepG.exec P main true fr cs none w = .go (G { fr with todo := l } cs) w) → RIs ι td' l → r = .go ⟨x, tm, td', ds, false⟩ → T1Ok P main E ι fr cs r := fun hs hl he => by
      subst he
      exact fun w => ⟨_, still_todo hm hs w, R.to hl⟩
    cases td with
    | nil =>
      have ht : fr.todo = [] := R.todo
      simp only [stepT] at e
      split at e
      · rename_i hx
        cases e
        have hr : fr.roundOf = none := by have := R.round; simp only [hx] at this; exact this
        intro w
        refine ⟨{ fr with mode := .returning }, ⟨#[], ?_, by simp⟩, ⟨R.fn, R.tm, R.todo, R.ds, rfl, R.kind, R.round⟩⟩
        rw [RF.runs R]; unfold stepG.exec; simp only [ht, hr]; rfl
      · cases e
    | cons i k =>
      cases i with
      | code c =>
        simp only [stepT] at e
        cases hp : plainC x c with
        | false => rw [hp] at e; cases e
        | true =>
          rw [hp] at e
          simp only [cond_true] at e
          have : ∃ f', r = .go f' := by
            cases hA : codeA E c k x tm ds eAH with
            | none => rw [hA] at e; cases e
            | some a =>
              rw [hA] at e
              cases a <;> first | (cases e; exact ⟨_, rfl⟩) | cases e
          obtain ⟨f', rfl⟩ := this
          exact fun w => plain_ok F FF R hp e w
      | inBlock id =>
        obtain ⟨i, k', ht, rfl, hk⟩ := R.todo
        cases e; exact mk (l := k') (fun w => by unfold stepG.exec; simp only [ht]; rfl) hk rfl
      | inScope id =>
        obtain ⟨i, k', ht, rfl, hk⟩ := R.todo
        cases e; exact mk (l := k') (fun w => by unfold stepG.exec; simp only [ht]; rfl) hk rfl
      | inLoop body =>
        obtain ⟨i, k', ht, rfl, hk⟩ := R.todo
        cases e
        exact mk (td' := .code body :: .inLoop body :: k) (l := .code body :: .inLoop body :: k') (fun w => by unfold stepG.exec; simp only [ht]; rfl) (.cons rfl (.cons rfl hk)) rfl
      | inRegion ops l =>
        obtain ⟨i, k', ht, ⟨j, hj, rfl⟩, hk⟩ := R.todo
        cases l with
        | nil =>
          cases e
          have hn : (List.range ops.size).drop j = [] := by
            apply List.drop_eq_nil_of_le
            have : ops.toList.length ≤ j := by
              rcases Nat.lt_or_ge j ops.toList.length with h | h
              · rw [List.drop_eq_getElem_cons h] at hj; cases hj
              · exact h
            simpa using this
          rw [hn] at ht
          exact mk (l := k') (fun w => by unfold stepG.exec; simp only [ht]; rfl) hk rfl
        | cons o rest =>
          obtain ⟨ho, hrest, hr⟩ := drop_cons hj
          rw [hr] at ht
          have H : AtOp ι x tm ds ops j ((List.range ops.size).drop (j + 1)) k' fr := ⟨R.fn, R.tm, ht, R.ds, hm, R.kind, R.round⟩
          have e : regionT E x tm ds k ops o rest = some r := e
          unfold regionT at e
          split at e
          · rename_i hw
            exact opT_ok F FF H ho hrest hk (wanted_ok R.tm hw) e
          · rename_i hw
            cases e
            intro w
            refine ⟨_, ⟨#[], step_none H (fun o' ho' => ?_), by simp⟩, (H.finish ho (Ext.refl ι) RV_undef).rf hk hrest⟩
            rw [ho] at ho'; cases ho'
            exact wanted_ok R.tm hw
          · cases e
      | inRangeFunc id => cases e
      | endRangeFunc id => cases e
      | beginRound => cases e
      | inDrawn ops n => cases e
end
end Go.Ev
namespace Go.Ev
open Go.Conc (G)
structure ExtFn (P : Program) (g : FuncId) (e : Array Value → Sem Value) : Prop where
  ex : ∃ fn, P.funcs[g]? = some fn ∧ (fn.name == "runtime.NumGoroutine") = false ∧ fn.body.isNone = true ∧ Extern.findNext fn = none ∧ Extern.find fn = some e
def extE (g : FuncId) : Event := ⟨.mark (.extern g), false, true⟩
def rdA (a : Addr) : Event := ⟨.cell a, false, true⟩
def wrA (a : Addr) : Event := ⟨.cell a, true, true⟩
def mkE (m : Mark) : Event := ⟨.mark m, false, true⟩
section
variable {P : Program} {w : World} {g : FuncId}
theorem ext_run {e : Array Value → Sem Value} (h : ExtFn P g e) {vs : Array Value} {v : Value} {w' : World} {es : List Event} (he : SRun P (e vs) w v w' es) : SRun P (callFunc g vs) w (.value v) w' (extE g :: es) := by
  obtain ⟨fn, h1, h2, h3, h4, h5⟩ := h.ex
  unfold callFunc
  refine SRun.bind0 SRun.program ?_
  simp only [h1, h2, h3, h4, h5]
  refine SRun.bind (e1 := [extE g]) (e2 := es) (SRun.mark _) ?_
  have := SRun.bind he (SRun.pure (P := P) (w := w') (Next.value v)) (f := fun v => Pure.pure (Next.value v))
  simpa using this
theorem ext_halt {e : Array Value → Sem Value} (h : ExtFn P g e) {vs : Array Value} {hl : Halt} {w' : World} (he : ∀ e0, ∃ es, (e vs).runT P w e0 = (.halt hl w', es)) : ∃ es, (callFunc g vs).runT P w #[] = (.halt hl w', es) := by
  obtain ⟨fn, h1, h2, h3, h4, h5⟩ := h.ex
  unfold callFunc
  rw [SRun.thenT SRun.program]
  simp only [h1, h2, h3, h4, h5]
  have hm := SRun.mark (P := P) (w := w) (.extern g) #[]
  rw [if_neg (by simp), if_pos trivial]
  rw [runT_bind, hm]
  simp only
  obtain ⟨es, he⟩ := he (#[] ++ [(⟨.mark (.extern g), false, true⟩ : Event)].toArray)
  show ∃ es, ((e vs) >>= fun v => Pure.pure (Next.value v)).runT P w _ = _
  rw [runT_bind, he]
  exact ⟨es, rfl⟩
theorem seen_sync (fn : FuncId) {es : List Event} (h : ∀ x ∈ es, x.sync = true ∧ ∀ g, x.loc ≠ .mark (.extern g)) : seen P fn (extE g :: es).toArray = es.toArray := by
  have := Conc.seen_entry (P := P) fn g es.toArray (fun x hx => h x (by simpa using hx))
  have e : (extE g :: es).toArray = #[⟨.mark (.extern g), false, true⟩] ++ es.toArray := by simp [extE]
  rw [e]; exact this
theorem SRun.loadA {a : Addr} {v : Value} (h : w.cell? a = some v) : SRun P (Go.load a .atomic) w v w [rdA a] := fun e0 => by
  unfold Go.load
  simp only [Sem.runT, h]
  simp [Sem.runT, rdA]
theorem SRun.storeA {a : Addr} {v v0 : Value} (h : w.cell? a = some v0) (hf : w.frozen? a = false) (hv : ∀ cs, v ≠ .agg cs) (ht : ∀ cs, v ≠ .tuple cs) : SRun P (Go.store a v .atomic) w () (w.setCell a v) [wrA a] := fun e0 => by
  unfold Go.store
  cases v <;> first
    | exact absurd rfl (hv _)
    | exact absurd rfl (ht _)
    | (simp only [Sem.runT, h, hf]; simp [Sem.runT, wrA])
theorem run_mark0 (m : Mark) (vs : Array Value) : SRun P ((fun _ => do mark m; Pure.pure Extern.Race.none_ : Array Value → Sem Value) vs) w (.tuple #[]) w [mkE m] := by
  show SRun P (mark m >>= fun _ => Pure.pure Extern.Race.none_) w _ w _
  exact SRun.bind (e1 := [mkE m]) (e2 := []) (SRun.mark m) (SRun.pure _)
theorem run_marked (m : Addr → Mark) (a : Addr) {vs : Array Value} (h : vs[0]? = some (.pointer (some a))) : SRun P (Extern.Race.marked m vs) w (.tuple #[]) w [mkE (m a)] := by
  unfold Extern.Race.marked Extern.Race.at_
  simp only [h]
  refine SRun.bind0 (SRun.pure a) ?_
  exact SRun.bind (e1 := [mkE (m a)]) (e2 := []) (SRun.mark _) (SRun.pure _)
theorem run_readA {k : IntKind} {a : Addr} {n : Int} (h : w.cell? a = some (.int k n)) : SRun P (Extern.Atomic.read (.int k) a) w (.int k n) w [rdA a] := by
  unfold Extern.Atomic.read
  refine SRun.bind (e1 := [rdA a]) (e2 := []) (SRun.loadA h) ?_
  simp only [if_true]
  exact SRun.pure _
theorem run_loadT {k : IntKind} {a : Addr} {n : Int} (h : w.cell? a = some (.int k n)) : SRun P (Extern.Atomic.loadT (.int k) #[.pointer (some a)]) w (.int k n) w [rdA a] := by
  unfold Extern.Atomic.loadT
  refine SRun.bind0 (a := a) ?_ (run_readA h)
  unfold asAddr; exact SRun.pure _
theorem run_storeT {k : IntKind} {a : Addr} {n : Int} {v : Value} (h : w.cell? a = some v) (hf : w.frozen? a = false) : SRun P (Extern.Atomic.storeT #[.pointer (some a), .int k n]) w (.tuple #[]) (w.setCell a (.int k n)) [wrA a] := by
  unfold Extern.Atomic.storeT
  refine SRun.bind0 (a := a) (by unfold asAddr; exact SRun.pure _) ?_
  exact SRun.bind (e1 := [wrA a]) (e2 := []) (SRun.storeA h hf (fun _ e => by cases e) (fun _ e => by cases e)) (SRun.pure _)
theorem SRun.of {α : Type} {s : Sem α} {a : α} {w' : World} {l : List Event} (h1 : s.run P w = .ok a w') (h2 : ∀ es, s.events P w es = es ++ l.toArray) : SRun P s w a w' l := fun e0 => by
  rw [Sem.runT_eq, h1, h2]
theorem run_add {k : IntKind} {a : Addr} {n d : Int} (h : w.cell? a = some (.int k n)) (hf : w.frozen? a = false) : SRun P (Extern.Atomic.update (Op.intArith .add) k true #[.pointer (some a), .int k d]) w (.int k (k.wrap (n + d))) (w.setCell a (.int k (k.wrap (n + d)))) [rdA a, wrA a] :=
  .of (Conc.run_add_entry h hf) (fun es => by rw [Conc.events_add_entry h hf]; apply Array.toList_inj.1; simp [rdA, wrA])
theorem run_cas_hit {k : IntKind} {a : Addr} {n m : Int} (h : w.cell? a = some (.int k n)) (hf : w.frozen? a = false) :
    SRun P (Extern.Atomic.casT (.int k) #[.pointer (some a), .int k n, .int k m]) w (.bool true) (w.setCell a (.int k m)) [rdA a, wrA a] := by
  rw [Conc.casT_eq]
  exact .of (Conc.run_cas_hit_entry h hf) (fun es => by rw [Conc.events_cas_hit_entry h hf]; apply Array.toList_inj.1; simp [rdA, wrA])
theorem run_cas_miss {k : IntKind} {a : Addr} {n o m : Int} (h : w.cell? a = some (.int k n)) (hf : w.frozen? a = false) (hne : n ≠ o) :
    SRun P (Extern.Atomic.casT (.int k) #[.pointer (some a), .int k o, .int k m]) w (.bool false) w [rdA a] := by
  rw [Conc.casT_eq]
  exact .of (Conc.run_cas_miss_entry h hf hne) (fun es => by rw [Conc.events_cas_miss_entry h hf hne]; apply Array.toList_inj.1; simp [rdA])
theorem run_count {a : Addr} {n : Int} {vs : Array Value} (hvs : vs[0]? = some (.pointer (some a))) (h : w.cell? a = some (.int .u32 n)) : SRun P (Extern.Sync.count vs) w (a, n) w [rdA a] := by
  unfold Extern.Sync.count
  simp only [hvs]
  exact SRun.bind (e1 := [rdA a]) (e2 := []) (SRun.loadA h) (SRun.pure _)
theorem run_semacquire {a : Addr} {n : Int} {vs : Array Value} (hvs : vs[0]? = some (.pointer (some a))) (h : w.cell? a = some (.int .u32 n)) (hf : w.frozen? a = false) (hn : n ≠ 0) :
    SRun P (Extern.Sync.semacquire vs) w (.tuple #[]) (w.setCell a (.int .u32 (n - 1))) [mkE .disable, rdA a, wrA a, mkE .enable] := by
  unfold Extern.Sync.semacquire
  refine SRun.bind (e1 := [mkE .disable]) (e2 := [rdA a, wrA a, mkE .enable]) (SRun.mark _) ?_
  refine SRun.bind (e1 := [rdA a]) (e2 := [wrA a, mkE .enable]) (run_count hvs h) ?_
  simp only [hn, if_false]
  refine SRun.bind (e1 := [wrA a]) (e2 := [mkE .enable]) (SRun.storeA h hf (by simp) (by simp)) ?_
  exact SRun.bind (e1 := [mkE .enable]) (e2 := []) (SRun.mark _) (SRun.pure _)
theorem run_semblock {a : Addr} {vs : Array Value} (hvs : vs[0]? = some (.pointer (some a))) (h : w.cell? a = some (.int .u32 0)) : ∀ e0, ∃ es, (Extern.Sync.semacquire vs).runT P w e0 = (.halt .blocked w, es) := by
  intro e0
  unfold Extern.Sync.semacquire
  have hm := SRun.mark (P := P) (w := w) .disable e0
  rw [runT_bind, hm]
  simp only
  have hc := run_count (P := P) hvs h (e0 ++ [(⟨.mark .disable, false, true⟩ : Event)].toArray)
  rw [runT_bind, hc]
  simp only [if_true]
  exact ⟨_, rfl⟩
end
end Go.Ev
namespace Go.Ev
open Go.Conc (G)
open Go.ConcX (WgAt wgBlock stA smA KK)
structure FitsX (P : Program) (E : Env) : Prop where
  noEscape : ∀ g n rs, E.ft.get g = some ⟨none, n, rs, .noEscape⟩ → ∃ e, ExtFn P g e ∧ ∀ v, e #[v] = Pure.pure v
  false_ : ∀ g n rs, E.ft.get g = some ⟨none, n, rs, .false_⟩ → ∃ e, ExtFn P g e ∧ ∀ vs, e vs = Pure.pure (.bool false)
  race : ∀ g n rs, E.ft.get g = some ⟨none, n, rs, .race⟩ → ∃ m : Addr → Mark, ExtFn P g (Extern.Race.marked m) ∧ (m = .acquire ∨ m = .release ∨ m = .releaseMerge ∨ m = .read ∨ m = .write)
  dis : ∀ g n rs, E.ft.get g = some ⟨none, n, rs, .dis⟩ → ExtFn P g (fun _ => do mark .disable; Pure.pure Extern.Race.none_)
  en : ∀ g n rs, E.ft.get g = some ⟨none, n, rs, .en⟩ → ExtFn P g (fun _ => do mark .enable; Pure.pure Extern.Race.none_)
  atAdd : ∀ g n rs k, E.ft.get g = some ⟨none, n, rs, .atAdd k⟩ → ExtFn P g (Extern.Atomic.update (Op.intArith .add) k true)
  atCas : ∀ g n rs k, E.ft.get g = some ⟨none, n, rs, .atCas k⟩ → ExtFn P g (Extern.Atomic.casT (.int k))
  atLoad : ∀ g n rs k, E.ft.get g = some ⟨none, n, rs, .atLoad k⟩ → ExtFn P g (Extern.Atomic.loadT (.int k))
  cmpStr : ∀ g n rs, E.ft.get g = some ⟨none, n, rs, .cmpStr⟩ → ExtFn P g Extern.BytealgCompare.compare
  mapClone : ∀ g n rs, E.ft.get g = some ⟨none, n, rs, .mapClone⟩ → ExtFn P g Extern.MapsClone.clone
structure WgIds where
  wait : FuncId
  load : FuncId
  cas : FuncId
  semacq : FuncId
  acq : FuncId
  wrt : FuncId
structure FitsW (P : Program) (I : WgIds) : Prop where
  load : ExtFn P I.load (Extern.Atomic.loadT (.int .u64))
  cas : ExtFn P I.cas (Extern.Atomic.casT (.int .u64))
  semacq : ExtFn P I.semacq Extern.Sync.semacquire
  acq : ExtFn P I.acq (Extern.Race.marked .acquire)
  wrt : ExtFn P I.wrt (Extern.Race.marked .write)
inductive SK where
  | call (f : AF) (d : Option Tmp)
  | dcall (f : AF)
noncomputable def resume (f : AF) (d : Option Tmp) (v : AV) : AF := ⟨f.x, fin f.x d v f.tm, f.todo, f.ds, false⟩
inductive TR where
  | go (f : AF) (k : List SK) (d : Nat)
  | ext (f : AF) (dst : Option Tmp) (g : FuncId) (args : List AV) (k : List SK)
  | ret (v : AV)
  | no
noncomputable def enterR (k : List SK) (d : Nat) : Option AF → TR
  | some f => .go f k d
  | none => .no
def isP01 : List AV → Bool
  | [.ptr 0 1] => true
  | _ => false
noncomputable def extT (I : WgIds) (f : AF) (dst : Option Tmp) (g : FuncId) (args : List AV) (k : List SK) (d : Nat) (e : EX) : TR :=
  match e, args with
  | .dis, [] => .go (resume f dst (.tup [])) k (d + 1)
  | .en, [] => cond (Nat.beq d 0) .no (.go (resume f dst (.tup [])) k (d - 1))
  | .false_, _ => .go (resume f dst (.bool false)) k d
  | _, _ => cond (Nat.beq g I.wrt && isP01 args) (.go (resume f dst (.tup [])) k d) (.ext f dst g args k)
noncomputable def tstep (E : Env) (I : WgIds) (f : AF) (k : List SK) (d : Nat) : TR :=
  match stepT E f with
  | some (.go f') => .go f' k d
  | some (.call f' dst g args) => (match E.ft.get g with
    | some ⟨some _, _, _, _⟩ => enterR (.call f' dst :: k) d (enterA E g args false)
    | some ⟨none, _, _, e⟩ => extT I f' dst g args k d e
    | none => .no)
  | some (.dcall f' g args) => (match E.ft.get g with
    | some ⟨some _, _, _, _⟩ => enterR (.dcall f' :: k) d (enterA E g args true)
    | some ⟨none, _, _, .en⟩ => cond (Nat.beq d 0 || !args.isEmpty) .no (.go f' k (d - 1))
    | _ => .no)
  | some (.conv f' dst id off) => cond (Nat.beq id 0 && Nat.blt off 2) (.go (resume f' dst (.ptr id off)) k d) .no
  | some (.ret v) => (match k with
    | .call f' dst :: k' => cond f.x.deferred .no (.go (resume f' dst v) k' d)
    | .dcall f' :: k' => cond f.x.deferred (.go f' k' d) .no
    | [] => cond f.x.deferred .no (.ret v))
  | _ => .no
def MEv (Wg : Nat) (e : Event) : Prop := e.loc = .mark .noRoom ∨ e = mkE .disable ∨ e = mkE .enable ∨ e = mkE (.write (smA Wg))
def WgLive (ty : TypeId) (Wg : Nat) (w : World) : Prop := ∃ st sm, WgAt ty Wg w st sm
def MW (P : Program) (ty : TypeId) (Wg : Nat) (Stop : Nat → Goroutine → Prop) : Nat → Nat → Goroutine → Prop
  | 0, d, g => Stop d g
  | n + 1, d, g => Stop d g ∨ (g.status = .running ∧ ∀ w, WgLive ty Wg w → ∃ g' es, stepG P true g w = .go g' w es ∧ (∀ e ∈ es, MEv Wg e) ∧ MW P ty Wg Stop n (deafBehind d es) g')
def RS (ι : Nm) : List SK → List Frame → Prop
  | [], frs => frs = []
  | .call f d :: k, frs => ∃ fr r, frs = fr :: r ∧ WaitsS ι f d fr ∧ RS ι k r
  | .dcall f :: k, frs => ∃ fr r, frs = fr :: r ∧ (RF ι f fr ∧ fr.mode = .returning) ∧ RS ι k r
def TAt (ι : Nm) (c : Frame) (cs : List Frame) (f : AF) (k : List SK) (g : Goroutine) : Prop := ∃ fr frs, g = G fr (frs ++ c :: cs) ∧ RF ι f fr ∧ RS ι k frs
section
variable {P : Program} {E : Env} {I : WgIds} {ty : TypeId} {Wg cp : Nat} {ι : Nm} {c : Frame} {cs : List Frame} {f : AF} {k : List SK} {d : Nat} {g : Goroutine} {w : World}
theorem deaf_noRoom {es : Array Event} (h : ∀ e ∈ es, e.loc = .mark .noRoom) (d : Nat) : deafBehind d es = d := deaf_still (fun e he => by rw [h e he]; exact ⟨by simp, by simp⟩) d
theorem mev_noRoom {es : Array Event} (h : ∀ e ∈ es, e.loc = .mark .noRoom) : ∀ e ∈ es, MEv Wg e := fun e he => .inl (h e he)
theorem step_ext {fr : Frame} {frs : List Frame} {g : FuncId} {vs : Array Value} {back : Value → Frame} (h : CallsNow P true fr frs w g vs back) {u : Value} {e : Event} (hr : SRun P (callFunc g vs) w (.value u) w [extE g, e]) (he : e.sync = true ∧ ∀ g, e.loc ≠ .mark (.extern g)) :
    stepG P true (G fr frs) w = .go (G (back u) frs) w #[e] := by
  have := h u w _ hr
  rw [seen_sync _ (by simpa using he)] at this
  exact this
theorem step_ext0 {fr : Frame} {frs : List Frame} {g : FuncId} {vs : Array Value} {back : Value → Frame} (h : CallsNow P true fr frs w g vs back) {u : Value} (hr : SRun P (callFunc g vs) w (.value u) w [extE g]) :
    stepG P true (G fr frs) w = .go (G (back u) frs) w #[] := by
  have := h u w _ hr
  rw [seen_sync _ (by simp)] at this
  exact this
theorem RV_ptr0 {off : Nat} (hι : ι 0 = some (Wg, cp)) {v : Value} (h : RV ι (.ptr 0 off) v) : v = .pointer (some ⟨Wg, off, none⟩) := by
  obtain ⟨p, hp, rfl⟩ := ptr_inv h
  rw [hι] at hp; cases hp; rfl
theorem args1 {a : AV} {vs : Array Value} (h : RVs ι [a] vs.toList) : ∃ v, vs = #[v] ∧ RV ι a v := by
  obtain ⟨v, r, h1, h2, h3⟩ := RVs_cons_inv h
  rw [RVs_nil_inv h3] at h1
  exact ⟨v, by apply Array.toList_inj.1; rw [h1], h2⟩
theorem args0 {vs : Array Value} (h : RVs ι [] vs.toList) : vs = #[] := by
  have := RVs_nil_inv h
  apply Array.toList_inj.1; rw [this]
theorem tstep_ok (F : Fits P E) (FF : FitsF P E) (FX : FitsX P E) (FW : FitsW P I) (hι : ι 0 = some (Wg, cp)) (H : TAt ι c cs f k g) {f' : AF} {k' : List SK} {d' : Nat} (e : tstep E I f k d = .go f' k' d') (hw : WgLive ty Wg w) :
    ∃ g' es, stepG P true g w = .go g' w es ∧ (∀ e ∈ es, MEv Wg e) ∧ deafBehind d es = d' ∧ TAt ι c cs f' k' g' := by
  obtain ⟨fr, frs, rfl, R, HS⟩ := H
  unfold tstep at e
  split at e
  · rename_i f1 hs
    cases e
    have := tame_ok (main := true) (cs := frs ++ c :: cs) F FF R hs
    obtain ⟨fr', ⟨es, h1, h2⟩, h3⟩ := this w
    exact ⟨_, es, h1, mev_noRoom h2, deaf_noRoom h2 d, fr', frs, rfl, h3, HS⟩
  · rename_i f1 dst g1 args hs
    obtain ⟨h1, h1m, vs, h2, h3⟩ := tame_ok (main := true) (cs := frs ++ c :: cs) F FF R hs
    obtain ⟨h4, h5, h6⟩ := h3 w
    split at e
    · rename_i cd n rs ex hg
      unfold enterR at e
      split at e
      · rename_i fn hfn
        cases e
        refine ⟨_, #[], h4 _ _ _ _ hg, by simp, rfl, _, fr :: frs, rfl, enter_ok FF hfn h2 rfl, fr, frs, rfl, h1, HS⟩
      · cases e
    · rename_i n rs ex hg
      unfold extT at e
      split at e
      · cases e
        refine ⟨_, #[mkE .disable], step_ext h5 (ext_run (FX.dis g1 n rs hg) (run_mark0 .disable vs)) ⟨rfl, by simp [mkE]⟩, ?_, by simp [deafBehind, mkE], _, frs, rfl, h1 _ _ (by unfold RV; exact ⟨#[], rfl, RVs_nil⟩), HS⟩
        intro e he; simp at he; subst he; exact .inr (.inl rfl)
      · cases hz : Nat.beq d 0 with
        | true => rw [hz] at e; cases e
        | false =>
          rw [hz] at e
          cases e
          refine ⟨_, #[mkE .enable], step_ext h5 (ext_run (FX.en g1 n rs hg) (run_mark0 .enable vs)) ⟨rfl, by simp [mkE]⟩, ?_, by simp [deafBehind, mkE], _, frs, rfl, h1 _ _ (by unfold RV; exact ⟨#[], rfl, RVs_nil⟩), HS⟩
          intro e he; simp at he; subst he; exact .inr (.inr (.inl rfl))
      · cases e
        obtain ⟨ef, hef, hev⟩ := FX.false_ g1 n rs hg
        refine ⟨_, #[], step_ext0 h5 (ext_run (es := []) hef (by rw [hev]; exact SRun.pure _)), by simp, rfl, _, frs, rfl, h1 _ _ (by unfold RV; rfl), HS⟩
      · cases hz : (Nat.beq g1 I.wrt && isP01 args) with
        | false => simp only [hz] at e; cases e
        | true =>
          simp only [hz] at e
          cases e
          rw [Bool.and_eq_true] at hz
          have hgw := Nat.eq_of_beq_eq_true hz.1
          have ha : args = [.ptr 0 1] := by
            have := hz.2
            unfold isP01 at this
            split at this
            · rfl
            · cases this
          subst ha
          obtain ⟨v, rfl, hv⟩ := args1 h2
          have hv := RV_ptr0 hι hv
          subst hv
          subst hgw
          refine ⟨_, #[mkE (.write (smA Wg))], step_ext h5 (ext_run FW.wrt (run_marked .write ⟨Wg, 1, none⟩ rfl)) ⟨rfl, by simp [mkE]⟩, ?_, by simp [deafBehind, mkE], _, frs, rfl, h1 _ _ (by unfold RV; exact ⟨#[], rfl, RVs_nil⟩), HS⟩
          intro e he; simp at he; subst he; exact .inr (.inr (.inr rfl))
    · cases e
  · rename_i f1 g1 args hs
    obtain ⟨vs, fr', h2, h1, h1m, _, h3⟩ := tame_ok (main := true) (cs := frs ++ c :: cs) F FF R hs
    obtain ⟨h4, h5⟩ := h3 w
    split at e
    · rename_i cd n rs ex hg
      unfold enterR at e
      split at e
      · rename_i fn hfn
        cases e
        refine ⟨_, #[], h4 _ _ _ _ hg, by simp, rfl, _, fr' :: frs, rfl, enter_ok FF hfn h2 rfl, fr', frs, rfl, ⟨h1, h1m⟩, HS⟩
      · cases e
    · rename_i n rs hg
      cases hz : (Nat.beq d 0 || !args.isEmpty) with
      | true => rw [hz] at e; cases e
      | false =>
        rw [hz] at e
        cases e
        have := h5 _ _ _ (ext_run (FX.en g1 n rs hg) (run_mark0 .enable vs))
        rw [seen_sync _ (by intro x hx; simp at hx; subst hx; exact ⟨rfl, by simp [mkE]⟩)] at this
        refine ⟨_, #[mkE .enable], this, ?_, by simp [deafBehind, mkE], fr', frs, rfl, h1, HS⟩
        intro e he; simp at he; subst he; exact .inr (.inr (.inl rfl))
    · cases e
  · rename_i f1 dst id off hs
    obtain ⟨h1, p, hp, h3⟩ := tame_ok (main := true) (cs := frs ++ c :: cs) F FF R hs
    cases hz : (Nat.beq id 0 && Nat.blt off 2) with
    | false => rw [hz] at e; cases e
    | true =>
      rw [hz] at e
      cases e
      rw [Bool.and_eq_true, Nat.blt_eq] at hz
      have hid := Nat.eq_of_beq_eq_true hz.1
      subst hid
      rw [hι] at hp; cases hp
      obtain ⟨st, sm, hb⟩ := hw
      obtain ⟨es, k1, k2⟩ := h3 w _ _ _ hb hz.2
      exact ⟨_, es, k1, mev_noRoom k2, deaf_noRoom k2 d, _, frs, rfl, h1 _ _ (RV_ptr hι), HS⟩
  · rename_i v hs
    obtain ⟨u, h1, h2⟩ := tame_ok (main := true) (cs := frs ++ c :: cs) F FF R hs
    split at e
    · rename_i f1 dst k1
      cases hd : f.x.deferred with
      | true => rw [hd] at e; cases e
      | false =>
        rw [hd] at e
        cases e
        obtain ⟨fr1, r1, rfl, hw1, hs1⟩ := HS
        have hk : fr.kind = .normal := by rw [R.kind, hd]; rfl
        refine ⟨G (fr1.finish u) (r1 ++ c :: cs), #[], ?_, by simp, rfl, _, r1, rfl, hw1 _ _ h1, hs1⟩
        rw [h2 w]
        show GStep.after #[] (doReturn P true fr (fr1 :: (r1 ++ c :: cs)) none u w) = _
        unfold doReturn
        simp only [hk]
        rfl
    · rename_i f1 k1
      cases hd : f.x.deferred with
      | false => rw [hd] at e; cases e
      | true =>
        rw [hd] at e
        cases e
        obtain ⟨fr1, r1, rfl, ⟨hw1, hm1⟩, hs1⟩ := HS
        have hk : fr.kind = .deferred := by rw [R.kind, hd]; rfl
        refine ⟨G fr1 (r1 ++ c :: cs), #[], ?_, by simp, rfl, _, r1, rfl, hw1, hs1⟩
        rw [h2 w]
        show GStep.after #[] (doReturn P true fr (fr1 :: (r1 ++ c :: cs)) none u w) = _
        unfold doReturn
        simp only [hk, hm1]
        rfl
    · cases hd : f.x.deferred with
      | true => rw [hd] at e; cases e
      | false => rw [hd] at e; cases e
  · cases e
end
end Go.Ev
namespace Go.Ev
open Go.Conc (G semEvents)
open Go.ConcX (WgAt wgBlock stA smA KK)
section
variable (P : Program) (ty : TypeId) (Wg : Nat) (Fin : Goroutine → Prop)
def AtAcq (g : Goroutine) : Prop := g.status = .running ∧ ∀ w, ∃ g', stepG P true g w = .go g' w #[mkE (.acquire (stA Wg))] ∧ Fin g'
def MAcq (n : Nat) (g : Goroutine) : Prop := MW P ty Wg (fun d g => d = 0 ∧ AtAcq P Wg Fin g) n 1 g
def AtLd0 (g : Goroutine) : Prop := g.status = .running ∧ ∀ w sm, WgAt ty Wg w 0 sm → ∃ g', stepG P true g w = .go g' w #[rdA (stA Wg)] ∧ ∃ n, MAcq P ty Wg Fin n g'
def MLd0 (n : Nat) (g : Goroutine) : Prop := MW P ty Wg (fun d g => d = 1 ∧ AtLd0 P ty Wg Fin g) n 1 g
def AtSem (g : Goroutine) : Prop := g.status = .running ∧ g.offers = none ∧ (∀ w st, WgAt ty Wg w st 0 → stepG P true g w = .go { g with status := .blocked } w #[]) ∧
  (∀ w, WgAt ty Wg w 0 1 → ∃ g', stepG P true g w = .go g' (w.setCell (smA Wg) (.int .u32 0)) (semEvents (smA Wg)) ∧ ∃ n, MLd0 P ty Wg Fin n g')
def MSem (n : Nat) (g : Goroutine) : Prop := MW P ty Wg (fun d g => d = 1 ∧ AtSem P ty Wg Fin g) n 1 g
def AtCas (g : Goroutine) : Prop := g.status = .running ∧
  (∀ w, WgAt ty Wg w KK 0 → ∃ g', stepG P true g w = .go g' (w.setCell (stA Wg) (.int .u64 (KK + 1))) #[rdA (stA Wg), wrA (stA Wg)] ∧ ∃ n, MSem P ty Wg Fin n g') ∧
  (∀ w, WgAt ty Wg w 0 0 → ∃ g', stepG P true g w = .go g' w #[rdA (stA Wg)] ∧ ∃ n, MLd0 P ty Wg Fin n g')
def MCas (n : Nat) (g : Goroutine) : Prop := MW P ty Wg (fun d g => d = 1 ∧ AtCas P ty Wg Fin g) n 1 g
def AtLd (g : Goroutine) : Prop := g.status = .running ∧
  (∀ w, WgAt ty Wg w KK 0 → ∃ g', stepG P true g w = .go g' w #[rdA (stA Wg)] ∧ ∃ n, MCas P ty Wg Fin n g') ∧
  (∀ w, WgAt ty Wg w 0 0 → ∃ g', stepG P true g w = .go g' w #[rdA (stA Wg)] ∧ ∃ n, MAcq P ty Wg Fin n g')
def MLd (d n : Nat) (g : Goroutine) : Prop := MW P ty Wg (fun d g => d = 1 ∧ AtLd P ty Wg Fin g) n d g
end
abbrev TS := AF × List SK × Nat
noncomputable def toStop (E : Env) (I : WgIds) (n : Nat) : AF → List SK → Nat → TS :=
  @Nat.rec (fun _ => AF → List SK → Nat → TS) (fun f k d => (f, k, d)) (fun _ ih f k d => match tstep E I f k d with | .go f' k' d' => ih f' k' d' | _ => (f, k, d)) n
noncomputable def stopExt (E : Env) (I : WgIds) (s : TS) (d : Nat) (g : FuncId) (ok : List AV → Bool) : Option (AF × Option Tmp × List SK) :=
  match tstep E I s.1 s.2.1 s.2.2 with
  | .ext f dst g' args k => cond (Nat.beq s.2.2 d && (Nat.beq g' g && ok args)) (some (f, dst, k)) none
  | _ => none
def isP00 : List AV → Bool
  | [.ptr 0 0] => true
  | _ => false
def isSem : List AV → Bool
  | [.ptr 0 1, _] => true
  | _ => false
def isCas : List AV → Bool
  | [.ptr 0 0, .int .u64 a, .int .u64 b] => a == KK && b == KK + 1
  | _ => false
noncomputable def on (E : Env) (I : WgIds) (d : Nat) (v : AV) (p : AF × Option Tmp × List SK) : TS := toStop E I 200 (resume p.1 p.2.1 v) p.2.2 d
noncomputable def finOk (E : Env) (I : WgIds) (s : TS) : Bool := match tstep E I s.1 s.2.1 s.2.2 with | .ret (.tup []) => Nat.beq s.2.2 0 | _ => false
noncomputable def acqOk (E : Env) (I : WgIds) (s : TS) : Bool := match stopExt E I s 0 I.acq isP00 with | some p => finOk E I (on E I 0 (.tup []) p) | none => false
noncomputable def ld0Ok (E : Env) (I : WgIds) (s : TS) : Bool := match stopExt E I s 1 I.load isP00 with | some p => acqOk E I (on E I 1 (.int .u64 0) p) | none => false
noncomputable def semOk (E : Env) (I : WgIds) (s : TS) : Bool := match stopExt E I s 1 I.semacq isSem with | some p => ld0Ok E I (on E I 1 (.tup []) p) | none => false
noncomputable def casOk (E : Env) (I : WgIds) (s : TS) : Bool := match stopExt E I s 1 I.cas isCas with | some p => semOk E I (on E I 1 (.bool true) p) && ld0Ok E I (on E I 1 (.bool false) p) | none => false
noncomputable def ldOk (E : Env) (I : WgIds) (s : TS) : Bool := match stopExt E I s 1 I.load isP00 with | some p => casOk E I (on E I 1 (.int .u64 KK) p) && acqOk E I (on E I 1 (.int .u64 0) p) | none => false
noncomputable def waitOk (E : Env) (I : WgIds) : Bool := match enterA E I.wait [.ptr 0 0] false with | some f => ldOk E I (toStop E I 200 f [] 0) | none => false
section
variable {P : Program} {E : Env} {I : WgIds} {ty : TypeId} {Wg cp : Nat} {ι : Nm} {c : Frame} {cs : List Frame}
structure Tabs (P : Program) (E : Env) (I : WgIds) : Prop where
  F : Fits P E
  FF : FitsF P E
  FX : FitsX P E
  FW : FitsW P I
theorem toStop_ok (X : Tabs P E I) (hι : ι 0 = some (Wg, cp)) {Stop : Nat → Goroutine → Prop} : ∀ (n : Nat) (f : AF) (k : List SK) (d : Nat) (g : Goroutine), TAt ι c cs f k g →
    (∀ g', TAt ι c cs (toStop E I n f k d).1 (toStop E I n f k d).2.1 g' → Stop (toStop E I n f k d).2.2 g') → MW P ty Wg Stop n d g
  | 0, f, k, d, g, H, hS => hS g H
  | n + 1, f, k, d, g, H, hS => by
    have e : toStop E I (n + 1) f k d = (match tstep E I f k d with | .go f' k' d' => toStop E I n f' k' d' | _ => (f, k, d)) := rfl
    cases ht : tstep E I f k d with
    | go f' k' d' =>
      rw [ht] at e
      simp only at e
      rw [e] at hS
      refine .inr ⟨?_, fun w hw => ?_⟩
      · obtain ⟨fr, frs, rfl, _⟩ := H; rfl
      · obtain ⟨g', es, h1, h2, h3, h4⟩ := tstep_ok X.F X.FF X.FX X.FW hι H ht hw
        refine ⟨g', es, h1, h2, ?_⟩
        rw [h3]
        exact toStop_ok X hι n f' k' d' g' h4 hS
    | _ => rw [ht] at e; simp only at e; rw [e] at hS; exact .inl (hS g H)
theorem at_ext (X : Tabs P E I) {s : TS} {d : Nat} {g0 : FuncId} {ok : List AV → Bool} {p : AF × Option Tmp × List SK} (e : stopExt E I s d g0 ok = some p) {g : Goroutine} (H : TAt ι c cs s.1 s.2.1 g) :
    s.2.2 = d ∧ ∃ args, ok args = true ∧ ∃ fr frs vs, g = G fr (frs ++ c :: cs) ∧ RVs ι args vs.toList ∧ (∀ v u, RV ι v u → TAt ι c cs (resume p.1 p.2.1 v) p.2.2 (G (fr.finish u) (frs ++ c :: cs))) ∧
      ∀ w, CallsNow P true fr (frs ++ c :: cs) w g0 vs (fun u => fr.finish u) ∧ (∀ w2 es, (callFunc g0 vs).runT P w #[] = (.halt .blocked w2, es) → stepG P true (G fr (frs ++ c :: cs)) w = .go { G fr (frs ++ c :: cs) with status := .blocked } w2 #[]) := by
  obtain ⟨f, k, d'⟩ := s
  obtain ⟨fr, frs, rfl, R, HS⟩ := H
  unfold stopExt at e
  simp only at e R HS
  split at e
  · rename_i f1 dst g' args k1 ht
    cases hc : (Nat.beq d' d && (Nat.beq g' g0 && ok args)) with
    | false => rw [hc] at e; cases e
    | true =>
      rw [hc] at e
      cases e
      simp only [Bool.and_eq_true] at hc
      obtain ⟨hd, hg, hok⟩ := hc
      have hd := Nat.eq_of_beq_eq_true hd
      have hg := Nat.eq_of_beq_eq_true hg
      subst hg
      unfold tstep at ht
      split at ht
      · cases ht
      · rename_i f2 dst2 g2 args2 hs
        obtain ⟨h1, h1m, vs, h2, h3⟩ := tame_ok (main := true) (cs := frs ++ c :: cs) X.F X.FF R hs
        have key : f2 = f1 ∧ dst2 = dst ∧ g2 = g' ∧ args2 = args ∧ k1 = k := by
          split at ht
          · unfold enterR at ht; split at ht <;> cases ht
          · unfold extT at ht
            split at ht
            · cases ht
            · cases hz : Nat.beq d' 0 <;> rw [hz] at ht <;> cases ht
            · cases ht
            · cases hz : (Nat.beq g2 I.wrt && isP01 args2) with
              | true => simp only [hz] at ht; cases ht
              | false => simp only [hz] at ht; cases ht; exact ⟨rfl, rfl, rfl, rfl, rfl⟩
          · cases ht
        obtain ⟨rfl, rfl, rfl, rfl, rfl⟩ := key
        exact ⟨hd, args2, hok, fr, frs, vs, rfl, h2, fun v u hv => ⟨_, frs, rfl, h1 v u hv, HS⟩, fun w => ⟨(h3 w).2.1, (h3 w).2.2⟩⟩
      · rename_i f2 g2 args2 hs
        split at ht
        · unfold enterR at ht; split at ht <;> cases ht
        · cases hz : (Nat.beq d' 0 || !args2.isEmpty) <;> rw [hz] at ht <;> cases ht
        · cases ht
      · rename_i f2 dst2 id off hs
        cases hz : (Nat.beq id 0 && Nat.blt off 2) <;> rw [hz] at ht <;> cases ht
      · rename_i v hs
        split at ht
        · cases hz : f.x.deferred <;> rw [hz] at ht <;> cases ht
        · cases hz : f.x.deferred <;> rw [hz] at ht <;> cases ht
        · cases hz : f.x.deferred <;> rw [hz] at ht <;> cases ht
      · cases ht
  · cases e
theorem on_ok (X : Tabs P E I) (hι : ι 0 = some (Wg, cp)) {Stop : Nat → Goroutine → Prop} {d : Nat} {v : AV} {p : AF × Option Tmp × List SK} {g : Goroutine} (H : TAt ι c cs (resume p.1 p.2.1 v) p.2.2 g)
    (hS : ∀ g', TAt ι c cs (on E I d v p).1 (on E I d v p).2.1 g' → Stop (on E I d v p).2.2 g') : MW P ty Wg Stop 200 d g := toStop_ok X hι 200 _ _ d g H hS
theorem isP00_inv {args : List AV} (h : isP00 args = true) : args = [.ptr 0 0] := by
  unfold isP00 at h
  split at h
  · rfl
  · cases h
def FinAt (P : Program) (ty : TypeId) (Wg : Nat) (c : Frame) (cs : List Frame) (g : Goroutine) : Prop := ∃ n, MW P ty Wg (fun d g => d = 0 ∧ g = G (c.finish (.tuple #[])) cs) n 0 g
theorem fin_ok (X : Tabs P E I) {s : TS} (h : finOk E I s = true) {g : Goroutine} (H : TAt ι c cs s.1 s.2.1 g) : s.2.2 = 0 ∧ MW P ty Wg (fun d g => d = 0 ∧ g = G (c.finish (.tuple #[])) cs) 1 0 g := by
  obtain ⟨f, k, d'⟩ := s
  obtain ⟨fr, frs, rfl, R, HS⟩ := H
  unfold finOk at h
  simp only at h R HS
  split at h
  · rename_i ht
    have hd := Nat.eq_of_beq_eq_true h
    refine ⟨hd, .inr ⟨rfl, fun w _ => ?_⟩⟩
    unfold tstep at ht
    split at ht
    · cases ht
    · rename_i f2 dst2 g2 args2 hs
      split at ht
      · unfold enterR at ht; split at ht <;> cases ht
      · unfold extT at ht
        split at ht
        · cases ht
        · cases hz : Nat.beq d' 0 <;> rw [hz] at ht <;> cases ht
        · cases ht
        · cases hz : (Nat.beq g2 I.wrt && isP01 args2) <;> simp only [hz] at ht <;> cases ht
      · cases ht
    · rename_i f2 g2 args2 hs
      split at ht
      · unfold enterR at ht; split at ht <;> cases ht
      · cases hz : (Nat.beq d' 0 || !args2.isEmpty) <;> rw [hz] at ht <;> cases ht
      · cases ht
    · rename_i f2 dst2 id off hs
      cases hz : (Nat.beq id 0 && Nat.blt off 2) <;> rw [hz] at ht <;> cases ht
    · rename_i v hs
      obtain ⟨u, h1, h2⟩ := tame_ok (main := true) (cs := frs ++ c :: cs) X.F X.FF R hs
      split at ht
      · cases hz : f.x.deferred <;> rw [hz] at ht <;> cases ht
      · cases hz : f.x.deferred <;> rw [hz] at ht <;> cases ht
      · cases hz : f.x.deferred with
        | true => rw [hz] at ht; cases ht
        | false =>
          rw [hz] at ht
          cases ht
          have hf : frs = [] := HS
          subst hf
          have hk : fr.kind = .normal := by rw [R.kind, hz]; rfl
          have hu : u = .tuple #[] := by
            unfold RV at h1
            obtain ⟨vs, h1, h3⟩ := h1
            have := RVs_nil_inv h3
            rw [h1]; congr 1; apply Array.toList_inj.1; rw [this]
          subst hu
          refine ⟨G (c.finish (.tuple #[])) cs, #[], ?_, by simp, rfl, rfl⟩
          rw [h2 w]
          show GStep.after #[] (doReturn P true fr (c :: cs) none (.tuple #[]) w) = _
          unfold doReturn
          simp only [hk]
          rfl
    · cases ht
  · cases h
theorem acq_ok (X : Tabs P E I) (hι : ι 0 = some (Wg, cp)) {s : TS} (h : acqOk E I s = true) {g : Goroutine} (H : TAt ι c cs s.1 s.2.1 g) : s.2.2 = 0 ∧ AtAcq P Wg (FinAt P ty Wg c cs) g := by
  unfold acqOk at h
  split at h
  · rename_i p hp
    obtain ⟨h1, args, h2, fr, frs, vs, rfl, h3, h4, h5⟩ := at_ext X hp H
    obtain rfl := isP00_inv h2
    obtain ⟨v, rfl, hv⟩ := args1 h3
    obtain rfl := RV_ptr0 hι hv
    refine ⟨h1, rfl, fun w => ⟨_, step_ext (h5 w).1 (ext_run X.FW.acq (run_marked .acquire ⟨Wg, 0, none⟩ rfl)) ⟨rfl, by simp [mkE]⟩, ?_⟩⟩
    exact ⟨200 + 1, by
      have := on_ok (ty := ty) X hι (Stop := fun d g => d = 0 ∧ MW P ty Wg (fun d g => d = 0 ∧ g = G (c.finish (.tuple #[])) cs) 1 0 g) (h4 (.tup []) (.tuple #[]) (by unfold RV; exact ⟨#[], rfl, RVs_nil⟩)) (d := 0) (fun g' hg' => fin_ok X h hg')
      exact mw_then (fun d g hd => by obtain ⟨rfl, hm⟩ := hd; exact hm) this⟩
  · cases h
where
  mw_then {Stop Stop' : Nat → Goroutine → Prop} {m : Nat} (hm : ∀ d g, Stop' d g → MW P ty Wg Stop m d g) : ∀ {n d : Nat} {g : Goroutine}, MW P ty Wg Stop' n d g → MW P ty Wg Stop (n + m) d g
  | 0, d, g, h => by rw [Nat.zero_add]; exact hm d g h
  | n + 1, d, g, h => by
    rcases h with h | ⟨h1, h2⟩
    · have := hm d g h
      exact mw_more (n + 1) this
    · rw [Nat.add_right_comm]
      refine .inr ⟨h1, fun w hw => ?_⟩
      obtain ⟨g', es, a1, a2, a3⟩ := h2 w hw
      exact ⟨g', es, a1, a2, mw_then hm a3⟩
  mw_more {Stop : Nat → Goroutine → Prop} : ∀ (j : Nat) {m d : Nat} {g : Goroutine}, MW P ty Wg Stop m d g → MW P ty Wg Stop (j + m) d g
  | 0, m, d, g, h => by rw [Nat.zero_add]; exact h
  | j + 1, m, d, g, h => by
    have := mw_more j h
    rw [Nat.add_right_comm]
    exact mw_succ this
  mw_succ {Stop : Nat → Goroutine → Prop} : ∀ {m d : Nat} {g : Goroutine}, MW P ty Wg Stop m d g → MW P ty Wg Stop (m + 1) d g
  | 0, d, g, h => .inl h
  | m + 1, d, g, h => by
    rcases h with h | ⟨h1, h2⟩
    · exact .inl h
    · refine .inr ⟨h1, fun w hw => ?_⟩
      obtain ⟨g', es, a1, a2, a3⟩ := h2 w hw
      exact ⟨g', es, a1, a2, mw_succ a3⟩
theorem ld0_ok (X : Tabs P E I) (hι : ι 0 = some (Wg, cp)) {s : TS} (h : ld0Ok E I s = true) {g : Goroutine} (H : TAt ι c cs s.1 s.2.1 g) : s.2.2 = 1 ∧ AtLd0 P ty Wg (FinAt P ty Wg c cs) g := by
  unfold ld0Ok at h
  split at h
  · rename_i p hp
    obtain ⟨h1, args, h2, fr, frs, vs, rfl, h3, h4, h5⟩ := at_ext X hp H
    obtain rfl := isP00_inv h2
    obtain ⟨v, rfl, hv⟩ := args1 h3
    obtain rfl := RV_ptr0 hι hv
    refine ⟨h1, rfl, fun w sm hw => ⟨_, step_ext (h5 w).1 (ext_run X.FW.load (run_loadT hw.cellSt)) ⟨rfl, by simp [rdA]⟩, 200, ?_⟩⟩
    exact on_ok X hι (h4 (.int .u64 0) (.int .u64 0) (by unfold RV; rfl)) fun g' hg' => acq_ok X hι h hg'
  · cases h
theorem sem_ok (X : Tabs P E I) (hι : ι 0 = some (Wg, cp)) {s : TS} (h : semOk E I s = true) {g : Goroutine} (H : TAt ι c cs s.1 s.2.1 g) : s.2.2 = 1 ∧ AtSem P ty Wg (FinAt P ty Wg c cs) g := by
  unfold semOk at h
  split at h
  · rename_i p hp
    obtain ⟨h1, args, h2, fr, frs, vs, rfl, h3, h4, h5⟩ := at_ext X hp H
    have ha : ∃ a, args = [.ptr 0 1, a] := by
      unfold isSem at h2
      split at h2
      · exact ⟨_, rfl⟩
      · cases h2
    obtain ⟨a, rfl⟩ := ha
    obtain ⟨v, r, hvs, hv, _⟩ := RVs_cons_inv h3
    obtain rfl := RV_ptr0 hι hv
    have hv0 : vs[0]? = some (.pointer (some ⟨Wg, 1, none⟩)) := by rw [← Array.getElem?_toList, hvs]; rfl
    refine ⟨h1, rfl, rfl, fun w st hw => ?_, fun w hw => ⟨G (fr.finish (.tuple #[])) (frs ++ c :: cs), ?_, 200, ?_⟩⟩
    · obtain ⟨es, hes⟩ := ext_halt X.FW.semacq (run_semblock (P := P) hv0 hw.cellSm)
      exact (h5 w).2 w es hes
    · have hr := (h5 w).1 _ _ _ (ext_run X.FW.semacq (run_semacquire hv0 hw.cellSm (hw.thaw 1) (by decide)))
      rw [seen_sync _ (by
        intro x hx
        simp only [List.mem_cons, List.not_mem_nil, or_false] at hx
        rcases hx with rfl | rfl | rfl | rfl <;> exact ⟨rfl, by simp [mkE, rdA, wrA]⟩)] at hr
      exact hr
    · exact on_ok X hι (h4 (.tup []) (.tuple #[]) (by unfold RV; exact ⟨#[], rfl, RVs_nil⟩)) fun g' hg' => ld0_ok X hι h hg'
  · cases h
theorem cas_ok (X : Tabs P E I) (hι : ι 0 = some (Wg, cp)) {s : TS} (h : casOk E I s = true) {g : Goroutine} (H : TAt ι c cs s.1 s.2.1 g) : s.2.2 = 1 ∧ AtCas P ty Wg (FinAt P ty Wg c cs) g := by
  unfold casOk at h
  split at h
  · rename_i p hp
    obtain ⟨h1, args, h2, fr, frs, vs, rfl, h3, h4, h5⟩ := at_ext X hp H
    rw [Bool.and_eq_true] at h
    have ha : args = [.ptr 0 0, .int .u64 KK, .int .u64 (KK + 1)] := by
      unfold isCas at h2
      split at h2
      · rw [Bool.and_eq_true, beq_iff_eq, beq_iff_eq] at h2
        rw [h2.1, h2.2]
      · cases h2
    subst ha
    obtain ⟨v, r, hvs, hv, hr⟩ := RVs_cons_inv h3
    obtain ⟨v2, r2, hr', hv2, hr2⟩ := RVs_cons_inv hr
    obtain ⟨v3, r3, hr3', hv3, hr3⟩ := RVs_cons_inv hr2
    rw [RVs_nil_inv hr3] at hr3'
    obtain rfl := RV_ptr0 hι hv
    unfold RV at hv2 hv3
    subst hv2; subst hv3
    have hvs : vs = #[.pointer (some ⟨Wg, 0, none⟩), .int .u64 KK, .int .u64 (KK + 1)] := by apply Array.toList_inj.1; rw [hvs, hr', hr3']
    subst hvs
    refine ⟨h1, rfl, fun w hw => ⟨G (fr.finish (.bool true)) (frs ++ c :: cs), ?_, 200, ?_⟩, fun w hw => ⟨G (fr.finish (.bool false)) (frs ++ c :: cs), ?_, 200, ?_⟩⟩
    · have hr := (h5 w).1 _ _ _ (ext_run X.FW.cas (run_cas_hit hw.cellSt (hw.thaw 0)))
      rw [seen_sync _ (by
        intro x hx
        simp only [List.mem_cons, List.not_mem_nil, or_false] at hx
        rcases hx with rfl | rfl <;> exact ⟨rfl, by simp [rdA, wrA]⟩)] at hr
      exact hr
    · exact on_ok X hι (h4 (.bool true) (.bool true) (by unfold RV; rfl)) fun g' hg' => sem_ok X hι h.1 hg'
    · exact step_ext (h5 w).1 (ext_run X.FW.cas (run_cas_miss hw.cellSt (hw.thaw 0) (by decide))) ⟨rfl, by simp [rdA]⟩
    · exact on_ok X hι (h4 (.bool false) (.bool false) (by unfold RV; rfl)) fun g' hg' => ld0_ok X hι h.2 hg'
  · cases h
theorem ld_ok (X : Tabs P E I) (hι : ι 0 = some (Wg, cp)) {s : TS} (h : ldOk E I s = true) {g : Goroutine} (H : TAt ι c cs s.1 s.2.1 g) : s.2.2 = 1 ∧ AtLd P ty Wg (FinAt P ty Wg c cs) g := by
  unfold ldOk at h
  split at h
  · rename_i p hp
    obtain ⟨h1, args, h2, fr, frs, vs, rfl, h3, h4, h5⟩ := at_ext X hp H
    obtain rfl := isP00_inv h2
    obtain ⟨v, rfl, hv⟩ := args1 h3
    obtain rfl := RV_ptr0 hι hv
    rw [Bool.and_eq_true] at h
    refine ⟨h1, rfl, fun w hw => ⟨_, step_ext (h5 w).1 (ext_run X.FW.load (run_loadT hw.cellSt)) ⟨rfl, by simp [rdA]⟩, 200, ?_⟩, fun w hw => ⟨_, step_ext (h5 w).1 (ext_run X.FW.load (run_loadT hw.cellSt)) ⟨rfl, by simp [rdA]⟩, 200, ?_⟩⟩
    · exact on_ok X hι (h4 (.int .u64 KK) (.int .u64 KK) (by unfold RV; rfl)) fun g' hg' => cas_ok X hι h.1 hg'
    · exact on_ok X hι (h4 (.int .u64 0) (.int .u64 0) (by unfold RV; rfl)) fun g' hg' => acq_ok X hι h.2 hg'
  · cases h
theorem wait_ok (X : Tabs P E I) (h : waitOk E I = true) (c : Frame) (cs : List Frame) : MLd P ty Wg (FinAt P ty Wg c cs) 0 200 (G (Frame.enter P I.wait #[.pointer (some ⟨Wg, 0, none⟩)] .normal) (c :: cs)) := by
  unfold waitOk at h
  split at h
  · rename_i f hf
    let ι : Nm := fun i => if i = 0 then some (Wg, 0) else none
    have hι : ι 0 = some (Wg, 0) := rfl
    have hv : RVs ι [.ptr 0 0] (#[.pointer (some ⟨Wg, 0, none⟩)] : Array Value).toList := RVs_cons (by unfold RV; exact ⟨_, hι, rfl⟩) RVs_nil
    have R := enter_ok X.FF hf hv (kind := .normal) rfl
    exact toStop_ok X hι 200 f [] 0 _ ⟨_, [], rfl, R, rfl⟩ fun g' hg' => ld_ok X hι h hg'
  · cases h
end
end Go.Ev
namespace Go.Ev
open Go.Conc
open Go.ConcN (sumTo sumTo_upd upd_same)
structure PastD (Shun : Loc → Prop) (B d : Nat) (t : Trace) : Prop where
  clean : ∀ said, ¬ Race said t
  known : ∀ i a, touchAt t i = some a → a.loc.isMemory = true → Knows t 0 i ∨ (Shun a.loc ∧ a.kind = .atomic)
  over : t.HandedOver
  hears : Deaf t 0 = d
  seen : ∀ op ∈ t, op.act.low B
theorem PastD.to {Shun : Loc → Prop} {B : Nat} {t : Trace} (h : PastD Shun B 0 t) : Past Shun B t := ⟨h.clean, h.known, h.over, h.hears, h.seen⟩
theorem PastD.of {Shun : Loc → Prop} {B : Nat} {t : Trace} (h : Past Shun B t) : PastD Shun B 0 t := ⟨h.clean, h.known, h.over, h.hears, h.seen⟩
theorem PastD.mono {Shun : Loc → Prop} {B B' d : Nat} {t : Trace} (h : PastD Shun B d t) (hB : B ≤ B') : PastD Shun B' d t := ⟨h.clean, h.known, h.over, h.hears, fun op hop => MemAct.low_mono hB (h.seen op hop)⟩
theorem PastD.own {Shun : Loc → Prop} {B d : Nat} {t : Trace} (h : PastD Shun B d t) {fn : FuncId} {pos : String} {es : Array Event}
    (hs : ∀ e ∈ es, ∀ x, (MemAct.ofEvent e).touch? = some x → Shun x.loc → x.kind ≠ .plain) (hl : ∀ e ∈ es, (MemAct.ofEvent e).low B) : PastD Shun B (deafBehind d es) (t ++ MemOp.ofEvents 0 fn pos es) := by
  have hu : ∀ op ∈ MemOp.ofEvents 0 fn pos es, op.g = 0 := fun op hop => by obtain ⟨e, _, rfl⟩ := Go.Conc.mem_ofEvents hop; rfl
  refine ⟨fun said => noRace_append (h.clean said) hu fun i a ha op hop b hb hc => ?_, fun i a ha hm => ?_, handedOver_app h.over fun op hop => .inl (hu op hop), by rw [Deaf_own, h.hears], seen_app h.seen fun op hop => by obtain ⟨e, he, rfl⟩ := Go.Conc.mem_ofEvents hop; exact hl e he⟩
  · rcases h.known i a ha hc.2.1 with hk | ⟨hsa, hka⟩
    · exact hk
    · obtain ⟨e, he, rfl⟩ := Go.Conc.mem_ofEvents hop
      have hkb := hs e he b hb (hc.1 ▸ hsa)
      obtain ⟨_, _, _, hcase⟩ := hc
      rw [hka] at hcase
      rcases hcase with x | x | ⟨_, x, _⟩
      · cases x
      · exact absurd x hkb
      · cases x
  · obtain ⟨x, hx, hxa⟩ := touch_of ha
    rcases getElem?_append_cases hx with ⟨_, hx'⟩ | ⟨_, hxu⟩
    · exact (h.known i a (by rw [touchAt_of hx']; exact hxa) hm).imp (·.app _) id
    · have := knows_own hx
      rw [hu x hxu] at this
      exact .inl this
theorem PastD.mute {Shun : Loc → Prop} {B d : Nat} {t : Trace} (h : PastD Shun B d t) {g : Nat} (hg : g ≠ 0) {fn : FuncId} {pos : String} {es : Array Event} (hm : ∀ e ∈ es, e.mute = true) : PastD Shun B d (t ++ MemOp.ofEvents g fn pos es) := by
  have hu : ∀ op ∈ MemOp.ofEvents g fn pos es, op.g = g := fun op hop => by obtain ⟨e, _, rfl⟩ := Go.Conc.mem_ofEvents hop; rfl
  have hn : ∀ op ∈ MemOp.ofEvents g fn pos es, op.act.touch? = none := fun op hop => by obtain ⟨e, he, rfl⟩ := Go.Conc.mem_ofEvents hop; exact touch_mute (hm e he)
  have hl : ∀ op ∈ MemOp.ofEvents g fn pos es, op.act.low B := fun op hop => by obtain ⟨e, he, rfl⟩ := Go.Conc.mem_ofEvents hop; exact low_mute (hm e he) B
  refine ⟨fun said => noRace_append (h.clean said) hu fun i a _ op hop b hb _ => (by rw [hn op hop] at hb; cases hb), fun i a ha hm => ?_, handedOver_app h.over fun op hop => .inr (hn op hop), (Deaf_other t hg _ hu).trans h.hears, seen_app h.seen hl⟩
  obtain ⟨x, hx, hxa⟩ := touch_of ha
  rcases getElem?_append_cases hx with ⟨_, hx'⟩ | ⟨_, hxu⟩
  · exact (h.known i a (by rw [touchAt_of hx']; exact hxa) hm).imp (·.app _) id
  · rw [hn x hxu] at hxa; cases hxa
theorem touch_cases {e : Event} {x : Touch} (h : (MemAct.ofEvent e).touch? = some x) : (∃ l wr sy, e = ⟨l, wr, sy⟩ ∧ x.loc = l ∧ (∀ m, l ≠ .mark m)) ∨ (∃ a wr sy, e = ⟨.mark (.read a), wr, sy⟩ ∧ x.loc = .cell a ∧ x.kind = .said) ∨ (∃ a wr sy, e = ⟨.mark (.write a), wr, sy⟩ ∧ x.loc = .cell a ∧ x.kind = .said) := by
  obtain ⟨loc, wr, sy⟩ := e
  cases loc with
  | mark m => cases m <;> simp_all [MemAct.ofEvent, MemAct.touch?] <;> (first | (subst h; exact .inl ⟨_, _, rfl⟩) | (subst h; exact ⟨rfl, rfl⟩) | (subst h; simp))
  | obj c =>
    left
    refine ⟨_, _, _, rfl, ?_, fun m => by simp⟩
    cases wr <;> cases sy <;> simp [MemAct.ofEvent, MemAct.touch?] at h <;> (subst h; rfl)
  | cell a => left; refine ⟨_, _, _, rfl, ?_, fun m => by simp⟩; simp [MemAct.ofEvent, MemAct.touch?] at h; subst h; rfl
  | output => left; refine ⟨_, _, _, rfl, ?_, fun m => by simp⟩; simp [MemAct.ofEvent, MemAct.touch?] at h; subst h; rfl
  | goroutines => left; refine ⟨_, _, _, rfl, ?_, fun m => by simp⟩; simp [MemAct.ofEvent, MemAct.touch?] at h; subst h; rfl
def blockOf : Loc → Option Nat
  | .cell a => some a.block
  | .obj r => some r
  | _ => none
theorem evG_touch {K : Ctx} {n : Nat} {e : Event} (h : EvG K n e) {x : Touch} (hx : (MemAct.ofEvent e).touch? = some x) : ∃ b, blockOf x.loc = some b ∧ (K.base ≤ b ∧ K.own b ∨ K.peek ∧ b < K.base) ∧ b < n := by
  rcases h with h | rfl | rfl
  · rcases touch_cases hx with ⟨l, wr, sy, rfl, hl, hm⟩ | ⟨a, wr, sy, rfl, hl, _⟩ | ⟨a, wr, sy, rfl, hl, _⟩
    · rw [hl]
      cases l with
      | cell a => exact ⟨_, rfl, h.1.imp id fun h => ⟨h.1, h.2.1⟩, h.2⟩
      | obj r => exact ⟨_, rfl, .inl ⟨h.1, h.2.1⟩, h.2.2.1⟩
      | mark m => exact absurd rfl (hm m)
      | output => exact h.elim
      | goroutines => exact h.elim
    · rw [hl]; exact ⟨_, rfl, .inl ⟨h.1, h.2.1⟩, h.2.2⟩
    · rw [hl]; exact ⟨_, rfl, .inl ⟨h.1, h.2.1⟩, h.2.2⟩
  · simp [MemAct.ofEvent, MemAct.touch?] at hx
  · simp [MemAct.ofEvent, MemAct.touch?] at hx
theorem evG_low {K : Ctx} {n : Nat} {e : Event} (h : EvG K n e) : (MemAct.ofEvent e).low n := by
  rcases h with h | rfl | rfl
  · obtain ⟨loc, wr, sy⟩ := e
    cases loc with
    | cell a => exact h.2
    | obj r => cases wr <;> cases sy <;> exact h.2.2.1
    | mark m => cases m <;> first | exact h.2.2 | trivial
    | output => exact h.elim
    | goroutines => exact h.elim
  · trivial
  · trivial
def Away (K : Ctx) (Shun : Loc → Prop) : Prop := ∀ l b, Shun l → blockOf l = some b → ¬ (K.base ≤ b ∧ K.own b) ∧ ¬ (K.peek ∧ b < K.base)
section
variable {P : Program} {K : Ctx} {Shun : Loc → Prop} {Stop : Nat → Goroutine → World → Prop}
def Reaches (P : Program) (gs : Array Goroutine) (w : World) (sl : Option (Nat × Nat)) (t : Trace) (Q : Array Goroutine → World → Option (Nat × Nat) → Trace → Prop) : Prop :=
  ∃ N gs' w' sl' t', runNT P N (crowd gs w sl) t = (.next (crowd gs' w' sl'), t') ∧ Q gs' w' sl' t'
theorem Reaches.here {gs : Array Goroutine} {w : World} {sl : Option (Nat × Nat)} {t : Trace} {Q : Array Goroutine → World → Option (Nat × Nat) → Trace → Prop} (h : Q gs w sl t) : Reaches P gs w sl t Q := ⟨0, gs, w, sl, t, rfl, h⟩
theorem Reaches.step {gs gs1 : Array Goroutine} {w w1 : World} {sl sl1 : Option (Nat × Nat)} {t : Trace} {ops : Array MemOp} {Q : Array Goroutine → World → Option (Nat × Nat) → Trace → Prop} (h1 : Go.stepT P (crowd gs w sl) = (.next (crowd gs1 w1 sl1), ops)) (h : Reaches P gs1 w1 sl1 (t ++ ops) Q) : Reaches P gs w sl t Q := by
  obtain ⟨N, gs', w', sl', t', hr, hq⟩ := h
  exact ⟨N + 1, gs', w', sl', t', by simp only [runNT, h1]; exact hr, hq⟩
theorem Reaches.then {gs : Array Goroutine} {w : World} {sl : Option (Nat × Nat)} {t : Trace} {Q Q' : Array Goroutine → World → Option (Nat × Nat) → Trace → Prop} (h : Reaches P gs w sl t Q) (hQ : ∀ gs w sl t, Q gs w sl t → Reaches P gs w sl t Q') : Reaches P gs w sl t Q' := by
  obtain ⟨N, gs', w', sl', t', hr, hq⟩ := h
  obtain ⟨M, gs2, w2, sl2, t2, hr2, hq2⟩ := hQ _ _ _ _ hq
  exact ⟨N + M, gs2, w2, sl2, t2, by rw [runNT_add, hr]; exact hr2, hq2⟩
theorem leaver_step {gs : Array Goroutine} {w : World} {sl' : Option (Nat × Nat)} {t : Trace} {q : Nat → Nat} (hL : Leavers P t gs q) {a : Goroutine} (h0 : gs[0]? = some a) (hrun : a.status = .running) {i d : Nat} {g : Goroutine} (hpos : 0 < i) (hi : gs[i]? = some g) (hg : g.status = .running) :
    ∃ k g' es, q i = k + 1 ∧ runT P (crowd gs (w.at d) sl') i = (.next (crowd ((gs.map (woken P g g' (w.at d))).setIfInBounds i g') (w.at d) sl'), MemOp.ofEvents i g.frame.fn g.frame.place es) ∧ (∀ e ∈ es, e.mute = true) ∧
      ((gs.map (woken P g g' (w.at d))).setIfInBounds i g').size = gs.size ∧ ((gs.map (woken P g g' (w.at d))).setIfInBounds i g')[0]? = some a ∧ Leavers P (t ++ MemOp.ofEvents i g.frame.fn g.frame.place es) ((gs.map (woken P g g' (w.at d))).setIfInBounds i g') (ConcN.upd q i k) ∧
      sumTo gs.size (ConcN.upd q i k) < sumTo gs.size q := by
  have hq := hL.old i g hpos hi
  have hi0 : (i == 0) = false := by simp; omega
  have hlt : i < gs.size := (Array.getElem?_eq_some_iff.1 hi).1
  cases hqi : q i with
  | zero => rw [hqi] at hq; rw [hq.1] at hg; cases hg
  | succ k =>
    rw [hqi] at hq
    rcases hq with ⟨hf, _⟩ | ⟨_, g', es, hm, hstp, hq'⟩
    · rw [hf] at hg; cases hg
    have hrunT := runT_crowd_go (P := P) (sl := sl') (i := i) hi (by rw [hi0]; exact hstp (w.at d))
    have hsum : sumTo gs.size (ConcN.upd q i k) + (k + 1) = sumTo gs.size q + k := by
      have := sumTo_upd q k id hlt
      simpa [hqi] using this
    refine ⟨k, g', es, rfl, hrunT, hm, by simp, ?_, ⟨fun j x hj hx => ?_, fun j hj => ?_⟩, by omega⟩
    · have hne : i ≠ 0 := by omega
      rw [Array.getElem?_setIfInBounds_ne hne, Array.getElem?_map, h0]
      simp [woken_run hrun]
    · by_cases hji : i = j
      · subst hji
        rw [Array.getElem?_setIfInBounds_self_of_lt (by simpa using hlt)] at hx
        obtain rfl := Option.some.inj hx
        rw [upd_same, Deaf_own]
        exact hq'
      · rw [Array.getElem?_setIfInBounds_ne hji, Array.getElem?_map] at hx
        obtain ⟨y, hy, rfl⟩ := Option.map_eq_some_iff.1 hx
        have hqj := hL.old j y hj hy
        rw [woken_quitsD hqj, ConcN.upd_ne q k (Ne.symm hji), Deaf_other t hji _ (fun op hop => by obtain ⟨e, _, rfl⟩ := Go.Conc.mem_ofEvents hop; rfl)]
        exact hqj
    · rw [Deaf_other t (g' := i) (by simp at hj; omega) _ (fun op hop => by obtain ⟨e, _, rfl⟩ := Go.Conc.mem_ofEvents hop; rfl)]
      exact hL.above j (by simpa using hj)
theorem leavers_own {gs : Array Goroutine} {t : Trace} {q : Nat → Nat} (hL : Leavers P t gs q) {a a' : Goroutine} {w' : World} {fn : FuncId} {pos : String} {es : Array Event} (h0 : gs[0]? = some a) : Leavers P (t ++ MemOp.ofEvents 0 fn pos es) ((gs.map (woken P a a' w')).setIfInBounds 0 a') q := by
  refine ⟨fun j x hj hx => ?_, fun j hj => ?_⟩
  · have hne : 0 ≠ j := by omega
    rw [Array.getElem?_setIfInBounds_ne hne, Array.getElem?_map] at hx
    obtain ⟨y, hy, rfl⟩ := Option.map_eq_some_iff.1 hx
    have hq := hL.old j y hj hy
    rw [woken_quitsD hq, Deaf_other t (by omega) _ (fun op hop => by obtain ⟨e, _, rfl⟩ := Go.Conc.mem_ofEvents hop; rfl)]
    exact hq
  · have hlt : 0 < gs.size := (Array.getElem?_eq_some_iff.1 h0).1
    rw [Deaf_other t (g' := 0) (by simp at hj; omega) _ (fun op hop => by obtain ⟨e, _, rfl⟩ := Go.Conc.mem_ofEvents hop; rfl)]
    exact hL.above j (by simpa using hj)
theorem solo_awake {gs : Array Goroutine} {t : Trace} {q : Nat → Nat} (hL : Leavers P t gs q) {a : Goroutine} (h0 : gs[0]? = some a) (hrun : a.status = .running) : ∀ g ∈ gs, awake g := by
  intro g hg
  obtain ⟨i, hi, rfl⟩ := Array.mem_iff_getElem.1 hg
  rcases Nat.eq_zero_or_pos i with rfl | hpos
  · have : gs[0] = a := by simpa [Array.getElem?_eq_getElem hi] using h0
    rw [this]; exact awake_of (.inl hrun)
  · exact awake_of ((hL.old i _ hpos (Array.getElem?_eq_getElem hi)).status.elim .inl fun x => .inr (.inr x))
def Frm (P : Program) (Shun : Loc → Prop) (n : Nat) (T : Nat → Goroutine → World → Prop) : Array Goroutine → World → Option (Nat × Nat) → Trace → Prop := fun gs w _ t =>
  ∃ a d q, gs.size = n ∧ gs[0]? = some a ∧ T d a w ∧ Leavers P t gs q ∧ PastD Shun w.heap.size d t
theorem walk_past (hA : Away K Shun) {d : Nat} {a : Goroutine} {w : World} (hW : Walk P true K Stop d a w) : ∀ (w₁ : World), Rely K w w₁ → ∀ (gs : Array Goroutine) (sl : Option (Nat × Nat)) (t : Trace) (q : Nat → Nat), gs[0]? = some a → Leavers P t gs q → PastD Shun w₁.heap.size d t →
    Reaches P gs w₁ sl t (Frm P Shun gs.size Stop) := by
  induction hW with
  | stop h => exact fun w₁ hr gs sl t q h0 hL hP => .here ⟨_, _, q, rfl, h0, h w₁ hr, hL, hP⟩
  | @step d a w g' w' es hrun hst _ ih =>
    have inner : ∀ (S : Nat) (w₁ : World), Rely K w w₁ → ∀ (gs : Array Goroutine) (sl : Option (Nat × Nat)) (t : Trace) (q : Nat → Nat), sumTo gs.size q ≤ S → gs[0]? = some a → Leavers P t gs q → PastD Shun w₁.heap.size d t → Reaches P gs w₁ sl t (Frm P Shun gs.size Stop) := by
      intro S
      induction S using Nat.strongRecOn with
      | ind S ihS =>
        intro w₁ hr gs sl t q hS h0 hL hP
        obtain ⟨i, g, dr, sl', hi, hg, hpk⟩ := crowd_pick (P := P) (w := w₁) (sl := sl) (solo_awake hL h0 hrun) ⟨0, a, h0, hrun⟩
        have hr' : Rely K w (w₁.at dr) := hr.trans (Rely.drawn w₁ dr)
        rcases Nat.eq_zero_or_pos i with rfl | hpos
        · obtain rfl : g = a := by rw [h0] at hi; exact (Option.some.inj hi).symm
          obtain ⟨h1, h2⟩ := hst (w₁.at dr) hr'
          have hrunT := runT_crowd_go (P := P) (sl := sl') (i := 0) hi (show stepG P (0 == 0) g (w₁.at dr) = _ from h1)
          have hsz : ((gs.map (woken P g (g' (w₁.at dr)) (w' (w₁.at dr)))).setIfInBounds 0 (g' (w₁.at dr))).size = gs.size := by simp
          have hlt : 0 < gs.size := (Array.getElem?_eq_some_iff.1 h0).1
          have hB : (w₁.at dr).heap.size ≤ (w' (w₁.at dr)).heap.size := h2.size
          have := ih (w₁.at dr) hr' _ (Rely.refl _) ((gs.map (woken P g (g' (w₁.at dr)) (w' (w₁.at dr)))).setIfInBounds 0 (g' (w₁.at dr))) sl' _ q (by simp [hlt]) (leavers_own hL h0)
            ((hP.mono hB).own (fn := g.frame.fn) (pos := g.frame.place) (fun e he x hx hsx => by
              obtain ⟨b, hb, hb1, _⟩ := evG_touch (h2.evs e he) hx
              exact absurd hb1 fun h => h.elim (hA _ b hsx hb).1 (hA _ b hsx hb).2) (fun e he => evG_low (h2.evs e he)))
          rw [hsz] at this
          exact Reaches.step (by rw [hpk]; exact hrunT) this
        · obtain ⟨k, g1, es1, hqi, hrunT, hm, hsz, h0', hL', hlt⟩ := leaver_step (w := w₁) (sl' := sl') (d := dr) hL h0 hrun hpos hi hg
          have := ihS (sumTo gs.size (ConcN.upd q i k)) (by omega) (w₁.at dr) hr' _ sl' _ (ConcN.upd q i k) (by rw [hsz]; exact Nat.le_refl _) h0' hL' (hP.mute (by omega) hm)
          rw [hsz] at this
          exact Reaches.step (by rw [hpk]; exact hrunT) this
    exact fun w₁ hr gs sl t q h0 hL hP => inner _ w₁ hr gs sl t q (Nat.le_refl _) h0 hL hP
end
end Go.Ev
namespace Go.Ev
open Go.Conc
open Go.ConcX (stA smA OfWg)
open Go.ConcN (RelBy)
structure PhT (Shun : Loc → Prop) (Wg j B d0 d1 : Nat) (rel : Option Nat) (t : Trace) : Prop where
  clean : ∀ said, ¬ Race said t
  k0 : ∀ i a, touchAt t i = some a → a.loc.isMemory = true → Knows t 0 i ∨ (Shun a.loc ∧ a.kind = .atomic) ∨ t.g? i = some j
  k1 : ∀ i a, touchAt t i = some a → a.loc.isMemory = true → Knows t j i ∨ (Shun a.loc ∧ a.kind = .atomic) ∨ (OfWg Wg a.loc ∧ a.kind ≠ .plain)
  wk : ∀ i a, touchAt t i = some a → t.g? i = some j → OfWg Wg a.loc → a.kind = .atomic ∨ Knows t 0 i
  over : ∀ i g, t.g? i = some g → g ≠ 0 → g ≠ j → t.counts i → ∃ k, t.g? k = some 0 ∧ HappensBefore t i k
  low : ∀ op ∈ t, op.act.low B
  deaf0 : Deaf t 0 = d0
  deaf1 : Deaf t j = d1
  rel : ∀ r, rel = some r → RelBy (stA Wg) t j r ∧ (∀ i, r < i → t.act? i ≠ some (.mark (.release (stA Wg)))) ∧ (∀ i a, r < i → t.g? i = some j → touchAt t i = some a → OfWg Wg a.loc)
section
variable {Shun : Loc → Prop} {Wg j B d0 d1 : Nat} {rel : Option Nat} {t : Trace}
theorem g?_of {t : Trace} {i : Nat} {op : MemOp} (h : t[i]? = some op) : t.g? i = some op.g := by simp [Trace.g?, h]
theorem g?_lt {t : Trace} {i g : Nat} (h : t.g? i = some g) : i < t.size := by
  obtain ⟨op, ho, _⟩ := Option.map_eq_some_iff.1 h
  exact lt_size_of_getElem? ho
theorem counts_touch {t : Trace} {i : Nat} (h : t.counts i) : ∃ a, touchAt t i = some a ∧ a.loc.isMemory = true := by
  obtain ⟨x, hx, hm, _⟩ := h
  exact ⟨x, hx, hm⟩
theorem over_app {u : Trace} (h : ∀ i g, t.g? i = some g → g ≠ 0 → g ≠ j → t.counts i → ∃ k, t.g? k = some 0 ∧ HappensBefore t i k) (hu : ∀ op ∈ u, op.g = 0 ∨ op.g = j ∨ op.act.touch? = none) :
    ∀ i g, (t ++ u).g? i = some g → g ≠ 0 → g ≠ j → (t ++ u).counts i → ∃ k, (t ++ u).g? k = some 0 ∧ HappensBefore (t ++ u) i k := by
  intro i g hg h0 hj hc
  obtain ⟨x, hx, _⟩ := hc
  obtain ⟨op, hop, hox⟩ := touch_of hx
  rcases getElem?_append_cases hop with ⟨hi, hop'⟩ | ⟨_, hopu⟩
  · obtain ⟨k, hk, hb⟩ := h i g (by rw [← hg]; simp [Trace.g?, getElem?_append_old hi]) h0 hj ((counts_old hi).1 ⟨x, hx, ‹_›⟩)
    have hkl := g?_lt hk
    exact ⟨k, by rw [g?_old hkl]; exact hk, hb_app u hb⟩
  · have hgo : op.g = g := by rw [g?_of hop] at hg; exact Option.some.inj hg
    rcases hu op hopu with h1 | h1 | h1
    · exact absurd (hgo.symm.trans h1) h0
    · exact absurd (hgo.symm.trans h1) hj
    · rw [h1] at hox; cases hox
theorem rel_other {u : Trace} {g : Nat} (h : ∀ r, rel = some r → RelBy (stA Wg) t j r ∧ (∀ i, r < i → t.act? i ≠ some (.mark (.release (stA Wg)))) ∧ (∀ i a, r < i → t.g? i = some j → touchAt t i = some a → OfWg Wg a.loc))
    (hu : ∀ op ∈ u, op.g = g) (hg : g ≠ j) (hr : ∀ op ∈ u, op.act ≠ .mark (.release (stA Wg))) :
    ∀ r, rel = some r → RelBy (stA Wg) (t ++ u) j r ∧ (∀ i, r < i → (t ++ u).act? i ≠ some (.mark (.release (stA Wg)))) ∧ (∀ i a, r < i → (t ++ u).g? i = some j → touchAt (t ++ u) i = some a → OfWg Wg a.loc) := by
  intro r hr'
  obtain ⟨h1, h2, h3⟩ := h r hr'
  refine ⟨h1.appOther hu hg, fun i hi ha => ?_, fun i a hi hgi ha => ?_⟩
  · obtain ⟨op, ho, hoa⟩ := Option.map_eq_some_iff.1 ha
    rcases getElem?_append_cases ho with ⟨hl, ho'⟩ | ⟨_, hou⟩
    · exact h2 i hi (by rw [act?_of ho', hoa])
    · exact hr op hou hoa
  · obtain ⟨op, ho, hoa⟩ := touch_of ha
    rcases getElem?_append_cases ho with ⟨hl, ho'⟩ | ⟨_, hou⟩
    · exact h3 i a hi (by rw [← hgi, g?_old hl]) (by rw [touchAt_of ho']; exact hoa)
    · have : op.g = j := by rw [g?_of ho] at hgi; exact Option.some.inj hgi
      exact absurd ((hu op hou).symm.trans this) hg
theorem PhT.main (h : PhT Shun Wg j B d0 d1 rel t) (hj : j ≠ 0) {B' : Nat} (hB : B ≤ B') (hSW : ∀ l, Shun l → ¬ OfWg Wg l) {fn : FuncId} {pos : String} {es : Array Event}
    (hM : ∀ e ∈ es, ∀ x, (MemAct.ofEvent e).touch? = some x → OfWg Wg x.loc ∧ x.kind ≠ .plain) (hr : ∀ e ∈ es, e.loc ≠ .mark (.release (stA Wg))) (hl : ∀ e ∈ es, (MemAct.ofEvent e).low B') :
    PhT Shun Wg j B' (deafBehind d0 es) d1 rel (t ++ MemOp.ofEvents 0 fn pos es) := by
  have hu : ∀ op ∈ MemOp.ofEvents 0 fn pos es, op.g = 0 := fun op hop => by obtain ⟨e, _, rfl⟩ := Go.Conc.mem_ofEvents hop; rfl
  have hx : ∀ op ∈ MemOp.ofEvents 0 fn pos es, ∀ x, op.act.touch? = some x → OfWg Wg x.loc ∧ x.kind ≠ .plain := fun op hop x hx => by obtain ⟨e, he, rfl⟩ := Go.Conc.mem_ofEvents hop; exact hM e he x hx
  refine ⟨fun said => noRace_append (h.clean said) hu fun i a ha op hop b hb hc => ?_, fun i a ha hm => ?_, fun i a ha hm => ?_, fun i a ha hg ho => ?_, over_app h.over fun op hop => .inl (hu op hop), fun op hop => ?_, by rw [Deaf_own, h.deaf0], by rw [Deaf_other t (g' := 0) (Ne.symm hj) _ hu, h.deaf1], rel_other h.rel hu (Ne.symm hj) fun op hop => ?_⟩
  · obtain ⟨h1, h2⟩ := hx op hop b hb
    have ho : OfWg Wg a.loc := by rw [hc.1]; exact h1
    rcases h.k0 i a ha hc.2.1 with hk | ⟨hs, _⟩ | hg
    · exact hk
    · exact absurd ho (hSW _ hs)
    · rcases h.wk i a ha hg ho with hk | hk
      · obtain ⟨_, _, _, hcase⟩ := hc
        rw [hk] at hcase
        rcases hcase with x | x | ⟨_, x, _⟩
        · cases x
        · exact absurd x h2
        · cases x
      · exact hk
  · obtain ⟨x, hxo, hxa⟩ := touch_of ha
    rcases getElem?_append_cases hxo with ⟨hlt, hx'⟩ | ⟨_, hxu⟩
    · rcases h.k0 i a (by rw [touchAt_of hx']; exact hxa) hm with h1 | h1 | h1
      · exact .inl (h1.app _)
      · exact .inr (.inl h1)
      · exact .inr (.inr (by rw [g?_old hlt]; exact h1))
    · have := knows_own hxo
      rw [hu x hxu] at this
      exact .inl this
  · obtain ⟨x, hxo, hxa⟩ := touch_of ha
    rcases getElem?_append_cases hxo with ⟨_, hx'⟩ | ⟨_, hxu⟩
    · exact (h.k1 i a (by rw [touchAt_of hx']; exact hxa) hm).imp (·.app _) id
    · exact .inr (.inr (hx x hxu a hxa))
  · obtain ⟨x, hxo, hxa⟩ := touch_of ha
    rcases getElem?_append_cases hxo with ⟨hlt, hx'⟩ | ⟨_, hxu⟩
    · exact (h.wk i a (by rw [touchAt_of hx']; exact hxa) (by rw [← hg, g?_old hlt]) ho).imp id (·.app _)
    · have : x.g = j := by rw [g?_of hxo] at hg; exact Option.some.inj hg
      exact absurd (this.symm.trans (hu x hxu)) hj
  · rcases Array.mem_append.1 hop with hop | hop
    · exact MemAct.low_mono hB (h.low op hop)
    · obtain ⟨e, he, rfl⟩ := Go.Conc.mem_ofEvents hop; exact hl e he
  · obtain ⟨e, he, rfl⟩ := Go.Conc.mem_ofEvents hop
    exact fun ha => hr e he (ConcR.loc_of_ofEvent ha)
theorem PhT.leaver (h : PhT Shun Wg j B d0 d1 rel t) {g : Nat} (h0 : g ≠ 0) (hj : g ≠ j) {fn : FuncId} {pos : String} {es : Array Event} (hm : ∀ e ∈ es, e.mute = true) : PhT Shun Wg j B d0 d1 rel (t ++ MemOp.ofEvents g fn pos es) := by
  have hu : ∀ op ∈ MemOp.ofEvents g fn pos es, op.g = g := fun op hop => by obtain ⟨e, _, rfl⟩ := Go.Conc.mem_ofEvents hop; rfl
  have hn : ∀ op ∈ MemOp.ofEvents g fn pos es, op.act.touch? = none := fun op hop => by obtain ⟨e, he, rfl⟩ := Go.Conc.mem_ofEvents hop; exact touch_mute (hm e he)
  have old : ∀ {i a}, touchAt (t ++ MemOp.ofEvents g fn pos es) i = some a → i < t.size ∧ touchAt t i = some a := fun {i a} ha => by
    obtain ⟨x, hxo, hxa⟩ := touch_of ha
    rcases getElem?_append_cases hxo with ⟨hlt, hx'⟩ | ⟨_, hxu⟩
    · exact ⟨hlt, by rw [touchAt_of hx']; exact hxa⟩
    · rw [hn x hxu] at hxa; cases hxa
  refine ⟨fun said => noRace_append (h.clean said) hu fun i a _ op hop b hb _ => (by rw [hn op hop] at hb; cases hb), fun i a ha hm' => ?_, fun i a ha hm' => ?_, fun i a ha hg ho => ?_, over_app h.over fun op hop => .inr (.inr (hn op hop)), fun op hop => ?_, by rw [Deaf_other t h0 _ hu, h.deaf0], by rw [Deaf_other t hj _ hu, h.deaf1], rel_other h.rel hu hj fun op hop => ?_⟩
  · obtain ⟨hlt, ha'⟩ := old ha
    rcases h.k0 i a ha' hm' with h1 | h1 | h1
    · exact .inl (h1.app _)
    · exact .inr (.inl h1)
    · exact .inr (.inr (by rw [g?_old hlt]; exact h1))
  · obtain ⟨hlt, ha'⟩ := old ha
    exact (h.k1 i a ha' hm').imp (·.app _) id
  · obtain ⟨hlt, ha'⟩ := old ha
    exact (h.wk i a ha' (by rw [← hg, g?_old hlt]) ho).imp id (·.app _)
  · rcases Array.mem_append.1 hop with hop | hop
    · exact h.low op hop
    · obtain ⟨e, he, rfl⟩ := Go.Conc.mem_ofEvents hop; exact low_mute (hm e he) B
  · obtain ⟨e, he, rfl⟩ := Go.Conc.mem_ofEvents hop
    intro ha
    have := hm e he
    have hl := ConcR.loc_of_ofEvent ha
    obtain ⟨loc, wr, sy⟩ := e
    simp only at hl
    subst hl
    cases this
theorem PhT.worker (h : PhT Shun Wg j B d0 d1 rel t) (hj : j ≠ 0) {B' : Nat} (hB : B ≤ B') (hSW : ∀ l, Shun l → ¬ OfWg Wg l) {fn : FuncId} {pos : String} {es : Array Event}
    (hW : ∀ e ∈ es, ∀ x, (MemAct.ofEvent e).touch? = some x → (¬ Shun x.loc ∧ ¬ OfWg Wg x.loc) ∨ (OfWg Wg x.loc ∧ x.kind = .atomic)) (hl : ∀ e ∈ es, (MemAct.ofEvent e).low B')
    {rel' : Option Nat} (hrel : ∀ r, rel' = some r → RelBy (stA Wg) (t ++ MemOp.ofEvents j fn pos es) j r ∧ (∀ i, r < i → (t ++ MemOp.ofEvents j fn pos es).act? i ≠ some (.mark (.release (stA Wg)))) ∧ (∀ i a, r < i → (t ++ MemOp.ofEvents j fn pos es).g? i = some j → touchAt (t ++ MemOp.ofEvents j fn pos es) i = some a → OfWg Wg a.loc)) :
    PhT Shun Wg j B' d0 (deafBehind d1 es) rel' (t ++ MemOp.ofEvents j fn pos es) := by
  have hu : ∀ op ∈ MemOp.ofEvents j fn pos es, op.g = j := fun op hop => by obtain ⟨e, _, rfl⟩ := Go.Conc.mem_ofEvents hop; rfl
  have hx : ∀ op ∈ MemOp.ofEvents j fn pos es, ∀ x, op.act.touch? = some x → (¬ Shun x.loc ∧ ¬ OfWg Wg x.loc) ∨ (OfWg Wg x.loc ∧ x.kind = .atomic) := fun op hop x hx => by obtain ⟨e, he, rfl⟩ := Go.Conc.mem_ofEvents hop; exact hW e he x hx
  refine ⟨fun said => noRace_append (h.clean said) hu fun i a ha op hop b hb hc => ?_, fun i a ha hm => ?_, fun i a ha hm => ?_, fun i a ha hg ho => ?_, over_app h.over fun op hop => .inr (.inl (hu op hop)), fun op hop => ?_, by rw [Deaf_other t hj _ hu, h.deaf0], by rw [Deaf_own, h.deaf1], hrel⟩
  · rcases h.k1 i a ha hc.2.1 with hk | ⟨hs, _⟩ | ⟨hw, hk⟩
    · exact hk
    · rw [hc.1] at hs
      rcases hx op hop b hb with ⟨h1, _⟩ | ⟨h1, _⟩
      · exact absurd hs h1
      · exact absurd h1 (hSW _ hs)
    · have hw' := hw
      rw [hc.1] at hw'
      rcases hx op hop b hb with ⟨_, h1⟩ | ⟨_, h1⟩
      · exact absurd hw' h1
      · obtain ⟨_, _, _, hcase⟩ := hc
        rw [h1] at hcase
        rcases hcase with x | x | ⟨_, _, x⟩
        · exact absurd x hk
        · cases x
        · cases x
  · obtain ⟨x, hxo, hxa⟩ := touch_of ha
    rcases getElem?_append_cases hxo with ⟨hlt, hx'⟩ | ⟨_, hxu⟩
    · rcases h.k0 i a (by rw [touchAt_of hx']; exact hxa) hm with h1 | h1 | h1
      · exact .inl (h1.app _)
      · exact .inr (.inl h1)
      · exact .inr (.inr (by rw [g?_old hlt]; exact h1))
    · exact .inr (.inr (by rw [g?_of hxo, hu x hxu]))
  · obtain ⟨x, hxo, hxa⟩ := touch_of ha
    rcases getElem?_append_cases hxo with ⟨_, hx'⟩ | ⟨_, hxu⟩
    · exact (h.k1 i a (by rw [touchAt_of hx']; exact hxa) hm).imp (·.app _) id
    · have := knows_own hxo
      rw [hu x hxu] at this
      exact .inl this
  · obtain ⟨x, hxo, hxa⟩ := touch_of ha
    rcases getElem?_append_cases hxo with ⟨hlt, hx'⟩ | ⟨_, hxu⟩
    · exact (h.wk i a (by rw [touchAt_of hx']; exact hxa) (by rw [← hg, g?_old hlt]) ho).imp id (·.app _)
    · rcases hx x hxu a hxa with ⟨_, h1⟩ | ⟨_, h1⟩
      · exact absurd ho h1
      · exact .inl h1
  · rcases Array.mem_append.1 hop with hop | hop
    · exact MemAct.low_mono hB (h.low op hop)
    · obtain ⟨e, he, rfl⟩ := Go.Conc.mem_ofEvents hop; exact hl e he
theorem PhT.tail (h : PhT Shun Wg j B d0 d1 rel t) (hj : j ≠ 0) (hSW : ∀ l, Shun l → ¬ OfWg Wg l) (hWB : Wg < B) {fn : FuncId} {pos : String} {es : Array Event}
    (hW : ∀ k e, es[k]? = some e → (MemAct.ofEvent e).touch? = none ∨ ((∃ off wr, e = ⟨.cell ⟨Wg, off, none⟩, wr, true⟩) ∧ 0 < deafBehind d1 (es.extract 0 k))) (hr : ∀ e ∈ es, e.loc ≠ .mark (.release (stA Wg))) (hl : ∀ e ∈ es, (MemAct.ofEvent e).low B) :
    PhT Shun Wg j B d0 (deafBehind d1 es) rel (t ++ MemOp.ofEvents j fn pos es) := by
  have hu : ∀ op ∈ MemOp.ofEvents j fn pos es, op.g = j := fun op hop => by obtain ⟨e, _, rfl⟩ := Go.Conc.mem_ofEvents hop; rfl
  have hm : ∀ e ∈ es, ∀ x, (MemAct.ofEvent e).touch? = some x → OfWg Wg x.loc ∧ x.kind = .atomic := fun e he x hx => by
    obtain ⟨k, hk⟩ := Array.mem_iff_getElem?.1 he
    rcases hW k e hk with h1 | ⟨⟨off, wr, rfl⟩, _⟩
    · rw [h1] at hx; cases hx
    · cases wr <;> simp [MemAct.ofEvent, MemAct.touch?] at hx <;> (subst hx; exact ⟨⟨_, rfl, rfl⟩, rfl⟩)
  refine h.worker hj (Nat.le_refl _) hSW (fun e he x hx => .inr (hm e he x hx)) hl fun r hr' => ?_
  obtain ⟨h1, h2, h3⟩ := h.rel r hr'
  refine ⟨h1.appOwn fn pos es fun k e hk => ?_, fun i hi ha => ?_, fun i a hi hgi ha => ?_⟩
  · rcases hW k e hk with h1 | ⟨⟨off, wr, rfl⟩, hd⟩
    · exact .inl h1
    · exact .inr ⟨⟨_, _, rfl⟩, by rw [h.deaf1]; exact hd⟩
  · obtain ⟨op, ho, hoa⟩ := Option.map_eq_some_iff.1 ha
    rcases getElem?_append_cases ho with ⟨hlt, ho'⟩ | ⟨_, hou⟩
    · exact h2 i hi (by rw [act?_of ho', hoa])
    · obtain ⟨e, he, rfl⟩ := Go.Conc.mem_ofEvents hou
      exact hr e he (ConcR.loc_of_ofEvent hoa)
  · obtain ⟨op, ho, hoa⟩ := touch_of ha
    rcases getElem?_append_cases ho with ⟨hlt, ho'⟩ | ⟨_, hou⟩
    · exact h3 i a hi (by rw [← hgi, g?_old hlt]) (by rw [touchAt_of ho']; exact hoa)
    · obtain ⟨e, he, rfl⟩ := Go.Conc.mem_ofEvents hou
      exact (hm e he a hoa).1
theorem PhT.release (h : PhT Shun Wg j B d0 0 none t) (hj : j ≠ 0) (hSW : ∀ l, Shun l → ¬ OfWg Wg l) (hWB : Wg < B) {fn : FuncId} {pos : String} :
    PhT Shun Wg j B d0 0 (some t.size) (t ++ MemOp.ofEvents j fn pos #[mkE (.releaseMerge (stA Wg))]) := by
  have e1 : MemOp.ofEvents j fn pos #[mkE (.releaseMerge (stA Wg))] = #[{ g := j, fn, pos, act := .mark (.releaseMerge (stA Wg)) }] := by rw [ofEvents_eq]; simp [mkE, MemAct.ofEvent]
  have hlate : ∀ i op, t.size < i → (t ++ MemOp.ofEvents j fn pos #[mkE (.releaseMerge (stA Wg))])[i]? = some op → False := fun i op hi ho => by
    have := lt_size_of_getElem? ho
    rw [e1] at this
    simp at this; omega
  have e2 : deafBehind 0 #[mkE (.releaseMerge (stA Wg))] = 0 := rfl
  rw [← e2]
  refine (h.worker hj (Nat.le_refl _) hSW (rel' := some t.size) (fun e he x hx => ?_) (fun e he => ?_) fun r hr => ?_)
  · simp at he; subst he; simp [mkE, MemAct.ofEvent, MemAct.touch?] at hx
  · simp at he; subst he; exact hWB
  · cases hr
    refine ⟨ConcN.RelBy.new h.deaf1 fn pos, fun i hi ha => ?_, fun i a hi _ ha => ?_⟩
    · obtain ⟨op, ho, _⟩ := Option.map_eq_some_iff.1 ha
      exact hlate i op hi ho
    · obtain ⟨op, ho, _⟩ := touch_of ha
      exact (hlate i op hi ho).elim
theorem PhT.fork (h : PastD Shun B 0 t) (hj : j ≠ 0) (hdj : Deaf t j = 0) (hSW : ∀ l, Shun l → ¬ OfWg Wg l) (fn fn' : FuncId) (pos pos' : String) :
    PhT Shun Wg j B 0 0 none ((t.push { g := 0, fn, pos, act := .go j }).push { g := j, fn := fn', pos := pos', act := .start }) := by
  have e : (t.push { g := 0, fn, pos, act := .go j }).push { g := j, fn := fn', pos := pos', act := .start } = t ++ #[{ g := 0, fn, pos, act := .go j }, { g := j, fn := fn', pos := pos', act := .start }] := by
    apply Array.toList_inj.1; simp
  rw [e]
  have hx0 : (t ++ #[({ g := 0, fn, pos, act := .go j } : MemOp), { g := j, fn := fn', pos := pos', act := .start }])[t.size]? = some { g := 0, fn, pos, act := .go j } := by simp
  have hx1 : (t ++ #[({ g := 0, fn, pos, act := .go j } : MemOp), { g := j, fn := fn', pos := pos', act := .start }])[t.size + 1]? = some { g := j, fn := fn', pos := pos', act := .start } := by simp [Array.getElem?_append]
  have hd0 : Deaf (t ++ #[({ g := 0, fn, pos, act := .go j } : MemOp), { g := j, fn := fn', pos := pos', act := .start }]) 0 = 0 := by
    have := Deaf_append t 0 [({ g := 0, fn, pos, act := .go j } : MemOp), { g := j, fn := fn', pos := pos', act := .start }]
    simp only [List.foldl_cons, List.foldl_nil, deafStep] at this
    rw [h.hears] at this; exact this
  have hd1 : Deaf (t ++ #[({ g := 0, fn, pos, act := .go j } : MemOp), { g := j, fn := fn', pos := pos', act := .start }]) j = 0 := by
    have := Deaf_append t j [({ g := 0, fn, pos, act := .go j } : MemOp), { g := j, fn := fn', pos := pos', act := .start }]
    simp only [List.foldl_cons, List.foldl_nil, deafStep] at this
    rw [hdj] at this; exact this
  have hn : ∀ op ∈ (#[({ g := 0, fn, pos, act := .go j } : MemOp), { g := j, fn := fn', pos := pos', act := .start }] : Trace), op.act.touch? = none := fun op hop => by
    simp at hop; rcases hop with rfl | rfl <;> rfl
  have old : ∀ {i a}, touchAt (t ++ #[({ g := 0, fn, pos, act := .go j } : MemOp), { g := j, fn := fn', pos := pos', act := .start }]) i = some a → i < t.size ∧ touchAt t i = some a := fun {i a} ha => by
    obtain ⟨x, hxo, hxa⟩ := touch_of ha
    rcases getElem?_append_cases hxo with ⟨hlt, hx'⟩ | ⟨_, hxu⟩
    · exact ⟨hlt, by rw [touchAt_of hx']; exact hxa⟩
    · rw [hn x hxu] at hxa; cases hxa
  have hclean : ∀ said, ¬ Race said (t ++ #[({ g := 0, fn, pos, act := .go j } : MemOp), { g := j, fn := fn', pos := pos', act := .start }]) := by
    intro said
    rintro ⟨i, k, hik, ⟨a, b, ha, hb, hc⟩, n1, n2⟩
    obtain ⟨hi, ha'⟩ := old ha
    obtain ⟨hk, hb'⟩ := old hb
    exact h.clean said ⟨i, k, hik, ⟨a, b, ha', hb', hc⟩, fun x => n1 (hb_app _ x), fun x => n2 (hb_app _ x)⟩
  have heard0 : (t ++ #[({ g := 0, fn, pos, act := .go j } : MemOp), { g := j, fn := fn', pos := pos', act := .start }]).heard t.size := ⟨0, by rw [g?_of hx0], by rw [deaf_old (Nat.le_refl _)]; exact h.hears⟩
  have heard1 : (t ++ #[({ g := 0, fn, pos, act := .go j } : MemOp), { g := j, fn := fn', pos := pos', act := .start }]).heard (t.size + 1) := by
    refine ⟨j, by rw [g?_of hx1], ?_⟩
    rw [deaf_succ hx0]
    simp only [deafStep]
    rw [deaf_old (Nat.le_refl _)]
    exact hdj
  have edge : HappensBefore (t ++ #[({ g := 0, fn, pos, act := .go j } : MemOp), { g := j, fn := fn', pos := pos', act := .start }]) t.size (t.size + 1) :=
    .single (.inr ⟨.spawn (child := j) (by rw [act?_of hx0]) (by rw [act?_of hx1]) (by rw [g?_of hx1]), heard0, heard1⟩)
  refine ⟨hclean, fun i a ha hm => ?_, fun i a ha hm => ?_, fun i a ha hg ho => ?_, over_app (fun i g hg h0 _ hc => h.over i g hg h0 hc) fun op hop => .inr (.inr (hn op hop)), fun op hop => ?_, hd0, hd1, fun r hr => by cases hr⟩
  · obtain ⟨hlt, ha'⟩ := old ha
    rcases h.known i a ha' hm with h1 | h1
    · exact .inl (h1.app _)
    · exact .inr (.inl h1)
  · obtain ⟨hlt, ha'⟩ := old ha
    rcases h.known i a ha' hm with h1 | h1
    · left
      refine ⟨t.size + 1, _, hx1, rfl, ?_⟩
      have hk := h1.hb_new (Nat.le_refl _) hx0 rfl
      exact .inr (hk.trans edge)
    · exact .inr (.inl h1)
  · obtain ⟨hlt, ha'⟩ := old ha
    have hm : a.loc.isMemory = true := by obtain ⟨p, hp, _⟩ := ho; rw [hp]; rfl
    rcases h.known i a ha' hm with h1 | h1
    · exact .inr (h1.app _)
    · exact absurd ho (hSW _ h1.1)
  · rcases Array.mem_append.1 hop with hop | hop
    · exact h.seen op hop
    · simp at hop; rcases hop with rfl | rfl <;> trivial
theorem PhT.acquire (h : PhT Shun Wg j B 0 d1 rel t) {r : Nat} (hrel : rel = some r) (hj : j ≠ 0) (hWB : Wg < B) {fn : FuncId} {pos : String} :
    PastD (fun l => Shun l ∨ OfWg Wg l) B 0 (t ++ MemOp.ofEvents 0 fn pos #[mkE (.acquire (stA Wg))]) := by
  obtain ⟨hr, hno, hlate⟩ := h.rel r hrel
  have e1 : MemOp.ofEvents 0 fn pos #[mkE (.acquire (stA Wg))] = #[{ g := 0, fn, pos, act := .mark (.acquire (stA Wg)) }] := by rw [ofEvents_eq]; simp [mkE, MemAct.ofEvent]
  have hd0 : Deaf (t ++ MemOp.ofEvents 0 fn pos #[mkE (.acquire (stA Wg))]) 0 = 0 := by rw [Deaf_own, h.deaf0]; rfl
  rw [e1] at hd0 ⊢
  have hq : (t ++ #[({ g := 0, fn, pos, act := .mark (.acquire (stA Wg)) } : MemOp)])[t.size]? = some { g := 0, fn, pos, act := .mark (.acquire (stA Wg)) } := by simp
  have hu : ∀ op ∈ (#[({ g := 0, fn, pos, act := .mark (.acquire (stA Wg)) } : MemOp)] : Trace), op.g = 0 := fun op hop => by simp at hop; subst hop; rfl
  have hn : ∀ op ∈ (#[({ g := 0, fn, pos, act := .mark (.acquire (stA Wg)) } : MemOp)] : Trace), op.act.touch? = none := fun op hop => by simp at hop; subst hop; rfl
  have hrl : r < t.size := lt_of_act? hr.act
  have hq' : (t ++ #[({ g := 0, fn, pos, act := .mark (.acquire (stA Wg)) } : MemOp)]).heard t.size := ⟨0, by rw [g?_of hq], by rw [deaf_old (Nat.le_refl _)]; exact h.deaf0⟩
  have edge : HappensBefore (t ++ #[({ g := 0, fn, pos, act := .mark (.acquire (stA Wg)) } : MemOp)]) r t.size :=
    .single (.inr ⟨.marked hrl (.inr (by rw [act?_old hrl]; exact hr.act)) (by rw [act?_of hq]) (fun k h1 h2 => by rw [act?_old h2]; exact hno k h1), (heard_old hrl).2 hr.heard, hq'⟩)
  have upto : ∀ i, t.g? i = some j → i ≤ r → HappensBefore (t ++ #[({ g := 0, fn, pos, act := .mark (.acquire (stA Wg)) } : MemOp)]) i t.size := fun i hgi hle => by
    rcases Nat.lt_or_ge i r with hlt | hge
    · have := g?_lt hgi
      exact .trans (.single (.inl ⟨hlt, j, by rw [g?_old this]; exact hgi, by rw [g?_old hrl]; exact hr.g⟩)) edge
    · obtain rfl : i = r := by omega
      exact edge
  have old : ∀ {i a}, touchAt (t ++ #[({ g := 0, fn, pos, act := .mark (.acquire (stA Wg)) } : MemOp)]) i = some a → i < t.size ∧ touchAt t i = some a := fun {i a} ha => by
    obtain ⟨x, hxo, hxa⟩ := touch_of ha
    rcases getElem?_append_cases hxo with ⟨hlt, hx'⟩ | ⟨_, hxu⟩
    · exact ⟨hlt, by rw [touchAt_of hx']; exact hxa⟩
    · rw [hn x hxu] at hxa; cases hxa
  refine ⟨fun said => noRace_append (h.clean said) hu fun i a _ op hop b hb _ => (by rw [hn op hop] at hb; cases hb), fun i a ha hm => ?_, fun i g hg h0 hc => ?_, hd0, fun op hop => ?_⟩
  · obtain ⟨hlt, ha'⟩ := old ha
    rcases h.k0 i a ha' hm with h1 | ⟨h1, h2⟩ | hg
    · exact .inl (h1.app _)
    · exact .inr ⟨.inl h1, h2⟩
    · rcases Nat.lt_or_ge r i with hlt | hle
      · have hnc := hr.after i hlt hg
        have hk : a.kind = .atomic := by
          by_cases hk : a.kind = .atomic
          · exact hk
          · exact absurd ⟨a, ha', hm, .inl hk⟩ hnc
        exact .inr ⟨.inr (hlate i a hlt hg ha'), hk⟩
      · exact .inl ⟨t.size, _, hq, rfl, .inr (upto i hg hle)⟩
  · obtain ⟨x, hx, hmem, hcn⟩ := hc
    obtain ⟨hlt, hx'⟩ := old hx
    have hg' : t.g? i = some g := by rw [← hg, g?_old hlt]
    have hc' : t.counts i := (counts_old hlt).1 ⟨x, hx, hmem, hcn⟩
    by_cases hgj : g = j
    · subst hgj
      rcases Nat.lt_or_ge r i with hl | hle
      · exact absurd hc' (hr.after i hl hg')
      · exact ⟨t.size, by rw [g?_of hq], upto i hg' hle⟩
    · obtain ⟨k, hk, hb⟩ := h.over i g hg' h0 hgj hc'
      exact ⟨k, by rw [g?_old (g?_lt hk)]; exact hk, hb_app _ hb⟩
  · rcases Array.mem_append.1 hop with hop | hop
    · exact h.low op hop
    · simp at hop; subst hop; exact hWB
end
end Go.Ev
namespace Go.Ev
open Go.Conc
open Go.ConcX (WgAt wgBlock stA smA KK OfWg)
open Go.ConcN (sumTo sumTo_upd upd_same)
def JEv (Wg : Nat) (e : Event) : Prop := MEv Wg e ∨ ∃ a wr, e = ⟨.cell a, wr, true⟩ ∧ a.block = Wg
section
variable {Wg : Nat} {e : Event}
theorem jev_rd : JEv Wg (rdA (stA Wg)) := .inr ⟨_, _, rfl, rfl⟩
theorem jev_wr : JEv Wg (wrA (stA Wg)) := .inr ⟨_, _, rfl, rfl⟩
theorem jev_sem : ∀ e ∈ semEvents (smA Wg), JEv Wg e := fun e he => by
  simp [semEvents] at he
  rcases he with rfl | rfl | rfl | rfl
  · exact .inl (.inr (.inl rfl))
  · exact .inr ⟨_, _, rfl, rfl⟩
  · exact .inr ⟨_, _, rfl, rfl⟩
  · exact .inl (.inr (.inr (.inl rfl)))
theorem jev_touch (h : JEv Wg e) {x : Touch} (hx : (MemAct.ofEvent e).touch? = some x) : OfWg Wg x.loc ∧ x.kind ≠ .plain := by
  rcases h with (h | rfl | rfl | rfl) | ⟨a, wr, rfl, ha⟩
  · obtain ⟨loc, wr, sy⟩ := e
    simp only at h
    subst h
    simp [MemAct.ofEvent, MemAct.touch?] at hx
  · simp [mkE, MemAct.ofEvent, MemAct.touch?] at hx
  · simp [mkE, MemAct.ofEvent, MemAct.touch?] at hx
  · simp [mkE, MemAct.ofEvent, MemAct.touch?] at hx
    subst hx
    exact ⟨⟨_, rfl, rfl⟩, by simp⟩
  · simp [MemAct.ofEvent, MemAct.touch?] at hx
    subst hx
    exact ⟨⟨_, rfl, ha⟩, by simp⟩
theorem jev_low (h : JEv Wg e) {B : Nat} (hB : Wg < B) : (MemAct.ofEvent e).low B := by
  rcases h with (h | rfl | rfl | rfl) | ⟨a, wr, rfl, ha⟩
  · obtain ⟨loc, wr, sy⟩ := e
    simp only at h
    subst h
    trivial
  · trivial
  · trivial
  · exact hB
  · show a.block < B
    omega
theorem jev_norel (h : JEv Wg e) : e.loc ≠ .mark (.release (stA Wg)) := by
  rcases h with (h | rfl | rfl | rfl) | ⟨a, wr, rfl, ha⟩
  · rw [h]; simp
  · simp [mkE]
  · simp [mkE]
  · simp [mkE]
  · simp
end
structure JRel (Wg : Nat) (w w' : World) : Prop where
  size : w'.heap.size = w.heap.size
  block : ∀ b, b ≠ Wg → w'.heap[b]? = w.heap[b]?
  os : w'.os = w.os
  tape : w'.tape = w.tape
  output : w'.output = w.output
theorem JRel.refl {Wg : Nat} (w : World) : JRel Wg w w := ⟨rfl, fun _ _ => rfl, rfl, rfl, rfl⟩
theorem JRel.trans {Wg : Nat} {a b c : World} (h : JRel Wg a b) (h' : JRel Wg b c) : JRel Wg a c :=
  ⟨h'.size.trans h.size, fun x hx => (h'.block x hx).trans (h.block x hx), h'.os.trans h.os, h'.tape.trans h.tape, h'.output.trans h.output⟩
theorem JRel.at_ {Wg : Nat} (w : World) (d : Nat) : JRel Wg w (w.at d) := ⟨rfl, fun _ _ => rfl, rfl, rfl, rfl⟩
theorem JRel.setCell {Wg : Nat} (w : World) (a : Addr) (v : Value) (ha : a.block = Wg) : JRel Wg w (w.setCell a v) := by
  have h := aside_setCell w a v
  exact ⟨h.size, fun b hb => h.block b (by rw [ha]; exact hb), h.os, h.tape, h.output⟩
section
variable (P : Program) (ty : TypeId) (Wg : Nat) (Fin : Goroutine → Prop)
inductive JQ : Bool → Nat → Nat → Nat → Goroutine → Prop
  | ld {d n : Nat} {a : Goroutine} : MW P ty Wg (fun d g => d = 1 ∧ AtLd P ty Wg Fin g) n d a → JQ false d 3 n a
  | cas {d n : Nat} {a : Goroutine} : MW P ty Wg (fun d g => d = 1 ∧ AtCas P ty Wg Fin g) n d a → JQ false d 2 n a
  | sem {d n : Nat} {a : Goroutine} : MW P ty Wg (fun d g => d = 1 ∧ AtSem P ty Wg Fin g) n d a → JQ true d 1 n a
  | blk {g : Goroutine} : AtSem P ty Wg Fin g → JQ true 1 0 0 { g with status := .blocked }
inductive JB : Int → Nat → Nat → Nat → Goroutine → Prop
  | ld {d n : Nat} {a : Goroutine} : MW P ty Wg (fun d g => d = 1 ∧ AtLd P ty Wg Fin g) n d a → JB 0 d 5 n a
  | cas {d n : Nat} {a : Goroutine} : MW P ty Wg (fun d g => d = 1 ∧ AtCas P ty Wg Fin g) n d a → JB 0 d 4 n a
  | sem {d n : Nat} {a : Goroutine} : MW P ty Wg (fun d g => d = 1 ∧ AtSem P ty Wg Fin g) n d a → JB 1 d 3 n a
  | ld0 {d n : Nat} {a : Goroutine} : MW P ty Wg (fun d g => d = 1 ∧ AtLd0 P ty Wg Fin g) n d a → JB 0 d 2 n a
  | acq {d n : Nat} {a : Goroutine} : MW P ty Wg (fun d g => d = 0 ∧ AtAcq P Wg Fin g) n d a → JB 0 d 1 n a
end
section
variable {P : Program} {ty : TypeId} {Wg : Nat} {Fin : Goroutine → Prop}
theorem mw_cases {Stop : Nat → Goroutine → Prop} {n d : Nat} {a : Goroutine} (h : MW P ty Wg Stop n d a) :
    Stop d a ∨ ∃ m, n = m + 1 ∧ a.status = .running ∧ ∀ w, WgLive ty Wg w → ∃ g' es, stepG P true a w = .go g' w es ∧ (∀ e ∈ es, MEv Wg e) ∧ MW P ty Wg Stop m (deafBehind d es) g' := by
  cases n with
  | zero => exact .inl h
  | succ n => exact h.imp id fun x => ⟨n, rfl, x.1, x.2⟩
theorem mw_running {Stop : Nat → Goroutine → Prop} (hS : ∀ d g, Stop d g → g.status = .running) {n d : Nat} {a : Goroutine} (h : MW P ty Wg Stop n d a) : a.status = .running := by
  rcases mw_cases h with h | ⟨_, _, h, _⟩
  · exact hS _ _ h
  · exact h
theorem JQ.status {reg : Bool} {d r n : Nat} {a : Goroutine} (h : JQ P ty Wg Fin reg d r n a) : a.status = .running ∨ (a.status = .blocked ∧ reg = true) := by
  cases h with
  | ld h => exact .inl (mw_running (fun _ _ x => x.2.1) h)
  | cas h => exact .inl (mw_running (fun _ _ x => x.2.1) h)
  | sem h => exact .inl (mw_running (fun _ _ x => x.2.1) h)
  | blk h => exact .inr ⟨rfl, rfl⟩
theorem JQ.awoken {reg : Bool} {d r n : Nat} {a b b' : Goroutine} {w : World} (h : JQ P ty Wg Fin reg d r n a) : ∃ r' n', JQ P ty Wg Fin reg d r' n' (Go.Conc.woken P b b' w a) := by
  rcases h.status with hr | ⟨hb, _⟩
  · exact ⟨r, n, by rw [woken_run hr]; exact h⟩
  · cases h with
    | ld h => rw [mw_running (fun _ _ x => x.2.1) h] at hb; cases hb
    | cas h => rw [mw_running (fun _ _ x => x.2.1) h] at hb; cases hb
    | sem h => rw [mw_running (fun _ _ x => x.2.1) h] at hb; cases hb
    | blk h =>
      unfold Go.Conc.woken
      split
      · exact ⟨1, 0, by rw [Go.ConcX.again_blocked h.1 h.2.1]; exact .sem (n := 0) (show _ ∧ _ from ⟨rfl, h⟩)⟩
      · exact ⟨0, 0, .blk h⟩
theorem JQ.up {d r n : Nat} {a b b' : Goroutine} {w : World} (h : JQ P ty Wg Fin true d r n a) (hm : mayWake P b = true) (hb : b'.status = .running) : ∃ n', JB P ty Wg Fin 1 d 3 n' (Go.Conc.woken P b b' w a) := by
  have e : Go.Conc.woken P b b' w a = a.again w := by unfold Go.Conc.woken; rw [hm, hb]; rfl
  rw [e]
  cases h with
  | sem h => exact ⟨n, by rw [again_running _ (.inl (mw_running (fun _ _ x => x.2.1) h))]; exact .sem h⟩
  | blk h => exact ⟨0, by rw [Go.ConcX.again_blocked h.1 h.2.1]; exact .sem (n := 0) (show _ ∧ _ from ⟨rfl, h⟩)⟩
theorem JQ.toB {d r n : Nat} {a : Goroutine} (h : JQ P ty Wg Fin false d r n a) : ∃ r', JB P ty Wg Fin 0 d r' n a := by
  cases h with
  | ld h => exact ⟨_, .ld h⟩
  | cas h => exact ⟨_, .cas h⟩
theorem JQ.step {reg : Bool} {d r n : Nat} {a : Goroutine} (h : JQ P ty Wg Fin reg d r n a) (hr : a.status = .running) {w : World} {st : Int} (hw : WgAt ty Wg w st 0) (hst : reg = false → st = KK) :
    ∃ a' w' es, stepG P true a w = .go a' w' es ∧ (∀ e ∈ es, JEv Wg e) ∧ JRel Wg w w' ∧ ∃ reg' st' r' n', WgAt ty Wg w' st' 0 ∧ ((reg' = reg ∧ st' = st) ∨ (reg = false ∧ reg' = true ∧ st' = KK + 1)) ∧ JQ P ty Wg Fin reg' (deafBehind d es) r' n' a' ∧ (r' < r ∨ (r' = r ∧ n' < n)) := by
  cases h with
  | ld h =>
    obtain rfl := hst rfl
    rcases mw_cases h with ⟨rfl, h1, h2, _⟩ | ⟨m, rfl, _, h2⟩
    · obtain ⟨g', h3, n', h4⟩ := h2 w hw
      exact ⟨g', w, _, h3, fun e he => by simp at he; subst he; exact jev_rd, .refl w, false, KK, 2, n', hw, .inl ⟨rfl, rfl⟩, .cas h4, .inl (by omega)⟩
    · obtain ⟨g', es, h3, h4, h5⟩ := h2 w ⟨_, _, hw⟩
      exact ⟨g', w, es, h3, fun e he => .inl (h4 e he), .refl w, false, KK, 3, m, hw, .inl ⟨rfl, rfl⟩, .ld h5, .inr ⟨rfl, by omega⟩⟩
  | cas h =>
    obtain rfl := hst rfl
    rcases mw_cases h with ⟨rfl, h1, h2, _⟩ | ⟨m, rfl, _, h2⟩
    · obtain ⟨g', h3, n', h4⟩ := h2 w hw
      exact ⟨g', _, _, h3, fun e he => by simp at he; exact he.elim (fun x => x ▸ jev_rd) (fun x => x ▸ jev_wr), .setCell w _ _ rfl, true, KK + 1, 1, n', hw.setSt _, .inr ⟨rfl, rfl, rfl⟩, .sem h4, .inl (by omega)⟩
    · obtain ⟨g', es, h3, h4, h5⟩ := h2 w ⟨_, _, hw⟩
      exact ⟨g', w, es, h3, fun e he => .inl (h4 e he), .refl w, false, KK, 2, m, hw, .inl ⟨rfl, rfl⟩, .cas h5, .inr ⟨rfl, by omega⟩⟩
  | sem h =>
    rcases mw_cases h with ⟨rfl, h1⟩ | ⟨m, rfl, _, h2⟩
    · exact ⟨_, w, _, h1.2.2.1 w st hw, fun e he => by simp at he, .refl w, true, st, 0, 0, hw, .inl ⟨rfl, rfl⟩, .blk h1, .inl (by omega)⟩
    · obtain ⟨g', es, h3, h4, h5⟩ := h2 w ⟨_, _, hw⟩
      exact ⟨g', w, es, h3, fun e he => .inl (h4 e he), .refl w, true, st, 1, m, hw, .inl ⟨rfl, rfl⟩, .sem h5, .inr ⟨rfl, by omega⟩⟩
  | blk h => cases hr
theorem JB.running {sm : Int} {d r n : Nat} {a : Goroutine} (h : JB P ty Wg Fin sm d r n a) : a.status = .running := by
  cases h with
  | ld h => exact mw_running (fun _ _ x => x.2.1) h
  | cas h => exact mw_running (fun _ _ x => x.2.1) h
  | sem h => exact mw_running (fun _ _ x => x.2.1) h
  | ld0 h => exact mw_running (fun _ _ x => x.2.1) h
  | acq h => exact mw_running (fun _ _ x => x.2.1) h
theorem JB.step {sm : Int} {d r n : Nat} {a : Goroutine} (h : JB P ty Wg Fin sm d r n a) {w : World} (hw : WgAt ty Wg w 0 sm) :
    (d = 0 ∧ ∃ a', stepG P true a w = .go a' w #[mkE (.acquire (stA Wg))] ∧ Fin a' ∧ sm = 0) ∨
    ∃ a' w' es, stepG P true a w = .go a' w' es ∧ (∀ e ∈ es, JEv Wg e) ∧ JRel Wg w w' ∧ ∃ sm' r' n', WgAt ty Wg w' 0 sm' ∧ JB P ty Wg Fin sm' (deafBehind d es) r' n' a' ∧ (r' < r ∨ (r' = r ∧ n' < n)) := by
  have idle : ∀ {Stop : Nat → Goroutine → Prop} {m : Nat} {a : Goroutine} (sm : Int) (r : Nat), WgAt ty Wg w 0 sm → (∀ w, WgLive ty Wg w → ∃ g' es, stepG P true a w = .go g' w es ∧ (∀ e ∈ es, MEv Wg e) ∧ MW P ty Wg Stop m (deafBehind d es) g') →
      (∀ {d n a}, MW P ty Wg Stop n d a → JB P ty Wg Fin sm d r n a) →
      ∃ a' w' es, stepG P true a w = .go a' w' es ∧ (∀ e ∈ es, JEv Wg e) ∧ JRel Wg w w' ∧ ∃ sm' r' n', WgAt ty Wg w' 0 sm' ∧ JB P ty Wg Fin sm' (deafBehind d es) r' n' a' ∧ (r' < r ∨ (r' = r ∧ n' < m + 1)) := by
    intro Stop m a sm r hw h2 hc
    obtain ⟨g', es, h3, h4, h5⟩ := h2 w ⟨_, _, hw⟩
    exact ⟨g', w, es, h3, fun e he => .inl (h4 e he), .refl w, sm, r, m, hw, hc h5, .inr ⟨rfl, by omega⟩⟩
  cases h with
  | ld h =>
    right
    rcases mw_cases h with ⟨rfl, h1, _, h2⟩ | ⟨m, rfl, _, h2⟩
    · obtain ⟨g', h3, n', h4⟩ := h2 w hw
      exact ⟨g', w, _, h3, fun e he => by simp at he; subst he; exact jev_rd, .refl w, 0, 1, n', hw, .acq h4, .inl (by omega)⟩
    · exact idle 0 5 hw h2 .ld
  | cas h =>
    right
    rcases mw_cases h with ⟨rfl, h1, _, h2⟩ | ⟨m, rfl, _, h2⟩
    · obtain ⟨g', h3, n', h4⟩ := h2 w hw
      exact ⟨g', w, _, h3, fun e he => by simp at he; subst he; exact jev_rd, .refl w, 0, 2, n', hw, .ld0 h4, .inl (by omega)⟩
    · exact idle 0 4 hw h2 .cas
  | sem h =>
    right
    rcases mw_cases h with ⟨rfl, h1⟩ | ⟨m, rfl, _, h2⟩
    · obtain ⟨g', h3, n', h4⟩ := h1.2.2.2 w hw
      have e : deafBehind 1 (semEvents (smA Wg)) = 1 := rfl
      exact ⟨g', _, _, h3, jev_sem, .setCell w _ _ rfl, 0, 2, n', hw.setSm _, .ld0 (by rw [e]; exact h4), .inl (by omega)⟩
    · exact idle 1 3 hw h2 .sem
  | ld0 h =>
    right
    rcases mw_cases h with ⟨rfl, h1, h2⟩ | ⟨m, rfl, _, h2⟩
    · obtain ⟨g', h3, n', h4⟩ := h2 w 0 hw
      exact ⟨g', w, _, h3, fun e he => by simp at he; subst he; exact jev_rd, .refl w, 0, 1, n', hw, .acq h4, .inl (by omega)⟩
    · exact idle 0 2 hw h2 .ld0
  | acq h =>
    rcases mw_cases h with ⟨rfl, h1, h2⟩ | ⟨m, rfl, _, h2⟩
    · obtain ⟨g', h3, h4⟩ := h2 w
      exact .inl ⟨rfl, g', h3, h4, rfl⟩
    · exact .inr (idle 0 1 hw h2 .acq)
end
end Go.Ev
namespace Go.Ev
open Go.Conc
open Go.ConcX (WgAt wgBlock stA smA KK OfWg)
open Go.ConcN (sumTo sumTo_upd upd_same)
theorem wg_lt {ty : TypeId} {Wg : Nat} {w : World} {st sm : Int} (h : WgAt ty Wg w st sm) : Wg < w.heap.size := (Array.getElem?_eq_some_iff.1 h).1
theorem mute_norel {e : Event} (h : e.mute = true) (a : Addr) : e.loc ≠ .mark (.release a) := by
  obtain ⟨loc, wr, sy⟩ := e
  intro hl
  simp only at hl
  subst hl
  cases h
section
variable {P : Program} {ty : TypeId} {Wg j : Nat} {Fin : Goroutine → Prop} {Shun : Loc → Prop}
def Joined (P : Program) (ty : TypeId) (Wg : Nat) (Fin : Goroutine → Prop) (Shun : Loc → Prop) (N : Nat) (w0 : World) : Array Goroutine → World → Option (Nat × Nat) → Trace → Prop := fun gs w _ t =>
  ∃ a q, gs.size = N ∧ gs[0]? = some a ∧ Fin a ∧ Leavers P t gs q ∧ PastD (fun l => Shun l ∨ OfWg Wg l) w.heap.size 0 t ∧ JRel Wg w0 w ∧ WgAt ty Wg w 0 0
theorem join_past (hj : j ≠ 0) (hSW : ∀ l, Shun l → ¬ OfWg Wg l) (rr N0 : Nat) (w0 : World) : ∀ (r N n : Nat) (gs : Array Goroutine) (w : World) (sl : Option (Nat × Nat)) (t : Trace) (q : Nat → Nat) (a : Goroutine) (d0 d1 : Nat) (sm : Int),
    n + sumTo gs.size q ≤ N → gs.size = N0 → JRel Wg w0 w → JB P ty Wg Fin sm d0 r n a → gs[0]? = some a → Leavers P t gs q → WgAt ty Wg w 0 sm → PhT Shun Wg j w.heap.size d0 d1 (some rr) t →
    Reaches P gs w sl t (Joined P ty Wg Fin Shun N0 w0) := by
  intro r
  induction r using Nat.strongRecOn with
  | ind r ihr =>
    intro N
    induction N using Nat.strongRecOn with
    | ind N ihN =>
      intro n gs w sl t q a d0 d1 sm hN hsz0 hR hJ h0 hL hw hP
      obtain ⟨i, g, dr, sl', hi, hg, hpk⟩ := crowd_pick (P := P) (w := w) (sl := sl) (solo_awake hL h0 hJ.running) ⟨0, a, h0, hJ.running⟩
      have hw' : WgAt ty Wg (w.at dr) 0 sm := hw
      have hR' : JRel Wg w0 (w.at dr) := hR.trans (.at_ w dr)
      replace hP : PhT Shun Wg j (w.at dr).heap.size d0 d1 (some rr) t := hP
      have hlt : 0 < gs.size := (Array.getElem?_eq_some_iff.1 h0).1
      rcases Nat.eq_zero_or_pos i with rfl | hpos
      · obtain rfl : g = a := by rw [h0] at hi; exact (Option.some.inj hi).symm
        rcases hJ.step hw' with ⟨rfl, a', h1, h2, rfl⟩ | ⟨a', w', es, h1, h2, h3, sm', r', n', h4, h5, h6⟩
        · have hrunT := runT_crowd_go (P := P) (sl := sl') (i := 0) hi (show stepG P (0 == 0) g (w.at dr) = _ from h1)
          exact Reaches.step (by rw [hpk]; exact hrunT) (.here ⟨a', q, by simpa using hsz0, by simp [hlt], h2, leavers_own hL h0, hP.acquire rfl hj (wg_lt hw'), hR', hw'⟩)
        · have hrunT := runT_crowd_go (P := P) (sl := sl') (i := 0) hi (show stepG P (0 == 0) g (w.at dr) = _ from h1)
          have hsz : ((gs.map (woken P g a' w')).setIfInBounds 0 a').size = gs.size := by simp
          have hP' := hP.main (fn := g.frame.fn) (pos := g.frame.place) (B' := w'.heap.size) hj (by rw [h3.size]; exact Nat.le_refl _) hSW (fun e he x hx => jev_touch (h2 e he) hx) (fun e he => jev_norel (h2 e he)) (fun e he => jev_low (h2 e he) (wg_lt h4))
          refine Reaches.step (by rw [hpk]; exact hrunT) ?_
          rcases h6 with h6 | ⟨rfl, h6⟩
          · exact ihr r' h6 _ n' _ w' sl' _ q a' _ d1 sm' (Nat.le_refl _) (hsz.trans hsz0) (hR'.trans h3) h5 (by simp [hlt]) (leavers_own hL h0) h4 hP'
          · exact ihN (n' + sumTo gs.size q) (by omega) n' _ w' sl' _ q a' _ d1 sm' (by rw [hsz]; exact Nat.le_refl _) (hsz.trans hsz0) (hR'.trans h3) h5 (by simp [hlt]) (leavers_own hL h0) h4 hP'
      · obtain ⟨k, g1, es1, hqi, hrunT, hm, hsz, h0', hL', hlt'⟩ := leaver_step (w := w) (sl' := sl') (d := dr) hL h0 hJ.running hpos hi hg
        refine Reaches.step (by rw [hpk]; exact hrunT) ?_
        by_cases hij : i = j
        · subst hij
          have hP' := hP.tail (fn := g.frame.fn) (pos := g.frame.place) hj hSW (wg_lt hw') (fun k e he => .inl (touch_mute (hm e (Array.mem_of_getElem? he)))) (fun e he => mute_norel (hm e he) _) (fun e he => low_mute (hm e he) _)
          exact ihN (n + sumTo gs.size (ConcN.upd q i k)) (by omega) n _ (w.at dr) sl' _ (ConcN.upd q i k) a _ _ sm (by rw [hsz]; exact Nat.le_refl _) (hsz.trans hsz0) hR' hJ h0' hL' hw' hP'
        · have hP' := hP.leaver (g := i) (fn := g.frame.fn) (pos := g.frame.place) (by omega) hij hm
          exact ihN (n + sumTo gs.size (ConcN.upd q i k)) (by omega) n _ (w.at dr) sl' _ (ConcN.upd q i k) a _ _ sm (by rw [hsz]; exact Nat.le_refl _) (hsz.trans hsz0) hR' hJ h0' hL' hw' hP'
end
end Go.Ev
