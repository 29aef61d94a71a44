/- A part of the proof that pedigreelaw19.WhynotNil returns true for every input (its card: YtieoegkjamcngabGreatDoorMyCard): EvDraw, EvDraw2, EvDraw3, EvDraw4, EvDraw5, EvDraw6, EvTame. Conditions: those of the given row alone. -/
import Derived.Test.YtieoegkjamcngabGreatDoorEv4
import Derived.Conc.Own2
/- Regions that draw their order: what an operation hangs on. -/
namespace Go.Ev
open Go.Conc (G)

/-! ### temporaries, to the letter -/
theorem Tr.get_setF_exact {α : Type} (x : α) : ∀ (f : Nat) (t : Tr α) (i j : Nat), i < 2 ^ f - 1 → (Tr.setF x f t i).get j = if j = i then some x else t.get j := by
  intro f
  induction f with
  | zero => intro t i j h; simp at h
  | succ f ih =>
    intro t i j h
    have hp : 2 ^ (f + 1) = 2 * 2 ^ f := by rw [Nat.pow_succ]; omega
    have hpos : 0 < 2 ^ f := Nat.two_pow_pos f
    cases t with
    | e =>
      rw [Tr.setF_e]
      by_cases h0 : i = 0
      · rw [if_pos h0, Tr.get_n]
        by_cases hj : j = 0
        · rw [if_pos hj, if_pos (by omega)]
        · rw [if_neg hj, if_neg (show ¬ j = i by omega)]; simp [Tr.get_e]
      · rw [if_neg h0]
        by_cases h1 : i % 2 = 1
        · rw [if_pos h1, Tr.get_n]
          by_cases hj : j = 0
          · rw [if_pos hj, if_neg (by omega), Tr.get_e]
          · rw [if_neg hj]
            by_cases hj1 : j % 2 = 1
            · rw [if_pos hj1, ih _ _ _ (by omega), Tr.get_e, Tr.get_e]
              by_cases hji : j = i
              · rw [if_pos hji, if_pos (by omega)]
              · rw [if_neg hji, if_neg (by omega)]
            · rw [if_neg hj1, if_neg (by intro e; rw [e] at hj1; exact hj1 h1), Tr.get_e, Tr.get_e]
        · rw [if_neg h1, Tr.get_n]
          by_cases hj : j = 0
          · rw [if_pos hj, if_neg (by omega), Tr.get_e]
          · rw [if_neg hj]
            by_cases hj1 : j % 2 = 1
            · rw [if_pos hj1, if_neg (by intro e; rw [e] at hj1; exact h1 hj1), Tr.get_e, Tr.get_e]
            · rw [if_neg hj1, ih _ _ _ (by omega), Tr.get_e, Tr.get_e]
              by_cases hji : j = i
              · rw [if_pos hji, if_pos (by omega)]
              · rw [if_neg hji, if_neg (by omega)]
    | n l v r =>
      rw [Tr.setF_n]
      by_cases h0 : i = 0
      · rw [if_pos h0, Tr.get_n, Tr.get_n]
        by_cases hj : j = 0
        · rw [if_pos hj, if_pos (by omega)]
        · rw [if_neg hj, if_neg (show ¬ j = i by omega), if_neg hj]
      · rw [if_neg h0]
        by_cases h1 : i % 2 = 1
        · rw [if_pos h1, Tr.get_n, Tr.get_n]
          by_cases hj : j = 0
          · rw [if_pos hj, if_neg (by omega), if_pos hj]
          · rw [if_neg hj, if_neg hj]
            by_cases hj1 : j % 2 = 1
            · rw [if_pos hj1, if_pos hj1, ih _ _ _ (by omega)]
              by_cases hji : j = i
              · rw [if_pos hji, if_pos (by omega)]
              · rw [if_neg hji, if_neg (by omega)]
            · rw [if_neg hj1, if_neg hj1, if_neg (by intro e; rw [e] at hj1; exact hj1 h1)]
        · rw [if_neg h1, Tr.get_n, Tr.get_n]
          by_cases hj : j = 0
          · rw [if_pos hj, if_neg (by omega), if_pos hj]
          · rw [if_neg hj, if_neg hj]
            by_cases hj1 : j % 2 = 1
            · rw [if_pos hj1, if_pos hj1, if_neg (by intro e; rw [e] at hj1; exact h1 hj1)]
            · rw [if_neg hj1, if_neg hj1, ih _ _ _ (by omega)]
              by_cases hji : j = i
              · rw [if_pos hji, if_pos (by omega)]
              · rw [if_neg hji, if_neg (by omega)]
theorem Tr.get_set_exact {α : Type} {x : α} {t : Tr α} {i j : Nat} (h : i < 1000000) : (t.set i x).get j = if j = i then some x else t.get j :=
  Tr.get_setF_exact x 40 t i j (by have : (1000000 : Nat) < 2 ^ 40 - 1 := by decide
                                   omega)

theorem fin_get {x : AX} {d : Option Tmp} {v : AV} {tm : Tr AV} {t : Nat} (h : ∀ i, d = some i → i < 1000000) : (fin x d v tm).get t = if d = some t then some (cond (Nat.blt t x.nt) v undefA) else tm.get t := by
  cases d with
  | none => simp [fin]
  | some i =>
    simp only [fin]
    rw [Tr.get_set_exact (h i rfl)]
    by_cases hti : t = i
    · rw [if_pos hti, if_pos (by rw [hti]), hti]
    · rw [if_neg hti, if_neg (by intro e; cases e; exact hti rfl)]

theorem RT.congr {ι : Nm} {nt : Nat} {tm tm' : Tr AV} {tmps : Array Value} (h : RT ι nt tm tmps) (he : ∀ t, tm'.get t = tm.get t) : RT ι nt tm' tmps := ⟨h.1, fun t a ht => h.2 t a (by rw [← he]; exact ht)⟩

/-! ### operands -/
def Alike (tm tm' : Tr AV) (l : List Operand) : Prop := ∀ y ∈ l, ev tm y = ev tm' y

theorem evs_alike {tm tm' : Tr AV} : ∀ {l : List Operand}, Alike tm tm' l → evs tm l = evs tm' l
  | [], _ => rfl
  | y :: l, h => by
    unfold evs
    rw [h y (by simp), evs_alike (l := l) fun z hz => h z (by simp [hz])]
theorem evp_alike {tm tm' : Tr AV} : ∀ {l : List (Nat × Operand)}, Alike tm tm' (l.map (·.2)) → evp tm l = evp tm' l
  | [], _ => rfl
  | y :: l, h => by
    unfold evp
    rw [h y.2 (by simp), evp_alike (l := l) fun z hz => h z (by simp at hz ⊢; exact .inr hz)]
theorem evo_alike {tm tm' : Tr AV} {o : Option Operand} (h : ∀ y, o = some y → ev tm y = ev tm' y) : evo tm o = evo tm' o := by
  cases o with
  | none => rfl
  | some y => show some (ev tm y) = some (ev tm' y); rw [h y rfl]

section
variable {E : Env} {tm tm' : Tr AV} {h h' : AH}

theorem quiet_alike {op : Op} (ha : Alike tm tm' op.operands.toList) : quietOp op E tm h = quietOp op E tm' h := by
  cases op
  case move x => show some (ev tm x) = some (ev tm' x); rw [ha x (by simp [Op.operands])]
  case assign x => show some (ev tm x) = some (ev tm' x); rw [ha x (by simp [Op.operands])]
  case pick c a b =>
    show (match ev tm c with | .bool t => some (cond t (ev tm a) (ev tm b)) | _ => none) = (match ev tm' c with | .bool t => some (cond t (ev tm' a) (ev tm' b)) | _ => none)
    rw [ha c (by simp [Op.operands]), ha a (by simp [Op.operands]), ha b (by simp [Op.operands])]
  case build t ps =>
    show buildA E t (evp tm ps.toList) = buildA E t (evp tm' ps.toList)
    rw [evp_alike (fun y hy => ha y (by simpa [Op.operands] using hy))]
  case load t a =>
    show (match ev tm a with | .ptr id off => loadT E h t id off | _ => none) = (match ev tm' a with | .ptr id off => loadT E h t id off | _ => none)
    rw [ha a (by simp [Op.operands])]
  case nilCheck x => show nilCheckA (ev tm x) = nilCheckA (ev tm' x); rw [ha x (by simp [Op.operands])]
  case binOp op t x y t' => show binA E op t (ev tm x) (ev tm y) = binA E op t (ev tm' x) (ev tm' y); rw [ha x (by simp [Op.operands]), ha y (by simp [Op.operands])]
  case unOp op t x => show unA op (ev tm x) = unA op (ev tm' x); rw [ha x (by simp [Op.operands])]
  case convert s d x => show convQ E s d (ev tm x) = convQ E s d (ev tm' x); rw [ha x (by simp [Op.operands])]
  case makeInterface t x => show makeIfaceA E t (ev tm x) = makeIfaceA E t (ev tm' x); rw [ha x (by simp [Op.operands])]
  case makeFunc g a b =>
    have h1 := evs_alike (l := a.toList) (fun y hy => ha y (by simp only [Op.operands, Array.toList_append]; exact List.mem_append.2 (.inl hy)))
    have h2 := evs_alike (l := b.toList) (fun y hy => ha y (by simp only [Op.operands, Array.toList_append]; exact List.mem_append.2 (.inr hy)))
    clear ha
    cases g <;> try rfl
    show some (AV.fn _ (evs tm a.toList) (evs tm b.toList)) = some (AV.fn _ (evs tm' a.toList) (evs tm' b.toList))
    rw [h1, h2]
  case slice t x lo hi mx =>
    show sliceA E t (ev tm x) (evo tm lo) (evo tm hi) (evo tm mx) = sliceA E t (ev tm' x) (evo tm' lo) (evo tm' hi) (evo tm' mx)
    rw [ha x (by simp [Op.operands]), evo_alike (o := lo) (fun y hy => ha y (by subst hy; simp [Op.operands])), evo_alike (o := hi) (fun y hy => ha y (by subst hy; simp [Op.operands])), evo_alike (o := mx) (fun y hy => ha y (by subst hy; simp [Op.operands]))]
  case fieldAddr s x i => show fieldAddrA E s (ev tm x) i = fieldAddrA E s (ev tm' x) i; rw [ha x (by simp [Op.operands])]
  case field s x i => show fieldA E s (ev tm x) i = fieldA E s (ev tm' x) i; rw [ha x (by simp [Op.operands])]
  case indexAddr t x i => show indexAddrA E t (ev tm x) (ev tm i) = indexAddrA E t (ev tm' x) (ev tm' i); rw [ha x (by simp [Op.operands]), ha i (by simp [Op.operands])]
  case index t x i => show indexA E t (ev tm x) (ev tm i) = indexA E t (ev tm' x) (ev tm' i); rw [ha x (by simp [Op.operands]), ha i (by simp [Op.operands])]
  case lookup t x i ok => show lookupA E h t (ev tm x) (ev tm i) ok = lookupA E h t (ev tm' x) (ev tm' i) ok; rw [ha x (by simp [Op.operands]), ha i (by simp [Op.operands])]
  case entry it => show entryA h (ev tm it) = entryA h (ev tm' it); rw [ha it (by simp [Op.operands])]
  case typeAssert x t t' ok => show assertA E t' (ev tm x) ok = assertA E t' (ev tm' x) ok; rw [ha x (by simp [Op.operands])]
  case extract x i => show extractA (ev tm x) i = extractA (ev tm' x) i; rw [ha x (by simp [Op.operands])]
  case call c =>
    show (match callB c with | some b => quietB E h b (evs tm c.args.toList) c.argTypes.toList | none => none) = (match callB c with | some b => quietB E h b (evs tm' c.args.toList) c.argTypes.toList | none => none)
    rw [evs_alike (fun y hy => ha y (by simp only [Op.operands, Call.operands, Array.toList_append]; exact List.mem_append.2 (.inr hy)))]
  all_goals rfl

theorem loud_alike {op : Op} (ha : Alike tm tm' op.operands.toList) : loudOp op E tm h = loudOp op E tm' h := by
  cases op
  case box t x => show boxA E h t (ev tm x) = boxA E h t (ev tm' x); rw [ha x (by simp [Op.operands])]
  case buildSlice t l ps =>
    show buildSliceA E h t l (evp tm ps.toList) = buildSliceA E h t l (evp tm' ps.toList)
    rw [evp_alike (fun y hy => ha y (by simpa [Op.operands] using hy))]
  case store t a x => show storeA E h t (ev tm a) (ev tm x) = storeA E h t (ev tm' a) (ev tm' x); rw [ha x (by simp [Op.operands]), ha a (by simp [Op.operands])]
  case insert t m k x => show mapUpdateA E h t (ev tm m) (ev tm k) (ev tm x) = mapUpdateA E h t (ev tm' m) (ev tm' k) (ev tm' x); rw [ha x (by simp [Op.operands]), ha m (by simp [Op.operands]), ha k (by simp [Op.operands])]
  case mapUpdate t m k x => show mapUpdateA E h t (ev tm m) (ev tm k) (ev tm x) = mapUpdateA E h t (ev tm' m) (ev tm' k) (ev tm' x); rw [ha x (by simp [Op.operands]), ha m (by simp [Op.operands]), ha k (by simp [Op.operands])]
  case mapEntry t m k => show mapEntryA E h t (ev tm m) (ev tm k) = mapEntryA E h t (ev tm' m) (ev tm' k); rw [ha m (by simp [Op.operands]), ha k (by simp [Op.operands])]
  case entryStore t m s x => show entryStoreA h (ev tm m) (ev tm s) (ev tm x) = entryStoreA h (ev tm' m) (ev tm' s) (ev tm' x); rw [ha x (by simp [Op.operands]), ha m (by simp [Op.operands]), ha s (by simp [Op.operands])]
  case convert s d x => show convA E s d (ev tm x) h = convA E s d (ev tm' x) h; rw [ha x (by simp [Op.operands])]
  case makeMap t r => show makeMapA E h t (evo tm r) = makeMapA E h t (evo tm' r); rw [evo_alike (o := r) (fun y hy => ha y (by subst hy; simp [Op.operands]))]
  case makeSlice t l c => show makeSliceA E h t (ev tm l) (ev tm c) = makeSliceA E h t (ev tm' l) (ev tm' c); rw [ha l (by simp [Op.operands]), ha c (by simp [Op.operands])]
  case range t x => show rangeA E h t (ev tm x) = rangeA E h t (ev tm' x); rw [ha x (by simp [Op.operands])]
  case next it isS => show nextA h (ev tm it) isS = nextA h (ev tm' it) isS; rw [ha it (by simp [Op.operands])]
  case call c =>
    show callA c E tm h = callA c E tm' h
    have h1 : evs tm c.args.toList = evs tm' c.args.toList := evs_alike (fun y hy => ha y (by simp only [Op.operands, Call.operands, Array.toList_append]; exact List.mem_append.2 (.inr hy)))
    unfold callA
    cases hc : c.callee with
    | builtin b => simp only [h1]
    | value g =>
      have h2 : ev tm g = ev tm' g := ha g (by simp only [Op.operands, Call.operands, Array.toList_append, hc]; exact List.mem_append.2 (.inl (by simp)))
      simp only [h1, h2]
    | invoke r m =>
      have h2 : ev tm r = ev tm' r := ha r (by simp only [Op.operands, Call.operands, Array.toList_append, hc]; exact List.mem_append.2 (.inl (by simp)))
      simp only [h1, h2]
  case defer c =>
    have h1 : evs tm c.args.toList = evs tm' c.args.toList := evs_alike (fun y hy => ha y (by simp only [Op.operands, Call.operands, Array.toList_append]; exact List.mem_append.2 (.inr hy)))
    show (match c.callee with
      | .value g => (match ev tm g with
        | .fn f a b => some (OR.dfr ⟨.fn f a b, evs tm c.args.toList⟩)
        | _ => none)
      | _ => none) = (match c.callee with
      | .value g => (match ev tm' g with
        | .fn f a b => some (OR.dfr ⟨.fn f a b, evs tm' c.args.toList⟩)
        | _ => none)
      | _ => none)
    cases hc : c.callee with
    | value g =>
      have h2 : ev tm g = ev tm' g := ha g (by simp only [Op.operands, Call.operands, Array.toList_append, hc]; exact List.mem_append.2 (.inl (by simp)))
      simp only [h1, h2]
    | _ => rfl
  all_goals rfl

/-- An operation that looks at no heap. -/
theorem quiet_blind {op : Op} (hr : readsHeap op = false) : quietOp op E tm h = quietOp op E tm h' := by
  cases op <;> first | rfl | cases hr

theorem obj_tr (ht : h.tr = h'.tr) (i : Nat) : h.obj i = h'.obj i := by unfold AH.obj; rw [ht]
theorem loadT_tr (ht : h.tr = h'.tr) (t : TypeId) (i o : Nat) : loadT E h t i o = loadT E h' t i o := by
  unfold loadT loadC; rw [obj_tr ht]
theorem quiet_tr (ht : h.tr = h'.tr) {op : Op} : quietOp op E tm h = quietOp op E tm h' := by
  cases op
  case load t a =>
    show (match ev tm a with | .ptr id off => loadT E h t id off | _ => none) = (match ev tm a with | .ptr id off => loadT E h' t id off | _ => none)
    cases ev tm a <;> first | rfl | exact loadT_tr ht _ _ _
  case lookup t x i ok =>
    show lookupA E h t (ev tm x) (ev tm i) ok = lookupA E h' t (ev tm x) (ev tm i) ok
    have : ∀ x, mapEs h x = mapEs h' x := fun x => by unfold mapEs; cases x <;> first | rfl | simp only [obj_tr ht]
    unfold lookupA
    simp only [this]
  case entry it =>
    show entryA h (ev tm it) = entryA h' (ev tm it)
    unfold entryA
    simp only [obj_tr ht]
  case call c =>
    show (match callB c with | some b => quietB E h b (evs tm c.args.toList) c.argTypes.toList | none => none) = (match callB c with | some b => quietB E h' b (evs tm c.args.toList) c.argTypes.toList | none => none)
    have : ∀ t x, lenA E h t x = lenA E h' t x := fun t x => by unfold lenA; simp only [obj_tr ht]
    have h2 : ∀ b as ts, quietB E h b as ts = quietB E h' b as ts := fun b as ts => by unfold quietB; simp only [this]
    simp only [h2]
  all_goals rfl

/-- A new object looks at no heap. -/
theorem loud_fresh {op : Op} (hf : freshKind op = true) {v : AV} (e : loudOp op E tm h = some (.val v h')) : ∃ o, h' = h.new o ∧ o.live ∧ ∀ h2 : AH, h2.nx = h.nx → loudOp op E tm h2 = some (.val v (h2.new o)) := by
  cases op <;> try (cases hf; done)
  case alloc t =>
    have e : allocA E h t = some (.val v h') := e
    unfold allocA at e
    split at e
    · rename_i ti ht
      cases e
      refine ⟨_, rfl, trivial, fun h2 hn => ?_⟩
      show allocA E h2 t = _
      unfold allocA
      rw [ht, hn]
    · cases e
  case box t x =>
    have e : boxA E h t (ev tm x) = some (.val v h') := e
    unfold boxA at e
    split at e
    · rename_i ti ht
      cases ha : (ev tm x).isAny with
      | true => rw [ha] at e; cases e
      | false =>
        rw [ha] at e
        cases e
        refine ⟨_, rfl, trivial, fun h2 hn => ?_⟩
        show boxA E h2 t (ev tm x) = _
        unfold boxA
        rw [ht, ha, hn]; rfl
    · cases e
  case buildSlice t l ps =>
    have e : buildSliceA E h t l (evp tm ps.toList) = some (.val v h') := e
    unfold buildSliceA at e
    split at e
    · rename_i el hd
      split at e
      · rename_i ei he
        cases hb : Nat.blt 65536 (l * ei.size) with
        | true => rw [hb] at e; cases e
        | false =>
          rw [hb] at e
          simp only [cond_false] at e
          cases hc : fillA (fun i => some (i * ei.size, ei.size)) (rep l ei.zero) (evp tm ps.toList) with
          | none => rw [hc] at e; cases e
          | some cs =>
            rw [hc] at e
            cases e
            refine ⟨_, rfl, trivial, fun h2 hn => ?_⟩
            show buildSliceA E h2 t l (evp tm ps.toList) = _
            unfold buildSliceA
            rw [hd]
            simp only [he, hb, hc, hn]
            rfl
      · cases e
    · cases e
  case makeMap t r =>
    have e : makeMapA E h t (evo tm r) = some (.val v h') := e
    unfold makeMapA at e
    split at e
    · rename_i hr
      cases e
      refine ⟨_, rfl, trivial, fun h2 hn => ?_⟩
      show makeMapA E h2 t (evo tm r) = _
      rw [hr]
      unfold makeMapA
      rw [hn]
    · rename_i k n hr
      split at e
      · rename_i a b hd
        cases e
        refine ⟨_, rfl, trivial, fun h2 hn => ?_⟩
        show makeMapA E h2 t (evo tm r) = _
        rw [hr]
        unfold makeMapA
        simp only [hd, hn]
      · cases e
    · cases e
end
end Go.Ev
/- Regions that draw their order: the run in the text's order, as data. -/
namespace Go.Ev
open Go.Conc (G)

structure Txt where
  tm : Nat → Tr AV
  h : Nat → AH
  ps : Nat → List (Nat × Nat × AO)
  v : Nat → AV
  ob : Nat → AO
  kind : Nat → Nat

section
variable (E : Env) (r : RunF) (x : AX) (ops : Array Oper) (b : Array Nat)

/-- What the run in the text's order did at operation j. -/
def Step1 (T : Txt) (qs : List DQ) (j : Nat) (o : Oper) : Prop :=
    (T.kind j = 0 ∧ wantedA o ops (T.tm j) = some false ∧ T.v j = undefA ∧ T.h (j + 1) = T.h j ∧ T.ps (j + 1) = T.ps j) ∨
    (T.kind j = 1 ∧ wantedA o ops (T.tm j) = some true ∧ freshKind o.op = true ∧ (T.h j).nx < 1000000 ∧ (∃ h', loudOp o.op E (T.tm j) (T.h j) = some (.val (T.v j) h') ∧ T.h (j + 1) = ⟨(T.h j).tr, h'.nx, h'.df⟩ ∧ T.ob j = h'.obj (T.h j).nx) ∧ T.ps (j + 1) = (j, (T.h j).nx, T.ob j) :: T.ps j) ∨
    (T.kind j = 2 ∧ wantedA o ops (T.tm j) = some true ∧ quietOp o.op E (T.tm j) (T.h j) = some (T.v j) ∧ T.h (j + 1) = T.h j ∧ T.ps (j + 1) = T.ps j ∧ (readsHeap o.op = true → ⟨o.op, j, T.tm j, T.v j⟩ ∈ qs)) ∨
    (T.kind j = 3 ∧ wantedA o ops (T.tm j) = some true ∧ loudD E r (wake (b.getD j 0) (T.ps j) (T.h j)).1 (loudOp o.op E (T.tm j) (wake (b.getD j 0) (T.ps j) (T.h j)).1) = some (T.v j, T.h (j + 1)) ∧ T.ps (j + 1) = (wake (b.getD j 0) (T.ps j) (T.h j)).2)
def Step (T : Txt) (qs : List DQ) (j : Nat) : Prop := ∃ o, ops[j]? = some o ∧ T.tm (j + 1) = fin x o.dst (T.v j) (T.tm j) ∧ Step1 E r ops b T qs j o
end

def loudL (T : Txt) (i k : Nat) : List (Nat × AH) := ((List.range' i k).filter fun j => T.kind j == 3).map fun j => (j, T.h (j + 1))

section
variable {E : Env} {r : RunF} {x : AX} {ops : Array Oper} {b : Array Nat} {h0 : AH}

def Txt.lay (T : Txt) (i : Nat) (tm : Tr AV) (h : AH) (ps : List (Nat × Nat × AO)) (v : AV) (ob : AO) (kind : Nat) : Txt where
  tm := fun j => if j = i then tm else T.tm j
  h := fun j => if j = i then h else T.h j
  ps := fun j => if j = i then ps else T.ps j
  v := fun j => if j = i then v else T.v j
  ob := fun j => if j = i then ob else T.ob j
  kind := fun j => if j = i then kind else T.kind j

theorem Step.lay {T : Txt} {qs : List DQ} {i j : Nat} {tm : Tr AV} {h : AH} {ps : List (Nat × Nat × AO)} {v : AV} {ob : AO} {k : Nat} (hj : i + 1 ≤ j) (H : Step E r x ops b T qs j) : Step E r x ops b (T.lay i tm h ps v ob k) qs j := by
  have h1 : j ≠ i := by omega
  have h2 : j + 1 ≠ i := by omega
  unfold Step Step1 Txt.lay at *
  simp only [if_neg h1, if_neg h2]
  exact H

theorem loudL_lay {T : Txt} {i k : Nat} {tm : Tr AV} {h : AH} {ps : List (Nat × Nat × AO)} {v : AV} {ob : AO} {kd : Nat} : loudL (T.lay i tm h ps v ob kd) i (k + 1) = (if kd = 3 then [(i, T.h (i + 1))] else []) ++ loudL T (i + 1) k := by
  have hrest : ((List.range' (i + 1) k).filter fun j => (T.lay i tm h ps v ob kd).kind j == 3).map (fun j => (j, (T.lay i tm h ps v ob kd).h (j + 1))) = loudL T (i + 1) k := by
    unfold loudL
    have e1 : ∀ j ∈ List.range' (i + 1) k, ((T.lay i tm h ps v ob kd).kind j == 3) = (T.kind j == 3) := fun j hj => by
      have : j ≠ i := by have := List.mem_range'_1.1 hj; omega
      simp [Txt.lay, this]
    rw [List.filter_congr e1]
    refine List.map_congr_left fun j hj => ?_
    have : j + 1 ≠ i := by have := List.mem_range'_1.1 (List.mem_filter.1 hj).1; omega
    simp [Txt.lay, this]
  show ((List.range' i (k + 1)).filter _).map _ = _
  rw [List.range'_succ, List.filter_cons]
  by_cases hk : kd = 3
  · have e : ((T.lay i tm h ps v ob kd).kind i == 3) = true := by simp [Txt.lay, hk]
    rw [if_pos e, if_pos hk, List.map_cons, hrest]
    simp [Txt.lay]
  · have e : ¬ ((T.lay i tm h ps v ob kd).kind i == 3) = true := by simp [Txt.lay, hk]
    rw [if_neg e, if_neg hk, hrest]
    rfl

theorem runD_txt : ∀ (l : List Oper) (i : Nat) (tm : Tr AV) (qs : List DQ) (hs : List (Nat × AH)) (ps : List (Nat × Nat × AO)) (h : AH) (p : Tr AV × AH), i ≤ ops.size → l = ops.toList.drop i →
    runD E r x b ops h0 l i tm qs hs ps h = some p → ∃ T qsF, T.tm i = tm ∧ T.h i = h ∧ T.ps i = ps ∧ (∀ j, i ≤ j → j < ops.size → Step E r x ops b T qsF j) ∧ (∀ q ∈ qs, q ∈ qsF) ∧
      chainOk b (hs.reverse ++ loudL T i (ops.size - i)) = true ∧ (∀ q ∈ qsF, quietOk E b (hs.reverse ++ loudL T i (ops.size - i)) h0 q = true) ∧ p = (T.tm ops.size, putAll (T.ps ops.size) (T.h ops.size)) := by
  intro l
  induction l with
  | nil =>
    intro i tm qs hs ps h p hi hl e
    have hi' : i = ops.size := by
      rcases Nat.lt_or_ge i ops.toList.length with h | h
      · rw [List.drop_eq_getElem_cons h] at hl; cases hl
      · simp at h; omega
    subst hi'
    unfold runD at e
    cases hc : (chainOk b hs.reverse && qs.all (quietOk E b hs.reverse h0)) with
    | false => rw [hc] at e; cases e
    | true =>
      rw [hc] at e
      rw [Bool.and_eq_true, List.all_eq_true] at hc
      cases e
      refine ⟨⟨fun _ => tm, fun _ => h, fun _ => ps, fun _ => .any, fun _ => .dead, fun _ => 0⟩, qs, rfl, rfl, rfl, fun j h1 h2 => by omega, fun q hq => hq, ?_, ?_, rfl⟩
      · simp [loudL]; exact hc.1
      · simpa [loudL] using hc.2
  | cons o os ih =>
    intro i tm qs hs ps h p hi hl e
    obtain ⟨ho, hos, _⟩ := drop_cons hl
    have hlt : i < ops.size := by
      rcases Nat.lt_or_ge i ops.size with h | h
      · exact h
      · rw [Array.getElem?_eq_none h] at ho; cases ho
    have hk : ops.size - i = (ops.size - (i + 1)) + 1 := by omega
    have go : ∀ {tm1 : Tr AV} {qs1 : List DQ} {hs1 : List (Nat × AH)} {ps1 : List (Nat × Nat × AO)} {h1 : AH} (v : AV) (ob : AO) (k : Nat), runD E r x b ops h0 os (i + 1) tm1 qs1 hs1 ps1 h1 = some p → tm1 = fin x o.dst v tm → (∀ q ∈ qs, q ∈ qs1) →
        (hs1.reverse = hs.reverse ++ (if k = 3 then [(i, h1)] else [])) →
        (∀ T qsF, T.tm i = tm → T.h i = h → T.ps i = ps → T.v i = v → T.ob i = ob → T.kind i = k → T.h (i + 1) = h1 → T.ps (i + 1) = ps1 → (∀ q ∈ qs1, q ∈ qsF) → Step1 E r ops b T qsF i o) →
        ∃ T qsF, T.tm i = tm ∧ T.h i = h ∧ T.ps i = ps ∧ (∀ j, i ≤ j → j < ops.size → Step E r x ops b T qsF j) ∧ (∀ q ∈ qs, q ∈ qsF) ∧
      chainOk b (hs.reverse ++ loudL T i (ops.size - i)) = true ∧ (∀ q ∈ qsF, quietOk E b (hs.reverse ++ loudL T i (ops.size - i)) h0 q = true) ∧ p = (T.tm ops.size, putAll (T.ps ops.size) (T.h ops.size)) := by
      intro tm1 qs1 hs1 ps1 h1 v ob k e1 htm hqs hhs hst
      obtain ⟨T, qsF, t1, t2, t3, t4, t5, t6, t7, t8⟩ := ih (i + 1) tm1 qs1 hs1 ps1 h1 p (by omega) hos e1
      have hL : hs.reverse ++ loudL (T.lay i tm h ps v ob k) i (ops.size - i) = hs1.reverse ++ loudL T (i + 1) (ops.size - (i + 1)) := by
        rw [hk, loudL_lay, hhs, t2, List.append_assoc]
      have hs1 : ops.size ≠ i := by omega
      refine ⟨T.lay i tm h ps v ob k, qsF, by simp [Txt.lay], by simp [Txt.lay], by simp [Txt.lay], fun j h1 h2 => ?_, fun q hq => t5 q (hqs q hq), by rw [hL]; exact t6, by rw [hL]; exact t7, by rw [t8]; simp [Txt.lay, hs1]⟩
      rcases Nat.eq_or_lt_of_le h1 with rfl | h1
      · refine ⟨o, ho, ?_, hst _ _ (by simp [Txt.lay]) (by simp [Txt.lay]) (by simp [Txt.lay]) (by simp [Txt.lay]) (by simp [Txt.lay]) (by simp [Txt.lay]) (by simp [Txt.lay, t2]) (by simp [Txt.lay, t3]) t5⟩
        simp [Txt.lay, t1, htm]
      · exact (t4 j h1 h2).lay h1
    unfold runD at e
    split at e
    · cases e
    · rename_i hw
      exact go undefA .dead 0 e rfl (fun q hq => hq) (by simp) (fun T qsF a1 a2 a3 a4 a5 a6 a7 a8 a9 => .inl ⟨a6, by rw [a1]; exact hw, a4, by rw [a7, a2], by rw [a8, a3]⟩)
    · rename_i hw
      cases hf : freshKind o.op with
      | true =>
        rw [hf] at e
        simp only [cond_true] at e
        split at e
        · rename_i v h' hl'
          cases hb : Nat.blt h.nx 1000000 with
          | false => rw [hb] at e; cases e
          | true =>
            rw [hb] at e
            rw [Nat.blt_eq] at hb
            refine go v (h'.obj h.nx) 1 e rfl (fun q hq => hq) (by simp) (fun T qsF a1 a2 a3 a4 a5 a6 a7 a8 a9 => .inr (.inl ⟨a6, by rw [a1]; exact hw, hf, by rw [a2]; exact hb, ⟨h', by rw [a1, a2, a4]; exact hl', by rw [a7, a2], by rw [a5, a2]⟩, by rw [a8, a3, a2, a5]⟩))
        · cases e
      | false =>
        rw [hf] at e
        simp only [cond_false] at e
        split at e
        · rename_i v hq
          refine go v .dead 2 e rfl (fun q hq => ?_) (by simp) (fun T qsF a1 a2 a3 a4 a5 a6 a7 a8 a9 => .inr (.inr (.inl ⟨a6, by rw [a1]; exact hw, by rw [a1, a2, a4]; exact hq, by rw [a7, a2], by rw [a8, a3], fun hr => ?_⟩)))
          · cases readsHeap o.op with
            | true => exact List.mem_cons_of_mem _ hq
            | false => exact hq
          · refine a9 _ ?_
            rw [hr, a1, a4]
            exact List.mem_cons_self ..
        · split at e
          · rename_i q hq
            refine go q.1 .dead 3 e rfl (fun q hq => hq) (by simp) (fun T qsF a1 a2 a3 a4 a5 a6 a7 a8 a9 => .inr (.inr (.inr ⟨a6, by rw [a1]; exact hw, by rw [a1, a2, a3, a4, a7]; exact hq, by rw [a8, a2, a3]⟩)))
          · cases e

/-! ### the order -/
theorem foldl_edges (acc : Array Nat) : ∀ (l : List Edge) (s p : Nat), (l.foldl (fun s e => if Region.binds .any e then s ||| 2 ^ e.on ||| acc.getD e.on 0 else s) s).testBit p = true →
    s.testBit p = true ∨ ∃ e ∈ l, Region.binds .any e = true ∧ (p = e.on ∨ (acc.getD e.on 0).testBit p = true)
  | [], s, p, h => .inl h
  | e :: l, s, p, h => by
    rw [List.foldl_cons] at h
    rcases foldl_edges acc l _ p h with h | ⟨e', he, h1, h2⟩
    · by_cases hb : Region.binds .any e = true
      · rw [if_pos hb] at h
        rw [Nat.testBit_or, Nat.testBit_or, Bool.or_eq_true, Bool.or_eq_true] at h
        rcases h with (h | h) | h
        · exact .inl h
        · exact .inr ⟨e, by simp, hb, .inl (by rw [Nat.testBit_two_pow] at h; have := of_decide_eq_true h; omega)⟩
        · exact .inr ⟨e, by simp, hb, .inr h⟩
      · rw [if_neg hb] at h; exact .inl h
    · exact .inr ⟨e', List.mem_cons_of_mem _ he, h1, h2⟩

theorem before_gen : ∀ (l : List Oper) (acc : Array Nat) (ops : List Oper), ops.drop acc.size = l → (∀ i o, i < acc.size → ops[i]? = some o → ∀ p, (acc.getD i 0).testBit p = true → ∃ e ∈ o.after, Region.binds .any e = true ∧ (p = e.on ∨ (e.on < i ∧ (acc.getD e.on 0).testBit p = true))) →
    ∀ i o, ops[i]? = some o → ∀ p, ((l.foldl (fun acc o => acc.push (o.after.foldl (fun s e => if Region.binds .any e then s ||| 2 ^ e.on ||| acc.getD e.on 0 else s) 0)) acc).getD i 0).testBit p = true →
      ∃ e ∈ o.after, Region.binds .any e = true ∧ (p = e.on ∨ (e.on < i ∧ ((l.foldl (fun acc o => acc.push (o.after.foldl (fun s e => if Region.binds .any e then s ||| 2 ^ e.on ||| acc.getD e.on 0 else s) 0)) acc).getD e.on 0).testBit p = true))
  | [], acc, ops, hd, hA, i, o, ho, p, hp => by
    have hle : ops.length ≤ acc.size := by
      rcases Nat.lt_or_ge acc.size ops.length with h | h
      · rw [List.drop_eq_getElem_cons h] at hd; cases hd
      · exact h
    have hi : i < ops.length := by
      rcases Nat.lt_or_ge i ops.length with h | h
      · exact h
      · rw [List.getElem?_eq_none h] at ho; cases ho
    exact hA i o (by omega) ho p hp
  | o' :: l, acc, ops, hd, hA, i, o, ho, p, hp => by
    have hlt : acc.size < ops.length := by
      rcases Nat.lt_or_ge acc.size ops.length with h | h
      · exact h
      · rw [List.drop_eq_nil_of_le h] at hd; cases hd
    have hd2 := hd
    rw [List.drop_eq_getElem_cons hlt] at hd2
    injection hd2 with e1 e2
    simp only [List.foldl_cons] at hp ⊢
    refine before_gen l _ ops (by rw [Array.size_push]; exact e2) (fun j oj hj hoj q hq => ?_) i o ho p hp
    rw [Array.size_push] at hj
    have get_old : ∀ k y, k < acc.size → (acc.push y).getD k 0 = acc.getD k 0 := fun k y hk => by
      rw [Array.getD_eq_getD_getElem?, Array.getD_eq_getD_getElem?, Array.getElem?_push]
      rw [if_neg (by omega)]
    rcases Nat.lt_or_ge j acc.size with hj' | hj'
    · rw [get_old j _ hj'] at hq
      obtain ⟨e, he, hb, hh⟩ := hA j oj hj' hoj q hq
      refine ⟨e, he, hb, hh.imp id fun hh => ⟨hh.1, ?_⟩⟩
      rw [get_old _ _ (by omega)]; exact hh.2
    · have hjs : j = acc.size := by omega
      subst hjs
      have hoo : oj = o' := by
        rw [List.getElem?_eq_getElem hlt] at hoj
        cases hoj; exact e1
      subst hoo
      have : (acc.push (oj.after.foldl (fun s e => if Region.binds .any e then s ||| 2 ^ e.on ||| acc.getD e.on 0 else s) 0)).getD acc.size 0 = oj.after.foldl (fun s e => if Region.binds .any e then s ||| 2 ^ e.on ||| acc.getD e.on 0 else s) 0 := by
        rw [Array.getD_eq_getD_getElem?, Array.getElem?_push]; simp
      rw [this, ← Array.foldl_toList] at hq
      rcases foldl_edges acc oj.after.toList 0 q hq with h | ⟨e, he, hb, hh⟩
      · simp at h
      · refine ⟨e, Array.mem_toList_iff.1 he, hb, ?_⟩
        rcases hh with hh | hh
        · exact .inl hh
        · right
          have hlt2 : e.on < acc.size := by
            rcases Nat.lt_or_ge e.on acc.size with h | h
            · exact h
            · rw [Array.getD_eq_getD_getElem?, Array.getElem?_eq_none h] at hh
              simp at hh
          exact ⟨hlt2, by rw [get_old _ _ hlt2]; exact hh⟩

theorem before_edge {ops : Array Oper} {i : Nat} {o : Oper} (ho : ops[i]? = some o) {p : Nat} (hp : ((Region.before ops).getD i 0).testBit p = true) :
    ∃ e ∈ o.after, Region.binds .any e = true ∧ (p = e.on ∨ (e.on < i ∧ ((Region.before ops).getD e.on 0).testBit p = true)) := by
  have h := before_gen ops.toList #[] ops.toList rfl (fun i o hi => by simp at hi) i o (by simpa using ho) p
  have e : Region.before ops = ops.toList.foldl (fun acc o => acc.push (o.after.foldl (fun s e => if Region.binds .any e then s ||| 2 ^ e.on ||| acc.getD e.on 0 else s) 0)) #[] := by
    unfold Region.before
    rw [← Array.foldl_toList]
  rw [e] at hp ⊢
  exact h hp
theorem before_none {ops : Array Oper} {i : Nat} (hi : ops.size ≤ i) : (Region.before ops).getD i 0 = 0 := by
  have hs : ∀ (l : List Oper) (acc : Array Nat), (l.foldl (fun acc o => acc.push (o.after.foldl (fun s e => if Region.binds .any e then s ||| 2 ^ e.on ||| acc.getD e.on 0 else s) 0)) acc).size = acc.size + l.length := by
    intro l
    induction l with
    | nil => intro acc; rfl
    | cons o l ih => intro acc; rw [List.foldl_cons, ih, Array.size_push, List.length_cons]; omega
  have : (Region.before ops).size = ops.size := by
    unfold Region.before
    rw [← Array.foldl_toList, hs]; simp
  rw [Array.getD_eq_getD_getElem?, Array.getElem?_eq_none (by omega)]; rfl

/-- What 'regOk' says. -/
structure RegFacts (ops : Array Oper) : Prop where
  edge : ∀ (i : Nat) (o : Oper), ops[i]? = some o → ∀ e ∈ o.after, Region.binds .any e = true → e.on < i
  dst : ∀ (i : Nat) (o : Oper) (d : Nat), ops[i]? = some o → o.dst = some d → d < 1000000
  comp : ∀ (i j : Nat) (oi oj : Oper) (d : Nat), ops[i]? = some oi → ops[j]? = some oj → i ≠ j → oj.dst = some d → (oi.dst = some d ∨ d ∈ oi.looksAt ops) → ((Region.before ops).getD i 0).testBit j = true ∨ ((Region.before ops).getD j 0).testBit i = true

theorem regFacts {ops : Array Oper} (h : regOk ops.toList (Region.before ops) ops = true) : RegFacts ops := by
  unfold regOk at h
  rw [Bool.and_eq_true, List.all_eq_true, List.all_eq_true] at h
  obtain ⟨h1, h2⟩ := h
  have hm : ∀ {i : Nat} {o : Oper}, ops[i]? = some o → (o, i) ∈ ops.toList.zipIdx := fun {i o} ho => by
    rw [List.mem_zipIdx_iff_getElem?]; simpa using ho
  refine ⟨fun i o ho e he hb => ?_, fun i o d ho hd => ?_, fun i j oi oj d hi hj hne hd hor => ?_⟩
  · have := h1 _ (hm ho)
    rw [Bool.and_eq_true, List.all_eq_true] at this
    have := this.1 e (by simpa using he)
    simp only [hb, Bool.not_true, Bool.false_or] at this
    rw [Nat.blt_eq] at this; exact this
  · have := h1 _ (hm ho)
    rw [Bool.and_eq_true] at this
    have := this.2
    simp only [hd] at this
    rw [Nat.blt_eq] at this; exact this
  · have := h2 _ (hm hi)
    rw [List.all_eq_true] at this
    have := this _ (hm hj)
    simp only [hd] at this
    have hne' : Nat.beq i j = false := by cases hb : Nat.beq i j with | false => rfl | true => exact absurd (Nat.eq_of_beq_eq_true hb) hne
    have hor' : ((oi.dst == some d) || (oi.looksAt ops).contains d) = true := by
      rw [Bool.or_eq_true]
      rcases hor with h | h
      · left; rw [h]; simp
      · right; simpa using h
    rw [hne', hor'] at this
    simp only [Bool.false_or, Bool.not_true, Bool.or_eq_true] at this
    exact this

theorem before_lt {ops : Array Oper} (R : RegFacts ops) : ∀ (i : Nat) (p : Nat), ((Region.before ops).getD i 0).testBit p = true → p < i := by
  intro i
  induction i using Nat.strongRecOn with
  | ind i ih =>
    intro p hp
    rcases Nat.lt_or_ge i ops.size with hi | hi
    · have ho : ops[i]? = some ops[i] := Array.getElem?_eq_getElem hi
      obtain ⟨e, he, hb, hh⟩ := before_edge ho hp
      have := R.edge i _ ho e he hb
      rcases hh with rfl | ⟨h1, h2⟩
      · exact this
      · have := ih _ h1 p h2; omega
    · rw [before_none hi] at hp; simp at hp
end
end Go.Ev
/- Regions that draw their order: small laws. -/
namespace Go.Ev
open Go.Conc (G)

def Bf (ops : Array Oper) (i p : Nat) : Prop := ((Region.before ops).getD i 0).testBit p = true

/-! ### what lies ready to be laid -/
theorem wake_get (m : Nat) : ∀ (ps : List (Nat × Nat × AO)) (h : AH) {i : Nat} {o : AO}, (wake m ps h).1.tr.get i = some o → h.tr.get i = some o ∨ ∃ e ∈ ps, m.testBit e.1 = true ∧ i = e.2.1 ∧ o = e.2.2
  | [], h, i, o, e => .inl e
  | p :: ps, h, i, o, e => by
    unfold wake at e
    have ih := wake_get m ps h (i := i) (o := o)
    cases hb : m.testBit p.1 with
    | true =>
      simp only [hb, cond_true] at e
      rcases AH.put_get e with ⟨rfl, rfl⟩ | ⟨_, e'⟩
      · exact .inr ⟨p, by simp, hb, rfl, rfl⟩
      · rcases ih e' with h1 | ⟨q, hq, h1⟩
        · exact .inl h1
        · exact .inr ⟨q, List.mem_cons_of_mem _ hq, h1⟩
    | false =>
      simp only [hb, cond_false] at e
      rcases ih e with h1 | ⟨q, hq, h1⟩
      · exact .inl h1
      · exact .inr ⟨q, List.mem_cons_of_mem _ hq, h1⟩
theorem wake_mem (m : Nat) : ∀ (ps : List (Nat × Nat × AO)) (h : AH) {e : Nat × Nat × AO}, e ∈ (wake m ps h).2 → e ∈ ps ∧ m.testBit e.1 = false
  | [], _, e, he => by simp [wake] at he
  | p :: ps, h, e, he => by
    unfold wake at he
    have ih := wake_mem m ps h (e := e)
    cases hb : m.testBit p.1 with
    | true =>
      simp only [hb, cond_true] at he
      exact ⟨List.mem_cons_of_mem _ (ih he).1, (ih he).2⟩
    | false =>
      simp only [hb, cond_false] at he
      rcases List.mem_cons.1 he with rfl | he
      · exact ⟨by simp, hb⟩
      · exact ⟨List.mem_cons_of_mem _ (ih he).1, (ih he).2⟩
theorem wake_df (m : Nat) : ∀ (ps : List (Nat × Nat × AO)) (h : AH), (wake m ps h).1.df = h.df
  | [], _ => rfl
  | p :: ps, h => by
    unfold wake
    have ih := wake_df m ps h
    cases hb : m.testBit p.1 with
    | true => simp only [cond_true]; rw [AH.put_df]; exact ih
    | false => simp only [cond_false]; exact ih
theorem putAll_df : ∀ (ps : List (Nat × Nat × AO)) (h : AH), (putAll ps h).df = h.df
  | [], _ => rfl
  | p :: ps, h => by unfold putAll; rw [putAll_df ps, AH.put_df]
theorem putAll_get : ∀ (ps : List (Nat × Nat × AO)) (h : AH) {i : Nat} {o : AO}, (putAll ps h).tr.get i = some o → h.tr.get i = some o ∨ ∃ e ∈ ps, i = e.2.1 ∧ o = e.2.2
  | [], h, i, o, e => .inl e
  | p :: ps, h, i, o, e => by
    unfold putAll at e
    rcases putAll_get ps _ e with h1 | ⟨q, hq, h1⟩
    · rcases AH.put_get h1 with ⟨rfl, rfl⟩ | ⟨_, h2⟩
      · exact .inr ⟨p, by simp, rfl, rfl⟩
      · exact .inl h2
    · exact .inr ⟨q, List.mem_cons_of_mem _ hq, h1⟩

/-! ### temporaries behind a set of operations -/
section
variable {x : AX} {ops : Array Oper} {T : Txt}
def dstOf (ops : Array Oper) (j : Nat) : Option Tmp := (ops[j]?).bind (·.dst)
noncomputable def tmD (x : AX) (ops : Array Oper) (T : Txt) (D : Nat → Bool) : Nat → Tr AV
  | 0 => T.tm 0
  | j + 1 => cond (D j) (fin x (dstOf ops j) (T.v j) (tmD x ops T D j)) (tmD x ops T D j)

theorem dst_small (R : RegFacts ops) {j t : Nat} (h : dstOf ops j = some t) : t < 1000000 := by
  unfold dstOf at h
  cases ho : ops[j]? with
  | none => rw [ho] at h; cases h
  | some o => rw [ho] at h; exact R.dst j o t ho h

theorem tmD_all (hs : ∀ j, j < ops.size → T.tm (j + 1) = fin x (dstOf ops j) (T.v j) (T.tm j)) {D : Nat → Bool} : ∀ j, j ≤ ops.size → (∀ i, i < j → D i = true) → tmD x ops T D j = T.tm j
  | 0, _, _ => rfl
  | j + 1, h, hD => by
    unfold tmD
    rw [hD j (by omega), cond_true, tmD_all hs j (by omega) (fun i hi => hD i (by omega)), hs j (by omega)]

theorem tmD_congr (R : RegFacts ops) {D D' : Nat → Bool} {t : Nat} : ∀ n, (∀ j, j < n → dstOf ops j = some t → D j = D' j) → (tmD x ops T D n).get t = (tmD x ops T D' n).get t
  | 0, _ => rfl
  | n + 1, h => by
    have ih := tmD_congr R (D := D) (D' := D') (t := t) n fun j hj => h j (by omega)
    unfold tmD
    by_cases hd : dstOf ops n = some t
    · rw [h n (by omega) hd]
      cases D' n with
      | true => simp only [cond_true]; rw [fin_get (fun i hi => dst_small R hi), fin_get (fun i hi => dst_small R hi), if_pos hd, if_pos hd]
      | false => exact ih
    · have key : ∀ (b : Bool) (tm : Tr AV), (cond b (fin x (dstOf ops n) (T.v n) tm) tm).get t = tm.get t := fun b tm => by
        cases b with
        | true => simp only [cond_true]; rw [fin_get (fun i hi => dst_small R hi), if_neg hd]
        | false => rfl
      rw [key, key]; exact ih

theorem tmD_below {q : Nat} : ∀ n, q ≤ n → tmD x ops T (fun j => decide (j < q)) n = tmD x ops T (fun j => decide (j < q)) q
  | 0, h => by have : q = 0 := by omega
               subst this; rfl
  | n + 1, h => by
    rcases Nat.eq_or_lt_of_le h with rfl | h
    · rfl
    · have ih := tmD_below n (by omega : q ≤ n)
      show cond (decide (n < q)) _ _ = _
      have : decide (n < q) = false := by simp; omega
      rw [this, cond_false]; exact ih

theorem tmD_last (R : RegFacts ops) {D : Nat → Bool} {q t : Nat} (hq : D q = true) (hd : dstOf ops q = some t) : ∀ n, q < n → (∀ j, q < j → j < n → D j = true → dstOf ops j ≠ some t) → (tmD x ops T D n).get t = some (cond (Nat.blt t x.nt) (T.v q) undefA)
  | 0, h, _ => by omega
  | n + 1, h, hl => by
    unfold tmD
    rcases Nat.eq_or_lt_of_le h with h | h
    · have : n = q := by omega
      subst this
      rw [hq, cond_true, fin_get (fun i hi => dst_small R hi), if_pos hd]
    · have ih := tmD_last R hq hd n (by omega) fun j h1 h2 => hl j h1 (by omega)
      cases hD : D n with
      | true =>
        simp only [cond_true]
        rw [fin_get (fun i hi => dst_small R hi), if_neg (hl n (by omega) (by omega) hD)]
        exact ih
      | false => exact ih

/-- Closed, and everything ahead of q is there. -/
structure Ready (ops : Array Oper) (D : Nat → Bool) (q : Nat) : Prop where
  lt : q < ops.size
  no : D q = false
  ahead : ∀ p, Bf ops q p → D p = true
def Closed (ops : Array Oper) (D : Nat → Bool) : Prop := ∀ i, D i = true → ∀ p, Bf ops i p → D p = true
def addD (D : Nat → Bool) (q : Nat) : Nat → Bool := fun j => D j || j == q

theorem addD_self (D : Nat → Bool) (q : Nat) : addD D q q = true := by simp [addD]
theorem addD_ne {D : Nat → Bool} {q j : Nat} (h : j ≠ q) : addD D q j = D j := by simp [addD, h]
theorem addD_of {D : Nat → Bool} {q j : Nat} (h : D j = true) : addD D q j = true := by simp [addD, h]
theorem Closed.add {D : Nat → Bool} {q : Nat} (h : Closed ops D) (hq : Ready ops D q) : Closed ops (addD D q) := fun i hi p hp => by
  by_cases he : i = q
  · subst he; exact addD_of (hq.ahead p hp)
  · rw [addD_ne he] at hi; exact addD_of (h i hi p hp)

theorem some_oper {j : Nat} (h : j < ops.size) : ∃ o, ops[j]? = some o := ⟨ops[j], Array.getElem?_eq_getElem h⟩
theorem dstOf_of {j : Nat} {o : Oper} (h : ops[j]? = some o) : dstOf ops j = o.dst := by unfold dstOf; rw [h]; rfl

/-- Who writes what q looks at, or writes too, has been if and only if it stands ahead of q in the text. -/
theorem writers (R : RegFacts ops) {D : Nat → Bool} (hc : Closed ops D) {q : Nat} (hq : Ready ops D q) {o : Oper} (ho : ops[q]? = some o) {t : Nat} (ht : o.dst = some t ∨ t ∈ o.looksAt ops) {j : Nat} (hj : j < ops.size) (hne : q ≠ j) (hd : dstOf ops j = some t) : D j = decide (j < q) := by
  obtain ⟨oj, hoj⟩ := some_oper hj
  rw [dstOf_of hoj] at hd
  rcases R.comp q j o oj t ho hoj hne hd ht with h | h
  · have h1 : D j = true := hq.ahead j h
    have h2 := before_lt R q j h
    rw [h1]; simp [h2]
  · have h2 := before_lt R j q h
    have h1 : D j = false := by
      cases hDj : D j with
      | false => rfl
      | true => have := hc j hDj q h; rw [hq.no] at this; cases this
    rw [h1]; simp; omega

theorem look_same (R : RegFacts ops) (hs : ∀ j, j < ops.size → T.tm (j + 1) = fin x (dstOf ops j) (T.v j) (T.tm j)) {D : Nat → Bool} (hc : Closed ops D) {q : Nat} (hq : Ready ops D q) {o : Oper} (ho : ops[q]? = some o) {t : Nat} (ht : t ∈ o.looksAt ops) :
    (tmD x ops T D ops.size).get t = (T.tm q).get t := by
  have h1 : tmD x ops T (fun j => decide (j < q)) ops.size = T.tm q := by
    rw [tmD_below ops.size (Nat.le_of_lt hq.lt)]
    exact tmD_all hs q (Nat.le_of_lt hq.lt) fun i hi => by simp [hi]
  rw [← h1]
  refine tmD_congr R ops.size fun j hj hd => ?_
  by_cases he : q = j
  · subst he; rw [hq.no]; simp
  · exact writers R hc hq ho (.inr ht) hj he hd

theorem tmD_add (R : RegFacts ops) {D : Nat → Bool} (hc : Closed ops D) {q : Nat} (hq : Ready ops D q) {o : Oper} (ho : ops[q]? = some o) (t : Nat) :
    (tmD x ops T (addD D q) ops.size).get t = (fin x o.dst (T.v q) (tmD x ops T D ops.size)).get t := by
  rw [fin_get (fun i hi => R.dst q o i ho hi)]
  by_cases hd : o.dst = some t
  · rw [if_pos hd]
    refine tmD_last R (addD_self D q) (by rw [dstOf_of ho]; exact hd) ops.size hq.lt fun j h1 h2 h3 h4 => ?_
    rw [addD_ne (by omega)] at h3
    have := writers R hc hq ho (.inl hd) h2 (by omega) h4
    rw [h3] at this
    simp at this; omega
  · rw [if_neg hd]
    refine tmD_congr R ops.size fun j hj hdj => addD_ne fun e => ?_
    subst e
    rw [dstOf_of ho] at hdj
    exact hd hdj

theorem look_alike {o : Oper} {tm tm' : Tr AV} (h : ∀ t ∈ o.looksAt ops, tm.get t = tm'.get t) : Alike tm tm' o.op.operands.toList := fun y hy => by
  cases y with
  | tmp t =>
    have : t ∈ o.looksAt ops := by
      unfold Oper.looksAt
      refine List.mem_append.2 (.inl ?_)
      rw [List.mem_filterMap]
      exact ⟨_, hy, rfl⟩
    show (match tm.get t with | some v => v | none => .any) = (match tm'.get t with | some v => v | none => .any)
    rw [h t this]
  | const v => rfl
  | global g => rfl
  | func g => rfl
theorem look_wanted {o : Oper} {tm tm' : Tr AV} (h : ∀ t ∈ o.looksAt ops, tm.get t = tm'.get t) : wantedA o ops tm = wantedA o ops tm' := by
  unfold wantedA
  cases hg : o.guard with
  | none => rfl
  | some p =>
    simp only
    unfold guardA
    cases hj : ops[p.1]? with
    | none => rfl
    | some oj =>
      simp only
      cases hd : oj.dst with
      | none => rfl
      | some d =>
        simp only
        have : d ∈ o.looksAt ops := by
          unfold Oper.looksAt
          refine List.mem_append.2 (.inr ?_)
          rw [hg]
          simp [hj, hd]
        rw [h d this]
end

/-! ### the chain of loud operations -/
theorem chain_pairs {ops : Array Oper} {C : (Nat → Bool) → Prop} (hC : ∀ D, C D → Closed ops D) : ∀ {L : List (Nat × AH)}, chainOk (Region.before ops) L = true → L.Pairwise fun p q => ∀ D, C D → D q.1 = true → D p.1 = true
  | [], _ => .nil
  | [_], _ => List.pairwise_singleton _ _
  | p :: q :: l, h => by
    unfold chainOk at h
    rw [Bool.and_eq_true] at h
    have ih := chain_pairs hC (L := q :: l) h.2
    have hpq : ∀ D, C D → D q.1 = true → D p.1 = true := fun D hD hq => hC D hD q.1 hq p.1 h.1
    refine List.pairwise_cons.2 ⟨fun s hs => ?_, ih⟩
    rcases List.mem_cons.1 hs with rfl | hs
    · exact hpq
    · exact fun D hD h1 => hpq D hD ((List.pairwise_cons.1 ih).1 s hs D hD h1)

theorem pairs_of_lt {α : Type} {R : α → α → Prop} {f : α → Nat} : ∀ {L : List α}, L.Pairwise R → L.Pairwise (fun a b => f a < f b) → ∀ a ∈ L, ∀ b ∈ L, f a < f b → R a b
  | [], _, _, a, ha, _, _, _ => by simp at ha
  | x :: l, h1, h2, a, ha, b, hb, hlt => by
    rw [List.pairwise_cons] at h1 h2
    rcases List.mem_cons.1 ha with e1 | ha' <;> rcases List.mem_cons.1 hb with e2 | hb'
    · subst e1; subst e2; omega
    · subst e1; exact h1.1 b hb'
    · subst e2; have := h2.1 a ha'; omega
    · exact pairs_of_lt h1.2 h2.2 a ha' b hb' hlt

theorem loudL_sorted (T : Txt) (i k : Nat) : (loudL T i k).Pairwise fun a b => a.1 < b.1 := by
  unfold loudL
  rw [List.pairwise_map]
  exact (List.pairwise_lt_range' (s := i) (n := k)).filter _
theorem mem_loudL {T : Txt} {i k j : Nat} (h1 : i ≤ j) (h2 : j < i + k) (h3 : T.kind j = 3) : (j, T.h (j + 1)) ∈ loudL T i k := by
  unfold loudL
  refine List.mem_map.2 ⟨j, List.mem_filter.2 ⟨List.mem_range'_1.2 ⟨h1, h2⟩, by simp [h3]⟩, rfl⟩
theorem of_mem_loudL {T : Txt} {i k : Nat} {p : Nat × AH} (h : p ∈ loudL T i k) : i ≤ p.1 ∧ p.1 < i + k ∧ T.kind p.1 = 3 ∧ p.2 = T.h (p.1 + 1) := by
  unfold loudL at h
  obtain ⟨j, hj, rfl⟩ := List.mem_map.1 h
  obtain ⟨h1, h2⟩ := List.mem_filter.1 hj
  have := List.mem_range'_1.1 h1
  exact ⟨this.1, this.2, by simpa using h2, rfl⟩

/-- A quiet operation behind the last loud one that has been. -/
theorem quietOkL_at {E : Env} {b : Array Nat} {q : DQ} {m : Nat} : ∀ {L : List (Nat × AH)}, quietOkL E b q L = true → L.Pairwise (fun a b => a.1 < b.1) → (∀ s ∈ L, m ≤ s.1 → (b.getD q.i 0).testBit s.1 = false) → (∀ s ∈ L, s.1 < m → (b.getD s.1 0).testBit q.i = false) →
    ∀ p ∈ L, p.1 < m → (∀ s ∈ L, s.1 < m → s.1 ≤ p.1) → atHeap E q p.2 = true
  | [], _, _, _, _, p, hp, _, _ => by simp at hp
  | y :: l, h, hs, h1, h2, p, hp, hm, hmax => by
    unfold quietOkL at h
    rw [List.pairwise_cons] at hs
    rcases List.mem_cons.1 hp with rfl | hp
    · have e1 : (b.getD p.1 0).testBit q.i = false := h2 p (by simp) hm
      have e2 : (l.any fun x => (b.getD q.i 0).testBit x.1) = false := by
        rw [List.any_eq_false]
        intro s hs'
        have hlt := hs.1 s hs'
        have : m ≤ s.1 := by
          rcases Nat.lt_or_ge s.1 m with h | h
          · have := hmax s (by simp [hs']) h; omega
          · exact h
        rw [h1 s (by simp [hs']) this]; simp
      rw [e1, e2] at h
      simp only [Bool.or_self, cond_false, Bool.and_eq_true] at h
      exact h.1
    · have : quietOkL E b q l = true := by
        cases hc : ((b.getD y.1 0).testBit q.i || l.any fun x => (b.getD q.i 0).testBit x.1) with
        | true => rw [hc] at h; exact h
        | false => rw [hc] at h; simp only [cond_false, Bool.and_eq_true] at h; exact h.2
      exact quietOkL_at this hs.2 (fun s hs' => h1 s (by simp [hs'])) (fun s hs' => h2 s (by simp [hs'])) p hp hm fun s hs' => hmax s (by simp [hs'])
end Go.Ev
/- Regions that draw their order: one loud operation; what holds between operations. -/
namespace Go.Ev
open Go.Conc (G)
section
variable {P : Program} {main : Bool} {K : Ctx} {ι : Nm} {h : AH} {w : World} {E : Env} {r : RunF}
variable {x : AX} {tm : Tr AV} {ds : List AD} {ops : Array Oper} {i : Nat} {rest : List Nat} {k' : List Item} {fr : Frame} {cs : List Frame} {o : Oper}

/-- Where an operation of a region leads. -/
def AtOpEnd (K : Ctx) (ι : Nm) (nx : Nat) (x : AX) (tm : Tr AV) (ds : List AD) (ops : Array Oper) (rest : List Nat) (k' : List Item) (cs : List Frame) (h' : AH) : Nat → Goroutine → World → Prop := fun d g w =>
  ∃ ι' fr', g = G fr' cs ∧ Grow ι ι' nx h'.nx ∧ Sat K ι' h' w ∧ AtRest ι' x tm ds ops rest k' fr' ∧ d = h'.df

theorem AtRest.mono {ι' : Nm} (hE : Ext ι ι') (H : AtRest ι x tm ds ops rest k' fr) : AtRest ι' x tm ds ops rest k' fr :=
  ⟨H.fn, H.tm.mono hE, H.todo, H.ds.mono hE, H.mode, H.kind, round_mono hE H.round⟩
theorem AtOp.mono {ι' : Nm} (hE : Ext ι ι') (H : AtOp ι x tm ds ops i rest k' fr) : AtOp ι' x tm ds ops i rest k' fr :=
  ⟨H.fn, H.tm.mono hE, H.todo, H.ds.mono hE, H.mode, H.kind, round_mono hE H.round⟩

theorem goTo_end {h' : AH} {tm' : Tr AV} (H : ∀ w₁, Rely K w w₁ → GoTo P main K ι h w₁ fr cs (fun ι' fr' => AtRest ι' x tm' ds ops rest k' fr') h') (hf : Free ι h.nx h'.nx) : Walk P main K (AtOpEnd K ι h.nx x tm' ds ops rest k' cs h') h.df (G fr cs) w := by
  refine Walk.of rfl fun w₁ hr => ?_
  obtain ⟨ι', fr', w', es, h1, h2, h3, h4, h5, h6⟩ := H w₁ hr hf
  exact ⟨_, w', es, h1, h5, .stop fun w₂ hr₂ => ⟨ι', fr', rfl, h2, h3.rely hr₂, h4, h6⟩⟩

theorem loudD_ok (hr : RunOk P main r) (hP : K.P = P) (F : Fits P E) (FF : FitsF P E) (S : Sat K ι h w) (H : AtOp ι x tm ds ops i rest k' fr) (ho : ops[i]? = some o) (hw : Region.wanted o (yielded ops fr.tmps) = true)
    {p : AV × AH} (e : loudD E r h (loudOp o.op E tm h) = some p) (hf : Free ι h.nx p.2.nx) : Walk P main K (AtOpEnd K ι h.nx x (fin x o.dst p.1 tm) ds ops rest k' cs p.2) h.df (G fr cs) w := by
  cases hl : loudOp o.op E tm h with
  | none => rw [hl] at e; cases e
  | some q =>
    rw [hl] at e
    cases q with
    | val v h' =>
      cases e
      exact goTo_end (fun w₁ hr₁ => loud_val hP F (S.rely hr₁) H ho hw hl) hf
    | call g args =>
      simp only [loudD] at e
      split at e
      · rename_i c n rs ex hg
        refine Walk.of rfl fun w₁ hr₁ => ?_
        obtain ⟨vs, h1, h2⟩ := loud_call (main := main) (cs := cs) hP F FF (S.rely hr₁) H ho hw hl hg
        refine ⟨_, _, #[], h2, FineG.refl w₁, ?_⟩
        refine (runC_ok hr hP FF e (S.rely hr₁) h1 rfl (fun hx => by cases hx) hf).mono ?_
        rintro d' g' w'' ⟨ι', u, rfl, g1, g2, g3, rfl⟩
        exact ⟨ι', fr.finish u, rfl, g1, g2, H.finish ho (g1.ext hf) g3, rfl⟩
      · rename_i n rs ex hg
        split at e
        · rename_i v h' hx
          cases e
          exact goTo_end (fun w₁ hr₁ => loud_ext hP F FF (S.rely hr₁) H ho hw hl hg hx) hf
        · cases e
      · cases e
    | yield l args =>
      simp only [loudD] at e
      split at e
      · rename_i g hg
        refine Walk.of rfl fun w₁ hr₁ => ?_
        obtain ⟨fr2, es, g1, g2, g3, g4⟩ := loud_yield (main := main) (cs := cs) hP F (S.rely hr₁) H ho hw hl g hg
        have hgx : g.x.deferred = false := by
          unfold roundA at hg
          split at hg
          · rename_i st pd fn nt tm' ps a b d hobj
            cases hl : Nat.beq args.length ps.length with
            | false => rw [hl] at hg; cases hg
            | true => rw [hl] at hg; cases hg; rfl
          · cases hg
        have hk2 : fr2.kind = .normal := by rw [g4.kind, hgx]; rfl
        refine ⟨_, w₁, es, g1, g2, ?_⟩
        rw [g3]
        have W := hr K ι w₁ fr2 fr cs g h p.1 p.2 hP e (S.rely hr₁) g4 (by rw [hk2]; intro hx; cases hx) hf
        refine W.mono ?_
        rintro d' g' w'' ⟨ι', u, rfl, j1, j2, j3, rfl⟩
        rw [hk2]
        exact ⟨ι', fr.finish u, rfl, j1, j2, H.finish ho (j1.ext hf) j3, rfl⟩
      · cases e
    | _ => cases e
end

/-! ### between operations -/
def Pend (ops : Array Oper) (T : Txt) (D : Nat → Bool) (f : Nat) : Prop := f < ops.size ∧ D f = true ∧ T.kind f = 1 ∧ ∀ l, l < ops.size → T.kind l = 3 → D l = true → ¬ Bf ops l f
def MD (ops : Array Oper) (T : Txt) (D : Nat → Bool) (m : Nat) (i : Nat) (o : AO) : Prop := (T.h m).tr.get i = some o ∨ ∃ f, Pend ops T D f ∧ i = (T.h f).nx ∧ o = T.ob f

structure Inv (K : Ctx) (ι0 : Nm) (ops : Array Oper) (T : Txt) (D : Nat → Bool) (m : Nat) (ι : Nm) (w : World) : Prop where
  sat : SatM K ι (MD ops T D m) w
  grow : Grow ι0 ι (T.h 0).nx (T.h ops.size).nx
  free : ∀ j, j < ops.size → D j = false → Free ι (T.h j).nx (T.h (j + 1)).nx
  loud : ∀ l, l < ops.size → T.kind l = 3 → (D l = true ↔ l < m)
  closed : Closed ops D
  dis : ∀ f, Pend ops T D f → ∀ o, (T.h m).tr.get (T.h f).nx = some o → ¬ o.live
  le : m ≤ ops.size

section
variable {E : Env} {r : RunF} {x : AX} {ops : Array Oper} {T : Txt} {qs : List DQ}

theorem kind_step {j : Nat} (hs : Step E r x ops (Region.before ops) T qs j) : T.kind j = 0 ∨ T.kind j = 1 ∨ T.kind j = 2 ∨ T.kind j = 3 := by
  obtain ⟨o, _, _, h | h | h | h⟩ := hs
  · exact .inl h.1
  · exact .inr (.inl h.1)
  · exact .inr (.inr (.inl h.1))
  · exact .inr (.inr (.inr h.1))

theorem nx_step (hup : RunF.Up r) {j : Nat} (hs : Step E r x ops (Region.before ops) T qs j) : (T.h j).nx ≤ (T.h (j + 1)).nx := by
  obtain ⟨o, _, _, h | h | h | h⟩ := hs
  · rw [h.2.2.2.1]; exact Nat.le_refl _
  · obtain ⟨_, _, _, _, ⟨h', h1, h2, _⟩, _⟩ := h
    rw [h2]; exact loud_up h1
  · rw [h.2.2.2.1]; exact Nat.le_refl _
  · have := loudD_up hup (fun q hq => loud_up hq) h.2.2.1
    rw [wake_nx] at this; exact this
theorem nx_mono (hup : RunF.Up r) (hs : ∀ j, j < ops.size → Step E r x ops (Region.before ops) T qs j) {a : Nat} : ∀ b, a ≤ b → b ≤ ops.size → (T.h a).nx ≤ (T.h b).nx
  | 0, h, _ => by have : a = 0 := by omega
                  subst this; exact Nat.le_refl _
  | b + 1, h, hb => by
    rcases Nat.eq_or_lt_of_le h with rfl | h
    · exact Nat.le_refl _
    · exact Nat.le_trans (nx_mono hup hs b (by omega) (by omega)) (nx_step hup (hs b (by omega)))
/-- A new object's name. -/
theorem nx_fresh {j : Nat} (hs : Step E r x ops (Region.before ops) T qs j) (hk : T.kind j = 1) : (T.h (j + 1)).nx = (T.h j).nx + 1 := by
  obtain ⟨o, _, _, h | h | h | h⟩ := hs
  · rw [h.1] at hk; cases hk
  · obtain ⟨_, _, hf, _, ⟨h', h1, h2, _⟩, _⟩ := h
    obtain ⟨ob, rfl, _, _⟩ := loud_fresh hf h1
    rw [h2]
    exact (AH.new_nx : ((T.h j).new ob).nx = _)
  · rw [h.1] at hk; cases hk
  · rw [h.1] at hk; cases hk
theorem name_ne (hup : RunF.Up r) (hs : ∀ j, j < ops.size → Step E r x ops (Region.before ops) T qs j) {f g : Nat} (hf : f < ops.size) (hg : g < ops.size) (kf : T.kind f = 1) (kg : T.kind g = 1) (h : (T.h f).nx = (T.h g).nx) : f = g := by
  rcases Nat.lt_trichotomy f g with hlt | he | hgt
  · have := nx_mono hup hs g (show f + 1 ≤ g by omega) (by omega)
    rw [nx_fresh (hs f hf) kf] at this; omega
  · exact he
  · have := nx_mono hup hs f (show g + 1 ≤ f by omega) (by omega)
    rw [nx_fresh (hs g hg) kg] at this; omega

theorem tr_step {j : Nat} (hs : Step E r x ops (Region.before ops) T qs j) (hk : T.kind j ≠ 3) : (T.h (j + 1)).tr = (T.h j).tr ∧ (T.h (j + 1)).df = (T.h j).df := by
  obtain ⟨o, _, _, h | h | h | h⟩ := hs
  · rw [h.2.2.2.1]; exact ⟨rfl, rfl⟩
  · obtain ⟨_, _, hf, _, ⟨h', h1, h2, _⟩, _⟩ := h
    obtain ⟨ob, rfl, _, _⟩ := loud_fresh hf h1
    rw [h2]
    exact ⟨rfl, (AH.new_df : ((T.h j).new ob).df = _)⟩
  · rw [h.2.2.2.1]; exact ⟨rfl, rfl⟩
  · exact absurd h.1 hk
theorem tr_same (hs : ∀ j, j < ops.size → Step E r x ops (Region.before ops) T qs j) {a : Nat} : ∀ b, a ≤ b → b ≤ ops.size → (∀ l, a ≤ l → l < b → T.kind l ≠ 3) → (T.h b).tr = (T.h a).tr ∧ (T.h b).df = (T.h a).df
  | 0, h, _, _ => by have : a = 0 := by omega
                     subst this; exact ⟨rfl, rfl⟩
  | b + 1, h, hb, hk => by
    rcases Nat.eq_or_lt_of_le h with rfl | h
    · exact ⟨rfl, rfl⟩
    · have h1 := tr_same hs b (by omega) (by omega) fun l a c => hk l a (by omega)
      have h2 := tr_step (hs b (by omega)) (hk b (by omega) (by omega))
      exact ⟨h2.1.trans h1.1, h2.2.trans h1.2⟩

/-- What lies ready ahead of operation j. -/
theorem ps_mem (R : RegFacts ops) (h0 : T.ps 0 = []) (hs : ∀ j, j < ops.size → Step E r x ops (Region.before ops) T qs j) : ∀ j, j ≤ ops.size → ∀ e ∈ T.ps j, e.1 < j ∧ T.kind e.1 = 1 ∧ e.2.1 = (T.h e.1).nx ∧ e.2.2 = T.ob e.1 ∧ ∀ l, l < j → T.kind l = 3 → ¬ Bf ops l e.1
  | 0, _, e, he => by rw [h0] at he; simp at he
  | j + 1, hj, e, he => by
    have ih := ps_mem R h0 hs j (by omega)
    have up : ∀ e, e ∈ T.ps j → (T.kind j = 3 → ¬ Bf ops j e.1) → e.1 < j + 1 ∧ T.kind e.1 = 1 ∧ e.2.1 = (T.h e.1).nx ∧ e.2.2 = T.ob e.1 ∧ ∀ l, l < j + 1 → T.kind l = 3 → ¬ Bf ops l e.1 := fun e he hk => by
      obtain ⟨h1, h2, h3, h4, h5⟩ := ih e he
      refine ⟨by omega, h2, h3, h4, fun l hl hkl => ?_⟩
      rcases Nat.lt_or_ge l j with h | h
      · exact h5 l h hkl
      · have : l = j := by omega
        subst this; exact hk hkl
    obtain ⟨o, _, _, h | h | h | h⟩ := hs j (by omega)
    · rw [h.2.2.2.2] at he; exact up e he fun hk => by rw [h.1] at hk; cases hk
    · obtain ⟨hk, _, _, _, _, hps⟩ := h
      rw [hps] at he
      rcases List.mem_cons.1 he with rfl | he
      · refine ⟨Nat.lt_succ_self _, hk, rfl, rfl, fun l hl hkl hb => ?_⟩
        have := before_lt R l j hb
        omega
      · exact up e he fun hk' => by rw [hk] at hk'; cases hk'
    · rw [h.2.2.2.2.1] at he; exact up e he fun hk => by rw [h.1] at hk; cases hk
    · rw [h.2.2.2] at he
      obtain ⟨h1, h2⟩ := wake_mem _ _ _ he
      exact up e h1 fun _ hb => by unfold Bf at hb; rw [h2] at hb; cases hb

/-- A loud operation that is there: so are all loud ones ahead of it in the text. -/
theorem loud_down (hch : chainOk (Region.before ops) (loudL T 0 ops.size) = true) {D : Nat → Bool} (hD : Closed ops D) {l l' : Nat} (hl : l < ops.size) (hlt : l' < l) (k : T.kind l = 3) (k' : T.kind l' = 3) (h : D l = true) : D l' = true :=
  pairs_of_lt (f := fun p => p.1) (chain_pairs (C := Closed ops) (fun _ h => h) hch) (loudL_sorted T 0 ops.size) _ (mem_loudL (Nat.zero_le _) (by omega) k') _ (mem_loudL (Nat.zero_le _) (by omega) k) hlt D hD h

theorem last_loud (T : Txt) : ∀ m, (∀ l, l < m → T.kind l ≠ 3) ∨ ∃ p, p < m ∧ T.kind p = 3 ∧ ∀ l, p < l → l < m → T.kind l ≠ 3
  | 0 => .inl fun l h => by omega
  | m + 1 => by
    by_cases hk : T.kind m = 3
    · exact .inr ⟨m, by omega, hk, fun l h1 h2 => by omega⟩
    · rcases last_loud T m with h | ⟨p, h1, h2, h3⟩
      · exact .inl fun l hl => by
          rcases Nat.lt_or_ge l m with h' | h'
          · exact h l h'
          · have : l = m := by omega
            subst this; exact hk
      · exact .inr ⟨p, by omega, h2, fun l hl hl2 => by
          rcases Nat.lt_or_ge l m with h' | h'
          · exact h3 l hl h'
          · have : l = m := by omega
            subst this; exact hk⟩

/-- A quiet operation comes to the same wherever it may be done. -/
theorem quiet_at (hs : ∀ j, j < ops.size → Step E r x ops (Region.before ops) T qs j) (hq : ∀ q ∈ qs, quietOk E (Region.before ops) (loudL T 0 ops.size) (T.h 0) q = true)
    {D : Nat → Bool} {m : Nat} (hm : m ≤ ops.size) (hl : ∀ l, l < ops.size → T.kind l = 3 → (D l = true ↔ l < m)) (hc : Closed ops D) {i : Nat} (hi : Ready ops D i) {q : DQ} (hqs : q ∈ qs) (hqi : q.i = i) : quietOp q.op E q.tm (T.h m) = some q.v := by
  have h := hq q hqs
  unfold quietOk at h
  rw [Bool.and_eq_true] at h
  have fin : ∀ hh : AH, hh.tr = (T.h m).tr → atHeap E q hh = true → quietOp q.op E q.tm (T.h m) = some q.v := fun hh ht ha => by
    unfold atHeap at ha
    rw [quiet_tr ht] at ha
    split at ha
    · rename_i v hv; rw [hv, AV.beq_eq ha]
    · cases ha
  have notyet : ∀ l, l < ops.size → T.kind l = 3 → m ≤ l → ((Region.before ops).getD q.i 0).testBit l = false := fun l h1 h2 h3 => by
    cases hb : ((Region.before ops).getD q.i 0).testBit l with
    | false => rfl
    | true =>
      have := (hl l h1 h2).1 (hi.ahead l (by rw [hqi] at hb; exact hb))
      omega
  rcases last_loud T m with hn | ⟨p, h1, h2, h3⟩
  · have e1 : ((loudL T 0 ops.size).any fun p => ((Region.before ops).getD q.i 0).testBit p.1) = false := by
      rw [List.any_eq_false]
      intro s hsm
      obtain ⟨_, a2, a3, _⟩ := of_mem_loudL hsm
      have hge : m ≤ s.1 := by
        rcases Nat.lt_or_ge s.1 m with h | h
        · exact absurd a3 (hn s.1 h)
        · exact h
      rw [notyet s.1 (by omega) a3 hge]; simp
    rw [e1] at h
    exact fin (T.h 0) (tr_same hs m (Nat.zero_le _) hm fun l _ hlm => hn l hlm).1.symm h.1
  · have ha := quietOkL_at h.2 (loudL_sorted T 0 ops.size) (m := m) (fun s hsm hge => by
        obtain ⟨_, a2, a3, _⟩ := of_mem_loudL hsm
        exact notyet s.1 (by omega) a3 hge)
      (fun s hsm hlt => by
        obtain ⟨_, a2, a3, _⟩ := of_mem_loudL hsm
        cases hb : ((Region.before ops).getD s.1 0).testBit q.i with
        | false => rfl
        | true =>
          have := hc s.1 ((hl s.1 (by omega) a3).2 hlt) q.i hb
          rw [hqi, hi.no] at this; cases this)
      _ (mem_loudL (Nat.zero_le _) (by omega) h2) h1 (fun s hsm hlt => by
        obtain ⟨_, a2, a3, _⟩ := of_mem_loudL hsm
        rcases Nat.lt_or_ge p s.1 with h | h
        · exact absurd a3 (h3 s.1 h hlt)
        · exact h)
    exact fin _ (tr_same hs m (by omega) hm fun l hl1 hl2 => h3 l (by omega) hl2).1.symm ha
end
end Go.Ev
/- Regions that draw their order: whatever the order, it comes to the same. -/
namespace Go.Ev
open Go.Conc (G)
section
variable {P : Program} {main : Bool} {K : Ctx} {E : Env} {r : RunF} {x : AX} {ops : Array Oper} {T : Txt} {qs : List DQ} {ds : List AD} {k' : List Item} {cs : List Frame}

/-- All that is fixed. -/
structure Fix (P : Program) (main : Bool) (E : Env) (r : RunF) (x : AX) (ops : Array Oper) (T : Txt) (qs : List DQ) : Prop where
  F : Fits P E
  FF : FitsF P E
  hr : RunOk P main r
  up : RunF.Up r
  reg : RegFacts ops
  ps0 : T.ps 0 = []
  st : ∀ j, j < ops.size → Step E r x ops (Region.before ops) T qs j
  chain : chainOk (Region.before ops) (loudL T 0 ops.size) = true
  qok : ∀ q ∈ qs, quietOk E (Region.before ops) (loudL T 0 ops.size) (T.h 0) q = true

theorem Fix.dst (X : Fix P main E r x ops T qs) : ∀ j, j < ops.size → T.tm (j + 1) = fin x (dstOf ops j) (T.v j) (T.tm j) := fun j hj => by
  obtain ⟨o, h1, h2, _⟩ := X.st j hj
  rw [dstOf_of h1]; exact h2

theorem Pend.of_add {D : Nat → Bool} {i f : Nat} (hne : f ≠ i) (h : Pend ops T (addD D i) f) : Pend ops T D f :=
  ⟨h.1, by have := h.2.1; rwa [addD_ne hne] at this, h.2.2.1, fun l a b c => h.2.2.2 l a b (addD_of c)⟩

/-- Behind an operation that is not loud. -/
theorem Inv.next (X : Fix P main E r x ops T qs) {ι0 ι : Nm} {D : Nat → Bool} {m : Nat} {w : World} (I : Inv K ι0 ops T D m ι w) {i : Nat} (hi : Ready ops D i) (hk : T.kind i ≠ 3) {ι' : Nm} {w' : World} (hS : SatM K ι' (MD ops T (addD D i) m) w') (hg : Grow ι ι' (T.h i).nx (T.h (i + 1)).nx)
    (hdis : ∀ o, T.kind i = 1 → (T.h m).tr.get (T.h i).nx = some o → ¬ o.live) : Inv K ι0 ops T (addD D i) m ι' w' := by
  have hfr := I.free i hi.lt hi.no
  refine ⟨hS, ⟨I.grow.le, fun j hj => ?_⟩, fun j hj hDj => ?_, fun l hl hkl => ?_, I.closed.add hi, fun f hf o ho => ?_, I.le⟩
  · have h1 := nx_mono X.up X.st i (Nat.zero_le i) (Nat.le_of_lt hi.lt)
    have h2 := nx_mono X.up X.st ops.size (show i + 1 ≤ ops.size from hi.lt) (Nat.le_refl _)
    rw [hg.same j (by omega), I.grow.same j hj]
  · have hne : j ≠ i := fun e => by subst e; rw [addD_self] at hDj; cases hDj
    rw [addD_ne hne] at hDj
    have := I.free j hj hDj
    intro n hn1 hn2
    have hout : n < (T.h i).nx ∨ (T.h (i + 1)).nx ≤ n := by
      rcases Nat.lt_or_gt_of_ne hne with h | h
      · left; have := nx_mono X.up X.st i (show j + 1 ≤ i from h) (Nat.le_of_lt hi.lt); omega
      · right; have := nx_mono X.up X.st j (show i + 1 ≤ j from h) (Nat.le_of_lt hj); omega
    rw [hg.same n hout]; exact this n hn1 hn2
  · rw [addD_ne (fun e => hk (by rw [← e]; exact hkl))]; exact I.loud l hl hkl
  · by_cases he : f = i
    · subst he; exact hdis o hf.2.2.1 ho
    · exact I.dis f (Pend.of_add he hf) o ho

/-- The end of a region. -/
def DrawEnd (K : Ctx) (ι0 : Nm) (nx : Nat) (x : AX) (tm : Tr AV) (ds : List AD) (ops : Array Oper) (k' : List Item) (cs : List Frame) (h' : AH) : Nat → Goroutine → World → Prop := fun d g w =>
  ∃ ι' fr', g = G fr' cs ∧ Grow ι0 ι' nx h'.nx ∧ Sat K ι' h' w ∧ AtRest ι' x tm ds ops [] k' fr' ∧ d = h'.df

theorem Inv.done (X : Fix P main E r x ops T qs) {ι0 ι : Nm} {D : Nat → Bool} {m : Nat} {w : World} (I : Inv K ι0 ops T D m ι w) (hall : ∀ i, i < ops.size → D i = true) {fr : Frame} (H : AtRest ι x (tmD x ops T D ops.size) ds ops [] k' fr) :
    Walk P main K (DrawEnd K ι0 (T.h 0).nx x (T.tm ops.size) ds ops k' cs (putAll (T.ps ops.size) (T.h ops.size))) (T.h m).df (G fr cs) w := by
  have hnl : ∀ l, m ≤ l → l < ops.size → T.kind l ≠ 3 := fun l h1 h2 hk => by have := (I.loud l h2 hk).1 (hall l h2); omega
  have ht := tr_same X.st ops.size I.le (Nat.le_refl _) hnl
  have hS : Sat K ι (putAll (T.ps ops.size) (T.h ops.size)) w := I.sat.toSat fun j o hj _ => by
    rcases putAll_get _ _ hj with h1 | ⟨e, he, h1, h2⟩
    · left; rw [← ht.1]; exact h1
    · right
      obtain ⟨a1, a2, a3, a4, a5⟩ := ps_mem X.reg X.ps0 X.st ops.size (Nat.le_refl _) e he
      exact ⟨e.1, ⟨a1, hall e.1 a1, a2, fun l b1 b2 _ => a5 l b1 b2⟩, by rw [h1, a3], by rw [h2, a4]⟩
  refine .stop fun w₁ hr => ⟨ι, fr, rfl, ?_, hS.rely hr, ?_, ?_⟩
  · rw [putAll_nx]; exact I.grow
  · rw [tmD_all X.dst ops.size (Nat.le_refl _) hall] at H; exact H
  · rw [putAll_df, ht.2]

theorem put_tr {h : AH} {i : Nat} {o : AO} : (h.put i o).tr = h.tr.set i o := by obtain ⟨tr, nx, df⟩ := h; rfl
theorem new_get {h : AH} {ob : AO} (hnx : h.nx < 1000000) : (h.new ob).tr.get h.nx = some ob := by
  rw [AH.new_tr, put_tr, Tr.get_set_exact hnx, if_pos rfl]
theorem new_obj {h : AH} {ob : AO} (hnx : h.nx < 1000000) : (h.new ob).obj h.nx = ob := by
  unfold AH.obj; rw [new_get hnx]
theorem AtRest.tmc (T' : Tr AV) {ι : Nm} {x : AX} {tm : Tr AV} {todo : List Nat} {fr : Frame} (H : AtRest ι x tm ds ops todo k' fr) (he : ∀ t, T'.get t = tm.get t) : AtRest ι x T' ds ops todo k' fr :=
  ⟨H.fn, H.tm.congr he, H.todo, H.ds, H.mode, H.kind, H.round⟩

set_option maxHeartbeats 1000000 in
/-- One operation, wherever it comes in the order. -/
theorem draw_one (X : Fix P main E r x ops T qs) (hP : K.P = P) {Stop : Nat → Goroutine → World → Prop} {ι0 ι : Nm} {D : Nat → Bool} {m : Nat} {w : World} (I : Inv K ι0 ops T D m ι w) {i : Nat} (hi : Ready ops D i) {rest : List Nat} {fr : Frame} (H : AtOp ι x (tmD x ops T D ops.size) ds ops i rest k' fr)
    (hgo : ∀ m' ι' w' fr', Inv K ι0 ops T (addD D i) m' ι' w' → AtRest ι' x (tmD x ops T (addD D i) ops.size) ds ops rest k' fr' → Walk P main K Stop (T.h m').df (G fr' cs) w') :
    Walk P main K Stop (T.h m).df (G fr cs) w := by
  obtain ⟨o, ho, htm, hst⟩ := X.st i hi.lt
  have hlook : ∀ t ∈ o.looksAt ops, (tmD x ops T D ops.size).get t = (T.tm i).get t := fun t ht => look_same X.reg X.dst I.closed hi ho ht
  have hwant : wantedA o ops (tmD x ops T D ops.size) = wantedA o ops (T.tm i) := look_wanted hlook
  have halike : Alike (tmD x ops T D ops.size) (T.tm i) o.op.operands.toList := look_alike hlook
  have htmD : ∀ t, (tmD x ops T (addD D i) ops.size).get t = (fin x o.dst (T.v i) (tmD x ops T D ops.size)).get t := tmD_add X.reg I.closed hi ho
  have hfr := I.free i hi.lt hi.no
  rcases hst with ⟨hk, hw, hv, hh, hps⟩ | ⟨hk, hw, hf, hnx, ⟨h', hl, hh, hob⟩, hps⟩ | ⟨hk, hw, hq, hh, hps, hrd⟩ | ⟨hk, hw, hl, hps⟩
  · -- not wanted
    refine Walk.of rfl fun w₁ hr₁ => ?_
    have hno : ∀ o', ops[i]? = some o' → Region.wanted o' (yielded ops fr.tmps) = false := fun o' ho' => by
      rw [ho] at ho'; cases ho'
      exact wanted_ok H.tm (by rw [hwant]; exact hw)
    refine ⟨_, w₁, #[], step_none H hno, FineG.refl w₁, ?_⟩
    have S₁ := I.sat.rely hr₁
    refine hgo m ι w₁ _ (I.next X hi (by rw [hk]; decide) (S₁.toSatM fun j o' hm _ => ?_) (by rw [hh]; exact Grow.refl _ _) (fun o' hk' => by rw [hk] at hk'; cases hk')) ?_
    · rcases hm with h1 | ⟨f, h1, h2⟩
      · exact .inl h1
      · have hne : f ≠ i := fun e => by subst e; have := h1.2.2.1; rw [hk] at this; cases this
        exact .inr ⟨f, Pend.of_add hne h1, h2⟩
    · have := H.finish ho (Ext.refl ι) (v := undefA) RV_undef
      exact AtRest.tmc _ this (by rw [← hv]; exact htmD)
  · -- a new object
    obtain ⟨ob, rfl, hlive, hany⟩ := loud_fresh hf hl
    obtain ⟨hs, hs1, hs2, hs3⟩ : ∃ hs : AH, hs.tr = .e ∧ hs.nx = (T.h i).nx ∧ hs.df = (T.h m).df := ⟨⟨.e, (T.h i).nx, (T.h m).df⟩, rfl, rfl, rfl⟩
    have hl2 : loudOp o.op E (tmD x ops T D ops.size) hs = some (.val (T.v i) (hs.new ob)) := by
      rw [loud_alike halike]; exact hany hs hs2
    have hnx2 : (T.h (i + 1)).nx = (hs.new ob).nx := by rw [hh]; show ((T.h i).new ob).nx = _; rw [AH.new_nx, AH.new_nx, hs2]
    have hobj : T.ob i = ob := by rw [hob]; exact new_obj hnx
    have hget : (hs.new ob).tr.get (T.h i).nx = some ob := by rw [← hs2]; exact new_get (by rw [hs2]; exact hnx)
    refine Walk.of rfl fun w₁ hr₁ => ?_
    have S₁ := I.sat.rely hr₁
    have SL := S₁.less (X := fun _ => True) (h := hs) (fun j o' e _ => by rw [hs1, Tr.get_e] at e; cases e)
    have hgt := loud_val (main := main) (cs := cs) (K := K.less ι (MD ops T D m) (fun _ => True) w₁ S₁.lo S₁.lt) hP X.F SL H ho (wanted_ok H.tm (by rw [hwant]; exact hw)) hl2
    have hfr2 : Free ι hs.nx (hs.new ob).nx := by rw [← hnx2, hs2]; exact hfr
    obtain ⟨ι', fr', w', es, g1, g2, g3, g4, g5, g6⟩ := hgt hfr2
    have hE : Ext ι ι' := g2.ext hfr2
    have hkept : Kept K (K.less ι (MD ops T D m) (fun _ => True) w₁ S₁.lo S₁.lt) w₁ w' := (Kept.refl _ _ _).fine g5
    refine ⟨_, w', es, g1, g5.sub less_sub, ?_⟩
    have hdf : deafBehind (T.h m).df es = (T.h m).df := by
      rw [← hs3, g6, AH.new_df]
    rw [hdf]
    rw [hs2, ← hnx2] at g2
    refine hgo m ι' w' fr' (I.next X hi (by rw [hk]; decide) (S₁.more g3 hE hkept fun j o' hm hlo => ?_) g2 (fun o' _ ho' hlo => ?_)) ?_
    · rcases hm with h1 | ⟨f, h1, h2, h3⟩
      · exact .inr ⟨.inl h1, trivial⟩
      · by_cases hne : f = i
        · subst hne
          left; rw [h2, h3, hobj]; exact hget
        · exact .inr ⟨.inr ⟨f, Pend.of_add hne h1, h2, h3⟩, trivial⟩
    · obtain ⟨p, _, e1, _⟩ := S₁.objs _ o' (.inl ho') hlo
      have := hfr (T.h i).nx (Nat.le_refl _) (by rw [hnx2, AH.new_nx, hs2]; exact Nat.lt_succ_self _)
      rw [this] at e1; cases e1
    · exact AtRest.tmc _ g4 htmD
  · -- quiet
    have hq2 : quietOp o.op E (tmD x ops T D ops.size) (T.h m) = some (T.v i) := by
      rw [quiet_alike halike]
      cases hrh : readsHeap o.op with
      | true => exact quiet_at (q := ⟨o.op, i, T.tm i, T.v i⟩) X.st X.qok I.le I.loud I.closed hi (hrd hrh) rfl
      | false => rw [quiet_blind hrh (h' := T.h i)]; exact hq
    refine Walk.of rfl fun w₁ hr₁ => ?_
    have S₁ := I.sat.rely hr₁
    have SL := S₁.less (X := fun j => ∃ f, Pend ops T D f ∧ j = (T.h f).nx) (h := T.h m) (fun j o' e hlo => ⟨.inl e, fun ⟨f, h1, h2⟩ => I.dis f h1 o' (by rw [← h2]; exact e) hlo⟩)
    have hgt := quiet_step (main := main) (cs := cs) (K := K.less ι (MD ops T D m) (fun j => ∃ f, Pend ops T D f ∧ j = (T.h f).nx) w₁ S₁.lo S₁.lt) hP X.F SL H ho (wanted_ok H.tm (by rw [hwant]; exact hw)) hq2
    obtain ⟨ι', fr', w', es, g1, g2, g3, g4, g5, g6⟩ := hgt (fun j h1 h2 => by omega)
    have hι : ι' = ι := by funext j; exact g2.same j (by omega)
    subst hι
    have hkept : Kept K (K.less ι' (MD ops T D m) (fun j => ∃ f, Pend ops T D f ∧ j = (T.h f).nx) w₁ S₁.lo S₁.lt) w₁ w' := (Kept.refl _ _ _).fine g5
    refine ⟨_, w', es, g1, g5.sub less_sub, ?_⟩
    rw [g6]
    refine hgo m ι' w' fr' (I.next X hi (by rw [hk]; decide) (S₁.more g3 (Ext.refl _) hkept fun j o' hm hlo => ?_) (by rw [hh]; exact Grow.refl _ _) (fun o' hk' => by rw [hk] at hk'; cases hk')) ?_
    · rcases hm with h1 | ⟨f, h1, h2, h3⟩
      · exact .inl h1
      · have hne : f ≠ i := fun e => by subst e; have := h1.2.2.1; rw [hk] at this; cases this
        exact .inr ⟨.inr ⟨f, Pend.of_add hne h1, h2, h3⟩, f, Pend.of_add hne h1, h2⟩
    · exact AtRest.tmc _ g4 htmD
  · -- loud
    have hmi : m ≤ i := by
      rcases Nat.lt_or_ge i m with h | h
      · have := (I.loud i hi.lt hk).2 h; rw [hi.no] at this; cases this
      · exact h
    have hDi := I.closed.add hi
    have hnl : ∀ l, m ≤ l → l < i → T.kind l ≠ 3 := fun l h1 h2 hkl => by
      have := loud_down X.chain hDi hi.lt h2 hk hkl (addD_self D i)
      rw [addD_ne (by omega)] at this
      have := (I.loud l (by have := hi.lt; omega) hkl).1 this
      omega
    have htr := tr_same X.st i hmi (Nat.le_of_lt hi.lt) hnl
    have hpsm := ps_mem X.reg X.ps0 X.st i (Nat.le_of_lt hi.lt)
    obtain ⟨hw0, hw0e⟩ : ∃ hw0 : AH, hw0 = (wake ((Region.before ops).getD i 0) (T.ps i) (T.h i)).1 := ⟨_, rfl⟩
    have hwnx : hw0.nx = (T.h i).nx := by rw [hw0e]; exact wake_nx _ _ _
    have hwdf : hw0.df = (T.h m).df := by rw [hw0e]; exact (wake_df _ _ _).trans htr.2
    rw [← hw0e] at hl
    have hl2 : loudD E r hw0 (loudOp o.op E (tmD x ops T D ops.size) hw0) = some (T.v i, T.h (i + 1)) := by
      rw [loud_alike halike]; exact hl
    have SL := I.sat.less (X := fun j => ∃ f, Pend ops T D f ∧ ¬ Bf ops i f ∧ j = (T.h f).nx) (h := hw0) (fun j o' e hlo => by
      rw [hw0e] at e
      rcases wake_get _ _ _ e with h1 | ⟨q, hq, h1, h2, h3⟩
      · rw [htr.1] at h1
        exact ⟨.inl h1, fun ⟨f, f1, _, f3⟩ => I.dis f f1 o' (by rw [← f3]; exact h1) hlo⟩
      · obtain ⟨a1, a2, a3, a4, a5⟩ := hpsm q hq
        have hpq : Pend ops T D q.1 := ⟨by have := hi.lt; omega, hi.ahead q.1 h1, a2, fun l b1 b2 b3 hb => by
          have hlm := (I.loud l b1 b2).1 b3
          exact a5 l (by omega) b2 hb⟩
        refine ⟨.inr ⟨q.1, hpq, by rw [h2, a3], by rw [h3, a4]⟩, fun ⟨f, f1, f2, f3⟩ => ?_⟩
        have : f = q.1 := name_ne X.up X.st f1.1 hpq.1 f1.2.2.1 a2 (by rw [← f3, h2, a3])
        rw [this] at f2
        exact f2 h1)
    have hfr' : Free ι hw0.nx (T.h (i + 1)).nx := by rw [hwnx]; exact hfr
    have W := loudD_ok (main := main) (cs := cs) (K := K.less ι (MD ops T D m) (fun j => ∃ f, Pend ops T D f ∧ ¬ Bf ops i f ∧ j = (T.h f).nx) w I.sat.lo I.sat.lt) X.hr hP X.F X.FF SL H ho (wanted_ok H.tm (by rw [hwant]; exact hw)) hl2 hfr'
    rw [← hwdf]
    refine Walk.bind (Walk.frame (K := K) (Stop := fun d g w' => Kept K (K.less ι (MD ops T D m) (fun j => ∃ f, Pend ops T D f ∧ ¬ Bf ops i f ∧ j = (T.h f).nx) w I.sat.lo I.sat.lt) w w' ∧ AtOpEnd (K.less ι (MD ops T D m) (fun j => ∃ f, Pend ops T D f ∧ ¬ Bf ops i f ∧ j = (T.h f).nx) w I.sat.lo I.sat.lt) ι hw0.nx x (fin x o.dst (T.v i) (tmD x ops T D ops.size)) ds ops rest k' cs (T.h (i + 1)) d g w') less_sub W (Kept.refl _ _ _) fun d g w' h1 h2 => ⟨h1, h2⟩) ?_
    rintro d g w' ⟨hkept, ι', fr', rfl, g2, g3, g4, rfl⟩
    have hE : Ext ι ι' := g2.ext hfr'
    rw [hwnx] at g2
    refine hgo (i + 1) ι' w' fr' ⟨I.sat.more g3 hE hkept fun j o' hm hlo => ?_, ⟨I.grow.le, fun j hj => ?_⟩, fun j hj hDj => ?_, fun l hl hkl => ⟨fun hD => ?_, fun hlt => ?_⟩, hDi, fun f hf o' ho' hlo => ?_, hi.lt⟩ (AtRest.tmc _ g4 htmD)
    · rcases hm with h1 | ⟨f, h1, h2, h3⟩
      · exact .inl h1
      · have hne : f ≠ i := fun e => by subst e; have := h1.2.2.1; rw [hk] at this; cases this
        exact .inr ⟨.inr ⟨f, Pend.of_add hne h1, h2, h3⟩, f, Pend.of_add hne h1, h1.2.2.2 i hi.lt hk (addD_self D i), h2⟩
    · have h1 := nx_mono X.up X.st i (Nat.zero_le i) (Nat.le_of_lt hi.lt)
      have h2 := nx_mono X.up X.st ops.size (show i + 1 ≤ ops.size from hi.lt) (Nat.le_refl _)
      rw [g2.same j (by omega), I.grow.same j hj]
    · have hne : j ≠ i := fun e => by subst e; rw [addD_self] at hDj; cases hDj
      rw [addD_ne hne] at hDj
      have := I.free j hj hDj
      intro n hn1 hn2
      have hout : n < (T.h i).nx ∨ (T.h (i + 1)).nx ≤ n := by
        rcases Nat.lt_or_gt_of_ne hne with h | h
        · left; have := nx_mono X.up X.st i (show j + 1 ≤ i from h) (Nat.le_of_lt hi.lt); omega
        · right; have := nx_mono X.up X.st j (show i + 1 ≤ j from h) (Nat.le_of_lt hj); omega
      rw [g2.same n hout]; exact this n hn1 hn2
    · by_cases he : l = i
      · omega
      · rw [addD_ne he] at hD
        have := (I.loud l hl hkl).1 hD
        omega
    · rcases Nat.lt_or_ge l i with h | h
      · exact loud_down X.chain hDi hi.lt h hk hkl (addD_self D i)
      · have : l = i := by omega
        subst this; exact addD_self D l
    · have hne : f ≠ i := fun e => by subst e; have := hf.2.2.1; rw [hk] at this; cases this
      have hobl : (T.ob f).live := by
        obtain ⟨of, hof, _, hsf⟩ := X.st f hf.1
        have hkf := hf.2.2.1
        rcases hsf with h | ⟨_, _, hff, hnx, ⟨h', hl', _, hob⟩, _⟩ | h | h
        · rw [h.1] at hkf; cases hkf
        · obtain ⟨ob, rfl, hlive, _⟩ := loud_fresh hff hl'
          rw [hob]
          have : ((T.h f).new ob).obj (T.h f).nx = ob := new_obj hnx
          rw [this]; exact hlive
        · rw [h.1] at hkf; cases hkf
        · rw [h.1] at hkf; cases hkf
      exact I.sat.apart g3 hE (i := (T.h f).nx) (o := T.ob f) ⟨f, Pend.of_add hne hf, hf.2.2.2 i hi.lt hk (addD_self D i), rfl⟩ (.inr ⟨f, Pend.of_add hne hf, rfl, rfl⟩) hobl ho' hlo
end
end Go.Ev
/- Whole activations come to what the evaluator says. -/
namespace Go.Ev
open Go.Conc (G)

theorem go_cases (ops : Array Oper) (fuel t : Nat) (listed : Array Bool) :
    (Region.ready .any ops listed = [] ∧ Region.linearise.go .any ops (fuel + 1) t listed [] = []) ∨
    ∃ i ∈ Region.ready .any ops listed, Region.linearise.go .any ops (fuel + 1) t listed [] = i :: Region.linearise.go .any ops fuel (t / (Region.ready .any ops listed).length) (listed.setIfInBounds i true) [] := by
  simp only [Region.linearise.go]
  change (Region.ready .any ops listed = [] ∧ (match (Region.ready .any ops listed)[t % (Region.ready .any ops listed).length]? with
      | some i => Region.linearise.go .any ops fuel (t / (Region.ready .any ops listed).length) (listed.setIfInBounds i true) [i]
      | none => [].reverse) = []) ∨ ∃ i ∈ Region.ready .any ops listed, (match (Region.ready .any ops listed)[t % (Region.ready .any ops listed).length]? with
      | some i => Region.linearise.go .any ops fuel (t / (Region.ready .any ops listed).length) (listed.setIfInBounds i true) [i]
      | none => [].reverse) = _
  cases hi : (Region.ready .any ops listed)[t % (Region.ready .any ops listed).length]? with
  | none =>
    left
    refine ⟨?_, rfl⟩
    cases hr : Region.ready .any ops listed with
    | nil => rfl
    | cons x xs =>
      rw [hr] at hi
      have hlt : t % (x :: xs).length < (x :: xs).length := Nat.mod_lt _ (by simp)
      rw [List.getElem?_eq_none_iff] at hi
      omega
  | some i =>
    right
    refine ⟨i, List.mem_of_getElem? hi, ?_⟩
    simp only []
    rw [linearise_go_acc, List.reverse_singleton, List.singleton_append]

def Dl (listed : Array Bool) : Nat → Bool := fun j => listed.getD j false

theorem mem_ready {ops : Array Oper} {listed : Array Bool} (hs : listed.size = ops.size) {i : Nat} : i ∈ Region.ready .any ops listed ↔ i < ops.size ∧ Dl listed i = false ∧ ∃ o, ops[i]? = some o ∧ ∀ e ∈ o.after, Region.binds .any e = true → Dl listed e.on = true := by
  unfold Region.ready
  rw [List.mem_filter, List.mem_range, Bool.and_eq_true]
  have hg : ∀ i, i < ops.size → listed.getD i true = Dl listed i := fun i hi => by
    unfold Dl
    rw [Array.getD_eq_getD_getElem?, Array.getD_eq_getD_getElem?, Array.getElem?_eq_getElem (by omega)]; rfl
  constructor
  · rintro ⟨h1, h2, h3⟩
    rw [hg i h1] at h2
    obtain ⟨o, ho⟩ := some_oper h1
    rw [ho] at h3
    simp only [Option.map_some, Option.getD_some, Array.all_eq_true_iff_forall_mem] at h3
    refine ⟨h1, by simpa using h2, o, ho, fun e he hb => ?_⟩
    have := h3 e he
    unfold Dl
    simpa [hb] using this
  · rintro ⟨h1, h2, o, ho, h3⟩
    refine ⟨h1, by rw [hg i h1, h2]; rfl, ?_⟩
    rw [ho]
    simp only [Option.map_some, Option.getD_some, Array.all_eq_true_iff_forall_mem]
    intro e he
    cases hb : Region.binds .any e with
    | false => rfl
    | true => have := h3 e he hb; unfold Dl at this; simpa using this

theorem Dl_set {listed : Array Bool} {i : Nat} (hi : i < listed.size) : Dl (listed.setIfInBounds i true) = addD (Dl listed) i := by
  funext j
  have e : ∀ l : Array Bool, Dl l j = l[j]?.getD false := fun l => by unfold Dl; rw [Array.getD_eq_getD_getElem?]
  unfold addD
  rw [e, e, Array.getElem?_setIfInBounds]
  by_cases h : i = j
  · subst h; simp [hi]
  · have : (j == i) = false := by simp; omega
    simp [h, this]

def left' (n : Nat) (listed : Array Bool) : Nat := ((List.range n).filter fun i => Dl listed i == false).length

theorem left_set {n : Nat} {listed : Array Bool} {i : Nat} (hi : i < n) (hs : listed.size = n) (hno : Dl listed i = false) : left' n (listed.setIfInBounds i true) < left' n listed := by
  unfold left'
  rw [Dl_set (by omega)]
  have hsub : ((List.range n).filter fun j => addD (Dl listed) i j == false).Sublist ((List.range n).filter fun j => Dl listed j == false) := by
    have : ((List.range n).filter fun j => addD (Dl listed) i j == false) = (((List.range n).filter fun j => Dl listed j == false).filter fun j => addD (Dl listed) i j == false) := by
      rw [List.filter_filter]
      refine List.filter_congr fun j _ => ?_
      simp only [addD]
      cases Dl listed j <;> cases (j == i) <;> rfl
    rw [this]
    exact List.filter_sublist
  have hle := hsub.length_le
  rcases Nat.lt_or_ge ((List.range n).filter fun j => addD (Dl listed) i j == false).length ((List.range n).filter fun j => Dl listed j == false).length with h | h
  · exact h
  · have heq := hsub.eq_of_length_le h
    have hmem : i ∈ (List.range n).filter fun j => Dl listed j == false := List.mem_filter.2 ⟨List.mem_range.2 hi, by rw [hno]; rfl⟩
    rw [← heq] at hmem
    have := (List.mem_filter.1 hmem).2
    rw [addD_self] at this; cases this

section
variable {P : Program} {main : Bool} {K : Ctx} {E : Env} {r : RunF} {x : AX} {ops : Array Oper} {T : Txt} {qs : List DQ} {ds : List AD} {k' : List Item} {cs : List Frame}

theorem all_listed (R : RegFacts ops) {listed : Array Bool} (hs : listed.size = ops.size) (h : Region.ready .any ops listed = []) : ∀ i, i < ops.size → Dl listed i = true := by
  intro i
  induction i using Nat.strongRecOn with
  | ind i ih =>
    intro hi
    cases hD : Dl listed i with
    | true => rfl
    | false =>
      obtain ⟨o, ho⟩ := some_oper hi
      have : i ∈ Region.ready .any ops listed := (mem_ready hs).2 ⟨hi, hD, o, ho, fun e he hb => by
        have := R.edge i o ho e he hb
        exact ih e.on this (by omega)⟩
      rw [h] at this; simp at this

theorem ready_of (R : RegFacts ops) {listed : Array Bool} (hs : listed.size = ops.size) (hc : Closed ops (Dl listed)) {i : Nat} (h : i ∈ Region.ready .any ops listed) : Ready ops (Dl listed) i := by
  obtain ⟨h1, h2, o, ho, h3⟩ := (mem_ready hs).1 h
  refine ⟨h1, h2, fun p hp => ?_⟩
  obtain ⟨e, he, hb, hh⟩ := before_edge ho hp
  have hD := h3 e he hb
  rcases hh with rfl | ⟨_, hh⟩
  · exact hD
  · exact hc e.on hD p hh

theorem draw_go (X : Fix P main E r x ops T qs) (hP : K.P = P) {ι0 : Nm} : ∀ (fuel t : Nat) (listed : Array Bool) (m : Nat) (ι : Nm) (w : World) (fr : Frame), listed.size = ops.size → left' ops.size listed ≤ fuel →
    Inv K ι0 ops T (Dl listed) m ι w → AtRest ι x (tmD x ops T (Dl listed) ops.size) ds ops (Region.linearise.go .any ops fuel t listed []) k' fr →
    Walk P main K (DrawEnd K ι0 (T.h 0).nx x (T.tm ops.size) ds ops k' cs (putAll (T.ps ops.size) (T.h ops.size))) (T.h m).df (G fr cs) w
  | 0, t, listed, m, ι, w, fr, hs, hl, I, H => by
    refine I.done X (fun i hi => ?_) H
    cases hD : Dl listed i with
    | true => rfl
    | false =>
      have : i ∈ (List.range ops.size).filter fun i => Dl listed i == false := List.mem_filter.2 ⟨List.mem_range.2 hi, by rw [hD]; rfl⟩
      have := List.length_pos_of_mem this
      unfold left' at hl
      omega
  | fuel + 1, t, listed, m, ι, w, fr, hs, hl, I, H => by
    rcases go_cases ops fuel t listed with ⟨h1, h2⟩ | ⟨i, h1, h2⟩
    · rw [h2] at H
      exact I.done X (all_listed X.reg hs h1) H
    · rw [h2] at H
      have hi := ready_of X.reg hs I.closed h1
      have hA : AtOp ι x (tmD x ops T (Dl listed) ops.size) ds ops i (Region.linearise.go .any ops fuel (t / (Region.ready .any ops listed).length) (listed.setIfInBounds i true) []) k' fr := ⟨H.fn, H.tm, H.todo, H.ds, H.mode, H.kind, H.round⟩
      refine draw_one X hP I hi hA fun m' ι' w' fr' I' H' => ?_
      have hD := Dl_set (listed := listed) (i := i) (by rw [hs]; exact hi.lt)
      rw [← hD] at I' H'
      exact draw_go X hP fuel _ _ m' ι' w' fr' (by simp [hs]) (by have := left_set hi.lt hs hi.no; omega) I' H'

theorem draw_ok (F : Fits P E) (FF : FitsF P E) (hr : RunOk P main r) (hup : RunF.Up r) : DrawOk P main E r := by
  intro K ι w x tm ds ops t k' fr cs h tm' h' hP S H hreg e hf
  have R := regFacts hreg
  obtain ⟨T, qs, t1, t2, t3, t4, _, t6, t7, t8⟩ := runD_txt ops.toList 0 tm [] [] [] h _ (Nat.zero_le _) rfl e
  simp only [List.reverse_nil, List.nil_append, Nat.sub_zero] at t6 t7
  have X : Fix P main E r x ops T qs := ⟨F, FF, hr, hup, R, t3, fun j hj => t4 j (Nat.zero_le _) hj, t6, by rw [t2]; exact t7⟩
  have e1 : tm' = T.tm ops.size := (Prod.mk.inj t8).1
  have e2 : h' = putAll (T.ps ops.size) (T.h ops.size) := (Prod.mk.inj t8).2
  subst e1; subst e2
  have hDl : Dl (Array.replicate ops.size false) = fun _ => false := by
    funext j
    unfold Dl
    rw [Array.getD_eq_getD_getElem?, Array.getElem?_replicate]
    split <;> rfl
  have hno : ∀ f, ¬ Pend ops T (fun _ => false) f := fun f hp => by have := hp.2.1; cases this
  have hfr : Free ι (T.h 0).nx (T.h ops.size).nx := by rw [t2]; rw [putAll_nx] at hf; exact hf
  have hmono := nx_mono hup X.st (a := 0) ops.size (Nat.zero_le _) (Nat.le_refl _)
  have I : Inv K ι ops T (Dl (Array.replicate ops.size false)) 0 ι w := by
    rw [hDl]
    refine ⟨S.toM fun i o hm _ => ?_, ⟨hmono, fun _ _ => rfl⟩, fun j hj _ => ?_, (fun l _ _ => ⟨fun h => (by cases h), fun h => (by omega)⟩), (fun i hi => (by cases hi)), (fun f hp => absurd hp (hno f)), Nat.zero_le _⟩
    · rcases hm with h1 | ⟨f, h1, _⟩
      · rw [t2] at h1; exact h1
      · exact absurd h1 (hno f)
    · have h1 := nx_mono hup X.st j (Nat.zero_le j) (Nat.le_of_lt hj)
      have h2 := nx_mono hup X.st ops.size (show j + 1 ≤ ops.size from hj) (Nat.le_refl _)
      exact hfr.sub h1 h2
  have H0 : AtRest ι x (tmD x ops T (Dl (Array.replicate ops.size false)) ops.size) ds ops (Region.linearise.go .any ops ops.size t (Array.replicate ops.size false) []) k' fr := by
    refine AtRest.tmc _ H fun s => ?_
    rw [hDl]
    have : ∀ n, tmD x ops T (fun _ => false) n = tm := by
      intro n
      induction n with
      | zero => exact t1
      | succ n ih => exact ih
    rw [this]
  have W := draw_go (cs := cs) X hP ops.size t (Array.replicate ops.size false) 0 ι w fr (by simp) (by
    unfold left'
    exact Nat.le_trans (List.length_filter_le _ _) (by simp)) I H0
  rw [t2] at W
  exact W.mono fun d g w' hD => by
    obtain ⟨ι', fr', a1, a2, a3, a4, a5⟩ := hD
    exact ⟨ι', fr', a1, a2, a3, a4, a5⟩

/-- WHOLE ACTIVATIONS. -/
theorem runF_ok (F : Fits P E) (FF : FitsF P E) (n : Nat) : RunOk P main (runF E n) := by
  induction n with
  | zero => intro K ι w fr c rest f h v h' _ e; cases e
  | succ n ih => exact stepR_ok F FF ih (runF_up n) (draw_ok F FF ih (runF_up n))
end
end Go.Ev
/- Steps that leave the world alone: what is done between a fork and a join. -/
namespace Go.Ev
open Go.Conc (G)

inductive T1 where
  | go (f : AF)
  | call (f : AF) (dst : Option Tmp) (g : FuncId) (args : List AV)
  | dcall (f : AF) (g : FuncId) (args : List AV)
  | conv (f : AF) (dst : Option Tmp) (id off : Nat)
  | spawn (f : AF) (g : FuncId) (args : List AV)
  | ret (v : AV)

noncomputable def resT (tm : Tr AV) : List ResultVar → Option (List AV)
  | [] => some []
  | .tmp t :: l => (match resT tm l with | some r => some (ev tm (.tmp t) :: r) | none => none)
  | .cell _ _ :: _ => none

def eAH : AH := ⟨.e, 0, 0⟩

noncomputable def callT (x : AX) (tm : Tr AV) (td : List AI) (ds : List AD) (d : Option Tmp) : Option OR → Option T1
  | some (.call g args) => some (.call ⟨x, tm, td, ds, false⟩ d g args)
  | _ => none

noncomputable def opT (E : Env) (x : AX) (tm : Tr AV) (td : List AI) (ds : List AD) (o : Oper) : Option T1 :=
  match (cond (readsHeap o.op) none (quietOp o.op E tm eAH)) with
  | some v => some (.go ⟨x, fin x o.dst v tm, td, ds, false⟩)
  | none => match o.op with
    | .call c => (match c.callee with | .value _ => callT x tm td ds o.dst (loudOp o.op E tm eAH) | _ => none)
    | .convert s d y => (match E.d s, E.d d, ev tm y with
      | some (.ptr e), some .uptr, .ptr id off => (match E.tt.get e with
        | some ti => cond (Nat.beq ti.size 0) none (some (.conv ⟨x, tm, td, ds, false⟩ o.dst id off))
        | none => none)
      | _, _, _ => none)
    | .defer _ => (match x.round, loudOp o.op E tm eAH with
      | none, some (.dfr a) => some (.go ⟨x, fin x o.dst undefA tm, td, a :: ds, false⟩)
      | _, _ => none)
    | .go c => (match c.callee with
      | .value g => (match ev tm g with
        | .fn f a b => some (.spawn ⟨x, fin x o.dst undefA tm, td, ds, false⟩ f (a ++ evs tm c.args.toList ++ b))
        | _ => none)
      | _ => none)
    | _ => none

noncomputable def regionT (E : Env) (x : AX) (tm : Tr AV) (ds : List AD) (k : List AI) (ops : Array Oper) (o : Oper) (rest : List Oper) : Option T1 :=
  match wantedA o ops tm with
  | some true => opT E x tm (inR ops rest k) ds o
  | some false => some (.go ⟨x, fin x o.dst undefA tm, inR ops rest k, ds, false⟩)
  | none => none

def goT : Option A1 → Option T1
  | some (.go f _) => some (.go f)
  | _ => none

/-- Code that is neither a loop over a function nor the end of a round. -/
def plainC (x : AX) : Code → Bool
  | .rangeFunc .. => false
  | .region _ _ draw => !draw
  | .ret | .exit _ | .goto _ => x.round.isNone
  | .refuse _ => false
  | _ => true

noncomputable def stepT (E : Env) (f : AF) : Option T1 :=
  match f with
  | ⟨x, tm, td, ds, true⟩ => (match ds with
    | d :: ds' => (match d.f with
      | .fn g first cap => some (.dcall ⟨x, tm, td, ds', true⟩ g (first ++ d.args ++ cap))
      | _ => none)
    | [] => (match E.ft.get x.fn with
      | some ⟨some _, _, rs, _⟩ => (match resT tm rs with
        | some [v] => some (.ret v)
        | some l => some (.ret (.tup l))
        | none => none)
      | _ => none))
  | ⟨x, tm, [], ds, false⟩ => (match x.round with | none => some (.go ⟨x, tm, [], ds, true⟩) | some _ => none)
  | ⟨x, tm, i :: k, ds, false⟩ => (match i with
    | .code c => cond (plainC x c) (goT (codeA E c k x tm ds eAH)) none
    | .inBlock _ => some (.go ⟨x, tm, k, ds, false⟩)
    | .inScope _ => some (.go ⟨x, tm, k, ds, false⟩)
    | .inLoop body => some (.go ⟨x, tm, .code body :: .inLoop body :: k, ds, false⟩)
    | .inRegion ops l => (match l with
      | [] => some (.go ⟨x, tm, k, ds, false⟩)
      | o :: rest => regionT E x tm ds k ops o rest)
    | _ => none)

/-- A step that leaves the world alone and says nothing that counts. -/
def Still (P : Program) (main : Bool) (fr : Frame) (cs : List Frame) (w : World) (fr' : Frame) : Prop :=
  ∃ es, stepG P main (G fr cs) w = .go (G fr' cs) w es ∧ ∀ e ∈ es, e.loc = .mark .noRoom

def WaitsS (ι : Nm) (f : AF) (dst : Option Tmp) (fr : Frame) : Prop := ∀ v u, RV ι v u → RF ι ⟨f.x, fin f.x dst v f.tm, f.todo, f.ds, false⟩ (fr.finish u)

/-- What is called comes to an end at once. -/
def CallsNow (P : Program) (main : Bool) (fr : Frame) (cs : List Frame) (w : World) (g : FuncId) (vs : Array Value) (back : Value → Frame) : Prop :=
  ∀ u w' es, SRun P (callFunc g vs) w (.value u) w' es → stepG P main (G fr cs) w = .go (G (back u) cs) w' (seen P fr.fn es.toArray)

def T1Ok (P : Program) (main : Bool) (E : Env) (ι : Nm) (fr : Frame) (cs : List Frame) : T1 → Prop
  | .go f' => ∀ w, ∃ fr', Still P main fr cs w fr' ∧ RF ι f' fr'
  | .call f' d g args => WaitsS ι f' d fr ∧ fr.mode = .run ∧ ∃ vs : Array Value, RVs ι args vs.toList ∧ ∀ w,
      (∀ c n rs x, E.ft.get g = some ⟨some c, n, rs, x⟩ → stepG P main (G fr cs) w = .go (G (Frame.enter P g vs .normal) (fr :: cs)) w #[]) ∧
      CallsNow P main fr cs w g vs (fun u => fr.finish u) ∧
      (∀ w2 es, (callFunc g vs).runT P w #[] = (.halt .blocked w2, es) → stepG P main (G fr cs) w = .go { G fr cs with status := .blocked } w2 #[])
  | .dcall f' g args => ∃ (vs : Array Value) (fr' : Frame), RVs ι args vs.toList ∧ RF ι f' fr' ∧ fr'.mode = .returning ∧ fr'.fn = fr.fn ∧ ∀ w,
      (∀ c n rs x, E.ft.get g = some ⟨some c, n, rs, x⟩ → stepG P main (G fr cs) w = .go (G (Frame.enter P g vs .deferred) (fr' :: cs)) w #[]) ∧
      (∀ u w' es, SRun P (callFunc g vs) w (.value u) w' es → stepG P main (G fr cs) w = .go (G fr' cs) w' (seen P fr.fn es.toArray))
  | .conv f' d id off => WaitsS ι f' d fr ∧ ∃ p, ι id = some p ∧ ∀ w (c : Array Value) (T : TypeId) (fz : Nat × Nat), w.heap[p.1]? = some (.cells c T fz) → off < c.size →
      ∃ es, stepG P main (G fr cs) w = .go (G (fr.finish (.pointer (some ⟨p.1, off, none⟩))) cs) w es ∧ ∀ e ∈ es, e.loc = .mark .noRoom
  | .spawn f' g args => ∃ (fs as cs' : Array Value), RVs ι args ((fs ++ as) ++ cs').toList ∧ ∃ fr', RF ι f' fr' ∧
      ∀ w, stepG P main (G fr cs) w = .spawn (G fr' cs) (Conc.born P { target := .fn (.func g) cs', args := fs ++ as }) w #[]
  | .ret v => ∃ u, RV ι v u ∧ ∀ w, stepG P main (G fr cs) w = GStep.after #[] (doReturn P main fr cs none u w)

section
variable {P : Program} {main : Bool} {E : Env} {ι : Nm} {x : AX} {tm : Tr AV} {ds : List AD} {fr : Frame} {cs : List Frame}

/-- A context in which nothing that is there is one's own. -/
def here (P : Program) (w : World) : Ctx := ⟨P, w, w.heap.size, w.heap.size, fun b => w.heap.size ≤ b, fun _ h => h⟩
theorem sat_here (P : Program) (ι : Nm) (w : World) : Sat (here P w) ι eAH w :=
  ⟨(fun i o e => (by rw [show eAH.tr.get i = none from Tr.get_e i] at e; cases e)), (fun i j o o' p q e => (by rw [show eAH.tr.get i = none from Tr.get_e i] at e; cases e)), Nat.le_refl _, Nat.le_refl _, fun _ _ => rfl, rfl, rfl, rfl⟩
theorem ev_here {P : Program} {w : World} {e : Event} (h : EvF (here P w) w.heap.size e) : e.loc = .mark .noRoom ∨ ∃ f, e.loc = .mark (.extern f) := by
  obtain ⟨loc, wr, sy⟩ := e
  cases loc with
  | cell a => have h1 := h.1; have h2 := h.2.2; simp only [here] at h1; omega
  | obj r => have h1 := h.1; have h2 := h.2.2.1; simp only [here] at h1; omega
  | mark m =>
    cases m with
    | acquire a => have h1 := h.1; have h2 := h.2.2; simp only [here] at h1; omega
    | release a => have h1 := h.1; have h2 := h.2.2; simp only [here] at h1; omega
    | releaseMerge a => have h1 := h.1; have h2 := h.2.2; simp only [here] at h1; omega
    | read a => have h1 := h.1; have h2 := h.2.2; simp only [here] at h1; omega
    | write a => have h1 := h.1; have h2 := h.2.2; simp only [here] at h1; omega
    | disable => exact h.elim
    | enable => exact h.elim
    | extern f => exact .inr ⟨f, rfl⟩
    | noRoom => exact .inl rfl
  | output => exact h.elim
  | goroutines => exact h.elim
theorem seen_fold_noext (quiet : FuncId → Bool) : ∀ (l : List Event) (q : Bool) (kept : Array Event) (e : Event), e ∈ (l.foldl (Conc.seenStep quiet) (q, kept)).2 → e ∈ kept ∨ ∀ f, e.loc ≠ .mark (.extern f) := by
  intro l
  induction l with
  | nil => exact fun _ _ _ h => .inl h
  | cons a l ih =>
    intro q kept e h
    simp only [List.foldl_cons, Conc.seenStep] at h
    split at h
    · exact ih _ _ _ h
    · rename_i hne
      rcases ih _ _ _ h with h | h
      · split at h
        · exact .inl h
        · rcases Array.mem_push.1 h with h | rfl
          · exact .inl h
          · exact .inr fun f hf => hne f hf
      · exact .inr h
theorem seen_noext {P : Program} {fn : FuncId} {es : Array Event} {e : Event} (h : e ∈ seen P fn es) : ∀ f, e.loc ≠ .mark (.extern f) := by
  rw [Conc.seen_def] at h
  rcases seen_fold_noext _ es.toList _ #[] e h with h | h
  · simp at h
  · exact h
theorem seen_here {P : Program} {w : World} {fn : FuncId} {es : List Event} (h : ∀ e ∈ es, EvF (here P w) w.heap.size e) : ∀ e ∈ seen P fn es.toArray, e.loc = .mark .noRoom := fun e he => by
  rcases ev_here (h e (by simpa using Conc.mem_seen he)) with h1 | ⟨f, h1⟩
  · exact h1
  · exact absurd h1 (seen_noext he f)

theorem still_todo (hm : fr.mode = .run) {l : List Item} (hs : ∀ w, stepG.exec P main true fr cs none w = .go (G { fr with todo := l } cs) w) (w : World) : Still P main fr cs w { fr with todo := l } :=
  ⟨#[], by have := hs w; simp [G, stepG, hm] at this ⊢; rw [this], by simp⟩

theorem plain_ok (F : Fits P E) (FF : FitsF P E) {c : Code} {k : List AI} (R : RF ι ⟨x, tm, .code c :: k, ds, false⟩ fr) (hp : plainC x c = true) {f' : AF} (e : goT (codeA E c k x tm ds eAH) = some (.go f')) (w : World) : ∃ fr', Still P main fr cs w fr' ∧ RF ι f' fr' := by
  have hm : fr.mode = .run := by simpa using R.mode
  obtain ⟨i, k', ht, rfl, hk⟩ := R.todo
  have mk : ∀ {l : List Item} {td : List AI}, (∀ w, stepG.exec P main true fr cs none w = .go (G { fr with todo := l } cs) w) → RIs ι td l → f' = ⟨x, tm, td, ds, false⟩ → ∃ fr', Still P main fr cs w fr' ∧ RF ι f' fr' := fun hs hl he => ⟨_, still_todo hm hs w, by rw [he]; exact R.to hl⟩
  have leave : x.round = none → (∀ w, stepG.exec P main true fr cs none w = .go (G { fr with mode := .returning } cs) w) → f' = ⟨x, tm, .code c :: k, ds, true⟩ → ∃ fr', Still P main fr cs w fr' ∧ RF ι f' fr' := fun _ hs he =>
    ⟨{ fr with mode := .returning }, ⟨#[], by have := hs w; simp [G, stepG, hm] at this ⊢; rw [this], by simp⟩, by rw [he]; exact ⟨R.fn, R.tm, R.todo, R.ds, rfl, R.kind, R.round⟩⟩
  cases c with
  | skip => cases e; exact mk (l := k') (fun w => by unfold stepG.exec; simp only [ht]; rfl) hk rfl
  | label n => cases e; exact mk (l := k') (fun w => by unfold stepG.exec; simp only [ht]; rfl) hk rfl
  | ret =>
    have hx : x.round = none := by simpa [plainC] using hp
    have hr : fr.roundOf = none := by have := R.round; simp only [hx] at this; exact this
    have e : goT (leaveA x tm (.code .ret :: k) ds eAH (some .ret)) = some (.go f') := e
    unfold leaveA at e
    simp only [hx, goT] at e
    cases e
    exact leave hx (fun w => by unfold stepG.exec; simp only [ht, hr]; rfl) rfl
  | seq a b => cases e; exact mk (td := .code a :: .code b :: k) (l := .code a :: .code b :: k') (fun w => by unfold stepG.exec; simp only [ht]; rfl) (.cons rfl (.cons rfl hk)) rfl
  | cond c a b =>
    have e : goT (match ev tm c with
     | .bool t => some (A1.go ⟨x, tm, .code (cond t a b) :: k, ds, false⟩ eAH)
     | _ => none) = some (.go f') := e
    cases hv : ev tm c <;> rw [hv] at e <;> try (cases e; done)
    rename_i t
    cases e
    have hc := R.tm.ev fr rfl c
    rw [hv] at hc
    have hc : fr.eval c = .bool t := bool_inv hc
    exact mk (td := .code (cond t a b) :: k) (l := .code (if t then a else b) :: k') (fun w => by unfold stepG.exec; simp only [ht, hc]; rfl) (.cons (i := .code (if t then a else b)) (by cases t <;> rfl) hk) rfl
  | block id body => cases e; exact mk (td := .code body :: .inBlock id :: k) (l := .code body :: .inBlock id :: k') (fun w => by unfold stepG.exec; simp only [ht]; rfl) (.cons rfl (.cons rfl hk)) rfl
  | loop body => cases e; exact mk (td := .code body :: .inLoop body :: k) (l := .code body :: .inLoop body :: k') (fun w => by unfold stepG.exec; simp only [ht]; rfl) (.cons rfl (.cons rfl hk)) rfl
  | scope body => cases e; exact mk (td := .code body :: .inScope body :: k) (l := .code body :: .inScope body :: k') (fun w => by unfold stepG.exec; simp only [ht]; rfl) (.cons rfl (.cons rfl hk)) rfl
  | exit id =>
    have hx : x.round = none := by simpa [plainC] using hp
    have hr : fr.roundOf = none := by have := R.round; simp only [hx] at this; exact this
    have e : goT (match exitA id k with
     | some k' => some (A1.go ⟨x, tm, k', ds, false⟩ eAH)
     | none => leaveA x tm (.code (.exit id) :: k) ds eAH (some (.exit id))) = some (.go f') := e
    cases hx' : exitA id k with
    | some k2 =>
      rw [hx'] at e
      cases e
      obtain ⟨k3, h1, h2⟩ := exitA_ok hx' hk
      exact mk (l := k3) (fun w => by unfold stepG.exec; simp only [ht, h1]; rfl) h2 rfl
    | none =>
      rw [hx'] at e
      unfold leaveA at e
      simp only [hx, goT] at e
      cases e
  | goto l =>
    have hx : x.round = none := by simpa [plainC] using hp
    have e : goT (match gotoA l k with
     | some k' => some (A1.go ⟨x, tm, k', ds, false⟩ eAH)
     | none => leaveA x tm (.code (.goto l) :: k) ds eAH (some (.goto l))) = some (.go f') := e
    cases hx' : gotoA l k with
    | some k2 =>
      rw [hx'] at e
      cases e
      obtain ⟨k3, h1, h2⟩ := gotoA_ok hx' hk
      exact mk (l := k3) (fun w => by unfold stepG.exec; simp only [ht, h1]; rfl) h2 rfl
    | none =>
      rw [hx'] at e
      unfold leaveA at e
      simp only [hx, goT] at e
      cases e
  | rangeFunc g ps a b => cases hp
  | region id ops draw =>
    cases draw with
    | false => cases e; exact mk (td := inR ops ops.toList k) (l := .inRegion ops (List.range ops.size) :: k') (fun w => by unfold stepG.exec; simp only [ht]; rfl) (.cons ⟨0, rfl, rfl⟩ hk) rfl
    | true => cases hp
  | refuse s => cases hp
end
end Go.Ev
