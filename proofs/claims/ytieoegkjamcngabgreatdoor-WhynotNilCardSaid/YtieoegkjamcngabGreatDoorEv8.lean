/- A part of the proof that pedigreelaw19.WhynotNil returns true for every input (its card: YtieoegkjamcngabGreatDoorMyCard): EvTab, EvTab2. Conditions: those of the given row alone. -/
import Derived.Test.YtieoegkjamcngabGreatDoorEv7
/- Tables, looked over. -/
namespace Go.Ev

/-! ### types -/
def descB (P : Program) : TD → TypeDesc → Bool
  | .bool, .bool => true
  | .int k, .int k' => ikEq k k'
  | .str, .string => true
  | .ptr e, .pointer e' => Nat.beq e e'
  | .slice e, .slice e' => Nat.beq e e'
  | .map k e, .map k' e' => Nat.beq k k' && Nat.beq e e' && (P.underlying k).isSome
  | .func, .func _ _ _ => true
  | .iface b, .interface ms => b == ms.isEmpty
  | .struct fs, .struct gs => Nat.beq fs.length gs.size && (fs.zip gs.toList).all fun p => Nat.beq p.1.1 p.2.offset && Nat.beq p.1.2.2 p.2.type && (match P.info? p.2.type with | some gi => Nat.beq gi.size p.1.2.1 | none => false)
  | .array n e, .array n' e' => Nat.beq n n' && Nat.beq e e'
  | .uptr, .unsafePointer => true
  | .tuple, .tuple _ => true
  | _, _ => false

def isAggV : Value → Bool
  | .agg _ => true
  | _ => false

def tiokB (P : Program) (t : Nat) (ti : TI) : Bool :=
  match P.info? t, P.underlying t with
  | some i, some d => (match i.zero with
    | some z => Nat.beq i.size ti.size && Nat.beq i.bytes ti.bytes && Nat.beq z.cells.size ti.size && Nat.beq ti.zero.length ti.size && (isAggV z == ti.isAgg) && AV.beqL ti.zero (z.cells.toList.map avScalar) && descB P ti.d d
    | none => false)
  | _, _ => false

def allT {α : Type} (p : Nat → α → Bool) : Tr α → Nat → Nat → Bool
  | .e, _, _ => true
  | .n l v r, a, b => (match v with | some x => p a x | none => true) && (allT p l (a + b) (2 * b) && allT p r (a + 2 * b) (2 * b))

def TrAll {α : Type} (p : Nat → α → Prop) : Tr α → Nat → Nat → Prop
  | .e, _, _ => True
  | .n l v r, a, b => (∀ x, v = some x → p a x) ∧ TrAll p l (a + b) (2 * b) ∧ TrAll p r (a + 2 * b) (2 * b)

theorem TrAll.get {α : Type} {p : Nat → α → Prop} : ∀ {t : Tr α} {a b i : Nat} {x : α}, TrAll p t a b → t.get i = some x → p (a + b * i) x
  | .e, a, b, i, x, _, h => by rw [Tr.get_e] at h; cases h
  | .n l v r, a, b, i, x, H, h => by
    obtain ⟨h1, h2, h3⟩ := H
    rw [Tr.get_n] at h
    by_cases h0 : i = 0
    · subst h0
      simp at h
      have := h1 x h
      simpa using this
    · by_cases hodd : i % 2 = 1
      · simp [h0, hodd] at h
        have := TrAll.get h2 h
        have e : a + b + 2 * b * (i / 2) = a + b * i := by
          have : i = 2 * (i / 2) + 1 := by omega
          conv => rhs; rw [this]
          rw [Nat.mul_add, Nat.mul_one, ← Nat.mul_assoc, Nat.mul_comm b 2]; omega
        rw [e] at this; exact this
      · simp [h0, hodd] at h
        have := TrAll.get h3 h
        have e : a + 2 * b + 2 * b * (i / 2 - 1) = a + b * i := by
          have : i = 2 * (i / 2 - 1) + 2 := by omega
          conv => rhs; rw [this]
          rw [Nat.mul_add, ← Nat.mul_assoc, Nat.mul_comm b 2]; omega
        rw [e] at this; exact this
theorem allT_all {α : Type} {p : Nat → α → Bool} : ∀ {t : Tr α} {a b : Nat}, allT p t a b = true → TrAll (fun i x => p i x = true) t a b
  | .e, _, _, _ => trivial
  | .n l v r, a, b, h => by
    unfold allT at h
    rw [Bool.and_eq_true, Bool.and_eq_true] at h
    obtain ⟨h1, h2, h3⟩ := h
    refine ⟨fun x hx => ?_, allT_all h2, allT_all h3⟩
    subst hx; exact h1

theorem avScalars_ok {ι : Nm} : ∀ l : List Value, RVs ι (l.map avScalar) l
  | [] => RVs_nil
  | v :: l => RVs_cons (RV_scalar v) (avScalars_ok l)

theorem AV.beqL_eq' {l m : List AV} (h : AV.beqL l m = true) : l = m := AV.beqL_eq h

theorem descB_ok {P : Program} {a : TD} {d : TypeDesc} (h : descB P a d = true) : match (generalizing := false) a, d with
    | .bool, .bool => True
    | .int k, .int k' => k = k'
    | .str, .string => True
    | .ptr e, .pointer e' => e = e'
    | .slice e, .slice e' => e = e'
    | .map k e, .map k' e' => k = k' ∧ e = e' ∧ ∃ kd, P.underlying k = some kd
    | .func, .func _ _ _ => True
    | .iface b, .interface ms => b = ms.isEmpty
    | .struct fs, .struct gs => fs.length = gs.size ∧ ∀ (i : Nat) (x : Nat × Nat × TypeId) (g : Field), fs[i]? = some x → gs[i]? = some g → x.1 = g.offset ∧ x.2.2 = g.type ∧ ∃ gi, P.info? g.type = some gi ∧ gi.size = x.2.1
    | .array n e, .array n' e' => n = n' ∧ e = e'
    | .uptr, .unsafePointer => True
    | .tuple, .tuple _ => True
    | _, _ => False := by
  cases a <;> cases d <;> simp only [descB, Bool.false_eq_true] at h ⊢
  · exact ikEq_true h
  · exact Nat.eq_of_beq_eq_true h
  · exact Nat.eq_of_beq_eq_true h
  · rw [Bool.and_eq_true, Bool.and_eq_true] at h
    exact ⟨Nat.eq_of_beq_eq_true h.1.1, Nat.eq_of_beq_eq_true h.1.2, Option.isSome_iff_exists.1 h.2⟩
  · exact eq_of_beq h
  · rw [Bool.and_eq_true, List.all_eq_true] at h
    refine ⟨Nat.eq_of_beq_eq_true h.1, fun i x g hx hg => ?_⟩
    have hm : (x, g) ∈ List.zip _ _ := List.mem_of_getElem? (i := i) (by rw [List.getElem?_zip_eq_some]; exact ⟨hx, by rw [Array.getElem?_toList]; exact hg⟩)
    have := h.2 _ hm
    simp only [Bool.and_eq_true] at this
    refine ⟨Nat.eq_of_beq_eq_true this.1.1, Nat.eq_of_beq_eq_true this.1.2, ?_⟩
    have h3 := this.2
    split at h3
    · exact ⟨_, ‹_›, Nat.eq_of_beq_eq_true h3⟩
    · cases h3
  · rw [Bool.and_eq_true] at h
    exact ⟨Nat.eq_of_beq_eq_true h.1, Nat.eq_of_beq_eq_true h.2⟩

theorem tiokB_ok {P : Program} {t : Nat} {ti : TI} (h : tiokB P t ti = true) : TIok P t ti := by
  unfold tiokB at h
  split at h
  · rename_i i d hi hd
    split at h
    · rename_i z hz
      simp only [Bool.and_eq_true] at h
      obtain ⟨⟨⟨⟨⟨⟨h1, h2⟩, h3⟩, h4⟩, h5⟩, h6⟩, h7⟩ := h
      have h6 := AV.beqL_eq h6
      have h5 : isAggV z = ti.isAgg := eq_of_beq h5
      refine ⟨⟨i, z, hi, Nat.eq_of_beq_eq_true h1, Nat.eq_of_beq_eq_true h2, hz, fun ι => ?_, fun ι => by rw [h6]; exact avScalars_ok _, Nat.eq_of_beq_eq_true h3, Nat.eq_of_beq_eq_true h4⟩, d, hd, descB_ok h7⟩
      unfold TI.zeroV
      rw [← h5]
      cases hz2 : isAggV z with
      | true =>
        obtain ⟨cs, rfl⟩ : ∃ cs, z = .agg cs := by cases z <;> first | exact ⟨_, rfl⟩ | cases hz2
        exact RV_agg (by rw [h6]; exact avScalars_ok _)
      | false =>
        have hc : z.cells = #[z] := by cases z <;> first | rfl | cases hz2
        rw [h6, hc]
        exact RV_scalar z
    · cases h
  · cases h
end Go.Ev
/- Tables of functions, looked over; a method. -/
namespace Go.Ev

/-- What a function without a body is. -/
def ExtSays (fn : Func) : EX → Prop
  | .noEscape => ∃ e, Extern.find fn = some e ∧ ∀ v, e #[v] = Pure.pure v
  | .false_ => ∃ e, Extern.find fn = some e ∧ ∀ vs, e vs = Pure.pure (.bool false)
  | .race => ∃ m : Addr → Mark, Extern.find fn = some (Extern.Race.marked m) ∧ (m = .acquire ∨ m = .release ∨ m = .releaseMerge ∨ m = .read ∨ m = .write)
  | .dis => Extern.find fn = some (fun _ => do mark .disable; Pure.pure Extern.Race.none_)
  | .en => Extern.find fn = some (fun _ => do mark .enable; Pure.pure Extern.Race.none_)
  | .atAdd k => Extern.find fn = some (Extern.Atomic.update (Op.intArith .add) k true)
  | .atCas k => Extern.find fn = some (Extern.Atomic.casT (.int k))
  | .atLoad k => Extern.find fn = some (Extern.Atomic.loadT (.int k))
  | .stop => False

def FnOk (P : Program) (g : Nat) (fi : FI) : Prop :=
  ∃ fn, P.funcs[g]? = some fn ∧ fn.ntmps = fi.ntmps ∧ fn.results.toList = fi.results ∧ fn.body = fi.body ∧ (fn.name == "runtime.NumGoroutine") = false ∧
    (fi.body.isSome = true ∨ fi.ext = .stop ∨ (Extern.findNext fn = none ∧ ExtSays fn fi.ext))

theorem fnok_one {p : Nat → FI → Prop} {a : Nat} {x : FI} (h : p a x) : ∀ y, some x = some y → p a y := fun y e => by cases e; exact h
theorem fnok_no {p : Nat → FI → Prop} {a : Nat} : ∀ y, (none : Option FI) = some y → p a y := fun y e => by cases e

section
variable {P : Program} {E : Env}

theorem fn_at (H : TrAll (FnOk P) E.ft 0 1) {g : Nat} {fi : FI} (h : E.ft.get g = some fi) : FnOk P g fi := by
  have := TrAll.get H h
  simpa using this

theorem ext_at (H : TrAll (FnOk P) E.ft 0 1) {g : Nat} {n : Nat} {rs : List ResultVar} {x : EX} (h : E.ft.get g = some ⟨none, n, rs, x⟩) (hx : x ≠ .stop) : ∃ fn, P.funcs[g]? = some fn ∧ (fn.name == "runtime.NumGoroutine") = false ∧ fn.body.isNone = true ∧ Extern.findNext fn = none ∧ ExtSays fn x := by
  obtain ⟨fn, h1, h2, h3, h4, h5, h6⟩ := fn_at H h
  rcases h6 with h7 | h7 | ⟨h7, h8⟩
  · cases h7
  · exact absurd h7 hx
  · exact ⟨fn, h1, h5, by rw [h4]; rfl, h7, h8⟩

theorem fitsX_of (H : TrAll (FnOk P) E.ft 0 1) : FitsX P E where
  noEscape g n rs h := by
    obtain ⟨fn, h1, h2, h3, h4, e, h5, h6⟩ := ext_at H h (by simp)
    exact ⟨e, ⟨fn, h1, h2, h3, h4, h5⟩, h6⟩
  false_ g n rs h := by
    obtain ⟨fn, h1, h2, h3, h4, e, h5, h6⟩ := ext_at H h (by simp)
    exact ⟨e, ⟨fn, h1, h2, h3, h4, h5⟩, h6⟩
  race g n rs h := by
    obtain ⟨fn, h1, h2, h3, h4, m, h5, h6⟩ := ext_at H h (by simp)
    exact ⟨m, ⟨fn, h1, h2, h3, h4, h5⟩, h6⟩
  dis g n rs h := by
    obtain ⟨fn, h1, h2, h3, h4, h5⟩ := ext_at H h (by simp)
    exact ⟨fn, h1, h2, h3, h4, h5⟩
  en g n rs h := by
    obtain ⟨fn, h1, h2, h3, h4, h5⟩ := ext_at H h (by simp)
    exact ⟨fn, h1, h2, h3, h4, h5⟩
  atAdd g n rs k h := by
    obtain ⟨fn, h1, h2, h3, h4, h5⟩ := ext_at H h (by simp)
    exact ⟨fn, h1, h2, h3, h4, h5⟩
  atCas g n rs k h := by
    obtain ⟨fn, h1, h2, h3, h4, h5⟩ := ext_at H h (by simp)
    exact ⟨fn, h1, h2, h3, h4, h5⟩
  atLoad g n rs k h := by
    obtain ⟨fn, h1, h2, h3, h4, h5⟩ := ext_at H h (by simp)
    exact ⟨fn, h1, h2, h3, h4, h5⟩

theorem fitsF_of (H : TrAll (FnOk P) E.ft 0 1) (hm : P.follows .mixedOrders = true) : FitsF P E where
  code g c n rs x h := by
    obtain ⟨fn, h1, h2, h3, h4, h5, _⟩ := fn_at H h
    exact ⟨fn, h1, h4, h2, h3, h5⟩
  ext := ext_ok (fitsX_of H)
  mixed := hm
  recov := rfl

theorem types_of (H : allT (tiokB P) E.tt 0 1 = true) : ∀ t ti, E.tt.get t = some ti → TIok P t ti := fun t ti h => by
  have := TrAll.get (allT_all H) h
  simp only [Nat.zero_add, Nat.one_mul] at this
  exact tiokB_ok this

/-- A method of a pointer's type's own. -/
theorem meth_ptr {t : TypeId} {i : TypeInfo} {m : Method} {g : FuncId} {name : String} {e : TypeId} (hi : P.info? t = some i) (hu : P.underlying t = some (.pointer e)) (hm : i.methods.find? (fun m => m.name == name) = some m) (hp : m.path.toList = []) (hf : m.func = some (g, true)) {fuel : Nat} (hfu : fuel ≠ 0)
    (v : Value) (w : World) : SRun P (method fuel t v name) w (g, v) w [] := by
  cases fuel with
  | zero => exact absurd rfl hfu
  | succ fuel =>
    unfold method
    refine SRun.bind0 (SRun.typeInfo hi) ?_
    simp only [hm, hp, hf]
    refine SRun.bind0 (a := (t, Place.val v)) (by unfold follow; exact SRun.pure _) ?_
    refine SRun.bind0 (a := v) ?_ (SRun.pure _)
    unfold receiverAt
    exact SRun.bind0 (SRun.underlying hu) (SRun.pure _)
end
end Go.Ev
