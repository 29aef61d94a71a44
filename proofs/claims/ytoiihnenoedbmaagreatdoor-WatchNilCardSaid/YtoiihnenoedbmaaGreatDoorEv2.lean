/- A part of the proof that the law WatchNil returns true for every input (its card: YtoiihnenoedbmaaGreatDoorMyCard): EvQuiet2, EvQuiet3, EvQuiet4, EvQuiet5, EvQuiet6, EvQuiet7, EvQuiet8, EvHeap, EvLoud. Conditions: those of the given row alone. -/
import Derived.Test.YtoiihnenoedbmaaGreatDoorEv1
import Derived.Laws.Strings
import Derived.Laws.Sem
/- The operations that change nothing, one by one. -/
namespace Go.Ev

def QOk (P : Program) (K : Ctx) (ι : Nm) (w : World) (s : Sem Value) (a : AV) : Prop :=
  ∃ v es, SRun P s w v w es ∧ RV ι a v ∧ ∀ e ∈ es, EvF K w.heap.size e

section
variable {P : Program} {K : Ctx} {ι : Nm} {h : AH} {w : World} {E : Env}

theorem QOk.pure {v : Value} {a : AV} (h : RV ι a v) : QOk P K ι w (Pure.pure v) a := ⟨v, [], SRun.pure v, h, by simp⟩
theorem QOk.bind0 {α : Type} {s : Sem α} {f : α → Sem Value} {x : α} {a : AV} (h1 : SRun P s w x w []) (h2 : QOk P K ι w (f x) a) : QOk P K ι w (s >>= f) a := by
  obtain ⟨v, es, h3, h4, h5⟩ := h2
  exact ⟨v, es, by simpa using SRun.bind h1 h3, h4, h5⟩
theorem QOk.bindE {α : Type} {s : Sem α} {f : α → Sem Value} {x : α} {a : AV} {e1 : List Event} (h1 : SRun P s w x w e1) (he : ∀ e ∈ e1, EvF K w.heap.size e) (h2 : QOk P K ι w (f x) a) : QOk P K ι w (s >>= f) a := by
  obtain ⟨v, es, h3, h4, h5⟩ := h2
  refine ⟨v, e1 ++ es, SRun.bind h1 h3, h4, fun e hm => ?_⟩
  rcases List.mem_append.1 hm with hm | hm
  · exact he e hm
  · exact h5 e hm

theorem d_of {t : TypeId} {d : TD} (F : Fits P E) (e : E.d t = some d) : ∃ ti, E.tt.get t = some ti ∧ ti.d = d ∧ TIok P t ti := by
  unfold Env.d at e
  cases ht : E.tt.get t with
  | none => rw [ht] at e; cases e
  | some ti => rw [ht] at e; simp at e; exact ⟨ti, rfl, e, F.tt t ti ht⟩

theorem desc_slice {t e : TypeId} (F : Fits P E) (hd : E.d t = some (.slice e)) : P.underlying t = some (.slice e) := by
  obtain ⟨ti, _, h2, H⟩ := d_of F hd
  obtain ⟨d, h3, h4⟩ := H.desc
  rw [h2] at h4
  cases d <;> first | exact h4.elim | (simp only at h4; subst h4; exact h3)
theorem desc_array {t e : TypeId} {k : Nat} (F : Fits P E) (hd : E.d t = some (.array k e)) : P.underlying t = some (.array k e) := by
  obtain ⟨ti, _, h2, H⟩ := d_of F hd
  obtain ⟨d, h3, h4⟩ := H.desc
  rw [h2] at h4
  cases d <;> first | exact h4.elim | (obtain ⟨rfl, rfl⟩ := h4; exact h3)
theorem desc_ptr {t e : TypeId} (F : Fits P E) (hd : E.d t = some (.ptr e)) : P.underlying t = some (.pointer e) := by
  obtain ⟨ti, _, h2, H⟩ := d_of F hd
  obtain ⟨d, h3, h4⟩ := H.desc
  rw [h2] at h4
  cases d <;> first | exact h4.elim | (simp only at h4; subst h4; exact h3)
theorem desc_map {t k e : TypeId} (F : Fits P E) (hd : E.d t = some (.map k e)) : P.underlying t = some (.map k e) ∧ ∃ kd, P.underlying k = some kd := by
  obtain ⟨ti, _, h2, H⟩ := d_of F hd
  obtain ⟨d, h3, h4⟩ := H.desc
  rw [h2] at h4
  cases d <;> first | exact h4.elim | (obtain ⟨rfl, rfl, h5⟩ := h4; exact ⟨h3, h5⟩)
theorem desc_int {t : TypeId} {k : IntKind} (F : Fits P E) (hd : E.d t = some (.int k)) : P.underlying t = some (.int k) := by
  obtain ⟨ti, _, h2, H⟩ := d_of F hd
  obtain ⟨d, h3, h4⟩ := H.desc
  rw [h2] at h4
  cases d <;> first | exact h4.elim | (simp only at h4; subst h4; exact h3)
theorem desc_str {t : TypeId} (F : Fits P E) (hd : E.d t = some .str) : P.underlying t = some .string := by
  obtain ⟨ti, _, h2, H⟩ := d_of F hd
  obtain ⟨d, h3, h4⟩ := H.desc
  rw [h2] at h4
  cases d <;> first | exact h4.elim | exact h3
theorem desc_bool {t : TypeId} (F : Fits P E) (hd : E.d t = some .bool) : P.underlying t = some .bool := by
  obtain ⟨ti, _, h2, H⟩ := d_of F hd
  obtain ⟨d, h3, h4⟩ := H.desc
  rw [h2] at h4
  cases d <;> first | exact h4.elim | exact h3
theorem desc_uptr {t : TypeId} (F : Fits P E) (hd : E.d t = some .uptr) : P.underlying t = some .unsafePointer := by
  obtain ⟨ti, _, h2, H⟩ := d_of F hd
  obtain ⟨d, h3, h4⟩ := H.desc
  rw [h2] at h4
  cases d <;> first | exact h4.elim | exact h3
theorem desc_func {t : TypeId} (F : Fits P E) (hd : E.d t = some .func) : ∃ a b c, P.underlying t = some (.func a b c) := by
  obtain ⟨ti, _, h2, H⟩ := d_of F hd
  obtain ⟨d, h3, h4⟩ := H.desc
  rw [h2] at h4
  cases d <;> first | exact h4.elim | exact ⟨_, _, _, h3⟩
theorem desc_iface {t : TypeId} {b : Bool} (F : Fits P E) (hd : E.d t = some (.iface b)) : ∃ ms, P.underlying t = some (.interface ms) := by
  obtain ⟨ti, _, h2, H⟩ := d_of F hd
  obtain ⟨d, h3, h4⟩ := H.desc
  rw [h2] at h4
  cases d <;> first | exact h4.elim | exact ⟨_, h3⟩
theorem desc_struct {t : TypeId} {fs : List (Nat × Nat × TypeId)} (F : Fits P E) (hd : E.d t = some (.struct fs)) : ∃ gs, P.underlying t = some (.struct gs) ∧
    ∀ (i : Nat) (x : Nat × Nat × TypeId), fs[i]? = some x → ∃ g, gs[i]? = some g ∧ x.1 = g.offset ∧ x.2.2 = g.type ∧ ∃ gi, P.info? g.type = some gi ∧ gi.size = x.2.1 := by
  obtain ⟨ti, _, h2, H⟩ := d_of F hd
  obtain ⟨d, h3, h4⟩ := H.desc
  rw [h2] at h4
  cases d <;> first | exact h4.elim | skip
  rename_i gs
  obtain ⟨hl, h5⟩ := h4
  refine ⟨gs, h3, fun i x hx => ?_⟩
  have hi : i < gs.size := by
    rw [← hl]; rw [List.getElem?_eq_some_iff] at hx; exact hx.1
  exact ⟨gs[i], by simp [hi], h5 i x gs[i] hx (by simp [hi])⟩

theorem desc_struct_all {t : TypeId} {fs : List (Nat × Nat × TypeId)} (F : Fits P E) (hd : E.d t = some (.struct fs)) {gs : Array Field} (hu : P.underlying t = some (.struct gs)) (k : Nat) (hk : k < gs.size) :
    ∃ i, P.info? gs[k].type = some i := by
  obtain ⟨ti, _, h2, H⟩ := d_of F hd
  obtain ⟨d, h3, h4⟩ := H.desc
  rw [h2] at h4
  rw [hu] at h3; cases h3
  obtain ⟨hl, h5⟩ := h4
  have hk' : k < fs.length := by omega
  obtain ⟨_, _, gi, h6, _⟩ := h5 k fs[k] gs[k] (by simp [hk']) (by simp [hk])
  exact ⟨gi, h6⟩

theorem ptr_inv {i o : Nat} {v : Value} (hv : RV ι (.ptr i o) v) : ∃ p, ι i = some p ∧ v = .pointer (some ⟨p.1, o, none⟩) := by unfold RV at hv; exact hv
theorem int_inv {k : IntKind} {x : Int} {v : Value} (hv : RV ι (.int k x) v) : v = .int k x := by unfold RV at hv; exact hv
theorem str_inv {s : List UInt8} {v : Value} (hv : RV ι (.str s) v) : v = .string ⟨s.toArray⟩ := by unfold RV at hv; exact hv
theorem bool_inv {b : Bool} {v : Value} (hv : RV ι (.bool b) v) : v = .bool b := by unfold RV at hv; exact hv
theorem agg_inv {l : List AV} {v : Value} (hv : RV ι (.agg l) v) : ∃ cs, v = .agg cs ∧ RVs ι l cs.toList := by unfold RV at hv; exact hv
theorem tup_inv {l : List AV} {v : Value} (hv : RV ι (.tup l) v) : ∃ cs, v = .tuple cs ∧ RVs ι l cs.toList := by unfold RV at hv; exact hv
theorem sl_inv {i o l : Nat} {c : Option Nat} {v : Value} (hv : RV ι (.sl i o l c) v) : ∃ p, ι i = some p ∧ ∃ cap, v = .slice (some ⟨p.1, o, none⟩) l cap ∧ l ≤ cap ∧ (∀ k, c = some k → cap = k) ∧ (c = none → o = 0 → cap ≤ p.2) := by unfold RV at hv; exact hv
theorem iface_inv {t : TypeId} {a : AV} {v : Value} (hv : RV ι (.iface t a) v) : ∃ x, v = .iface t x ∧ RV ι a x := by unfold RV at hv; exact hv
theorem map_inv {i : Nat} {v : Value} (hv : RV ι (.map i) v) : ∃ p, ι i = some p ∧ v = .map (some p.1) := by unfold RV at hv; exact hv
theorem fn_inv {f : FuncId} {a b : List AV} {v : Value} (hv : RV ι (.fn f a b) v) : ∃ as bs, v = .func (.func f) as bs ∧ RVs ι a as.toList ∧ RVs ι b bs.toList := by unfold RV at hv; exact hv
theorem RV_bool {b : Bool} : RV ι (.bool b) (.bool b) := by unfold RV; rfl
theorem RV_int {k : IntKind} {x : Int} : RV ι (.int k x) (.int k x) := by unfold RV; rfl
theorem RV_str {s : List UInt8} : RV ι (.str s) (.string ⟨s.toArray⟩) := by unfold RV; rfl
theorem RV_ptr {i o : Nat} {p : Nat × Nat} (hi : ι i = some p) : RV ι (.ptr i o) (.pointer (some ⟨p.1, o, none⟩)) := by unfold RV; exact ⟨p, hi, rfl⟩
theorem RV_agg {l : List AV} {cs : Array Value} (hl : RVs ι l cs.toList) : RV ι (.agg l) (.agg cs) := by unfold RV; exact ⟨cs, rfl, hl⟩
theorem RV_tup {l : List AV} {cs : Array Value} (hl : RVs ι l cs.toList) : RV ι (.tup l) (.tuple cs) := by unfold RV; exact ⟨cs, rfl, hl⟩

/-! ### unary, extract, nilCheck, field addresses -/
theorem unA_ok {op : UnOp} {x a : AV} {v : Value} (e : unA op x = some a) (hv : RV ι x v) : QOk P K ι w (Op.unary op v) a := by
  unfold unA at e
  split at e
  · obtain rfl := bool_inv hv; cases e; exact QOk.pure RV_bool
  · rename_i k x; obtain rfl := int_inv hv; cases e
    show QOk P K ι w (Op.intArith .sub k 0 x) _
    exact QOk.pure RV_int
  · rename_i k x; obtain rfl := int_inv hv; cases e
    show QOk P K ι w (Op.intBits .xor k (if k.signed then -1 else k.max) x) _
    have : (if k.signed = true then (-1 : Int) else k.max) = cond k.signed (-1) k.max := by cases k.signed <;> rfl
    rw [this]
    exact QOk.pure RV_int
  · cases e

theorem extractA_ok {x a : AV} {i : Nat} {v : Value} (e : extractA x i = some a) (hv : RV ι x v) : QOk P K ι w (Instr.extract v i) a := by
  unfold extractA at e
  split at e
  · obtain ⟨cs, rfl, hl⟩ := tup_inv hv
    obtain ⟨u, h1, h2⟩ := hl.get e
    unfold Instr.extract
    simp only [← Array.getElem?_toList, h1]
    exact QOk.pure h2
  · cases e

theorem fieldAddrA_ok (F : Fits P E) {s : TypeId} {x a : AV} {i : Nat} {v : Value} (e : fieldAddrA E s x i = some a) (hv : RV ι x v) : QOk P K ι w (Instr.fieldAt s v i) a := by
  unfold fieldAddrA at e
  split at e
  · rename_i fs id off hd
    obtain ⟨gs, hu, hg⟩ := desc_struct F hd
    obtain ⟨p, hi, rfl⟩ := ptr_inv hv
    split at e
    · rename_i o size ty hf
      obtain ⟨g, hg1, h1, _, gi, h3, h4⟩ := hg i _ hf
      simp only at h1 h4
      cases hz : Nat.beq size 0 with
      | true => rw [hz] at e; cases e
      | false =>
        rw [hz] at e; simp only [cond_false, Option.some.injEq] at e; subst e
        have hne : ¬ gi.size = 0 := by rw [h4]; exact Nat.ne_of_beq_eq_false hz
        unfold Instr.fieldAt
        refine QOk.bind0 (SRun.underlying hu) ?_
        simp only [hg1]
        refine QOk.bind0 (x := ⟨p.1, off, none⟩) (by unfold Instr.sureAddr; exact SRun.pure _) ?_
        refine QOk.bind0 (x := ⟨p.1, off + o, none⟩) ?_ (QOk.pure (RV_ptr hi))
        unfold fieldPlace
        have := SRun.bind (e1 := []) (e2 := []) (SRun.sizeOf (w := w) h3) (f := fun k => if k = 0 then partAt ⟨p.1, off, none⟩ g.offset g.byteOffset else Pure.pure ((⟨p.1, off, none⟩ : Addr).add g.offset)) (b := ⟨p.1, off + o, none⟩) (w2 := w) (by
          rw [if_neg hne, add_none, ← h1]; exact SRun.pure _)
        simpa using this
    · cases e
  · cases e

theorem SRun_part (F : Fits P E) {u : TypeId} {l : List AV} {o : Nat} {a : AV} {cs : Array Value} (e : partA E u l o = some a) (hl : RVs ι l cs.toList) : ∃ v, SRun P (part u cs o) w v w [] ∧ RV ι a v := by
  unfold partA at e
  cases ht : E.tt.get u with
  | none => rw [ht] at e; cases e
  | some ti =>
    rw [ht] at e
    have H := F.tt u ti ht
    unfold part
    cases hag : ti.isAgg with
    | true =>
      simp only [hag, cond_true] at e
      cases hk : takeN l o ti.size with
      | none => rw [hk] at e; cases e
      | some r =>
        rw [hk] at e; simp at e; subst e
        obtain ⟨hr, hn⟩ := takeN_some hk
        refine ⟨.agg (cs.extract o (o + ti.size)), ?_, RV_agg ?_⟩
        · refine SRun.bind0 (SRun_isAgg H) ?_
          rw [hag, if_pos rfl]
          exact SRun.bind0 (SRun_sizeOf H) (SRun.pure _)
        · rw [hr]
          have : (cs.extract o (o + ti.size)).toList = (cs.toList.drop o).take ti.size := by
            rw [Array.toList_extract, List.extract_eq_take_drop]; simp
          rw [this]
          exact (hl.drop o).take _
    | false =>
      simp only [hag, cond_false] at e
      obtain ⟨v, h1, h2⟩ := hl.get e
      refine ⟨v, ?_, h2⟩
      refine SRun.bind0 (SRun_isAgg H) ?_
      rw [hag, if_neg (by decide)]
      simp only [← Array.getElem?_toList, h1]
      exact SRun.pure v

theorem fieldA_ok (F : Fits P E) {t : TypeId} {x a : AV} {i : Nat} {v : Value} (e : fieldA E t x i = some a) (hv : RV ι x v) : QOk P K ι w (Instr.field t v i) a := by
  unfold fieldA at e
  split at e
  · rename_i fs l hd
    obtain ⟨gs, hu, hg⟩ := desc_struct F hd
    obtain ⟨cs, rfl, hl⟩ := agg_inv hv
    split at e
    · rename_i o size ty hf
      obtain ⟨g, hg1, h1, h2, _⟩ := hg i _ hf
      simp only at h1 h2
      subst h1; subst h2
      unfold Instr.field
      refine QOk.bind0 (SRun.underlying hu) ?_
      simp only [hg1]
      refine QOk.bind0 (x := cs) (by unfold asAgg; exact SRun.pure _) ?_
      obtain ⟨u, h3, h4⟩ := SRun_part (w := w) F e hl
      exact ⟨u, [], h3, h4, by simp⟩
    · cases e
  · cases e
end

end Go.Ev
/- The operations that change nothing: indices, slices, assertions, lengths. -/
namespace Go.Ev
section
variable {P : Program} {K : Ctx} {ι : Nm} {h : AH} {w : World} {E : Env}

theorem cond_some {α : Type} {b : Bool} {x : α} {y : α} (e : cond b (some x) none = some y) : b = true ∧ x = y := by
  cases b with
  | true => exact ⟨rfl, Option.some.inj e⟩
  | false => cases e
theorem condO_some {α : Type} {b : Bool} {x : Option α} {y : α} (e : cond b x none = some y) : b = true ∧ x = some y := by
  cases b with
  | true => exact ⟨rfl, e⟩
  | false => cases e
theorem cond_none_some {α : Type} {b : Bool} {x : Option α} {y : α} (e : cond b none x = some y) : b = false ∧ x = some y := by
  cases b with
  | true => cases e
  | false => exact ⟨rfl, e⟩

theorem tt_of (F : Fits P E) {t : TypeId} {ti : TI} (e : E.tt.get t = some ti) : TIok P t ti := F.tt t ti e

theorem indexAddrA_ok (F : Fits P E) {t : TypeId} {x i a : AV} {v u : Value} (e : indexAddrA E t x i = some a) (hv : RV ι x v) (hu : RV ι i u) : QOk P K ι w (Instr.indexAt t v u) a := by
  unfold indexAddrA at e
  split at e
  · rename_i el id off len _ k n hd
    split at e
    · rename_i ei he
      obtain ⟨hb, rfl⟩ := cond_some e
      have hb := of_decide_eq_true hb
      have H := tt_of F he
      have ht := desc_slice F hd
      obtain ⟨p, hp, cap, rfl, _⟩ := sl_inv hv
      obtain rfl := int_inv hu
      unfold Instr.indexAt
      refine QOk.bind0 (x := (k, n)) (SRun.pure _) ?_
      refine QOk.bind0 (SRun.underlying ht) ?_
      refine QOk.bind0 (x := (some ⟨p.1, off, none⟩, len, el)) (SRun.pure _) ?_
      refine QOk.bind0 (SRun.underlying ht) ?_
      simp only [if_pos hb]
      refine QOk.bind0 (SRun_sizeOf H) ?_
      rw [add_none]
      exact QOk.pure (RV_ptr hp)
    · cases e
  · rename_i len el id off k n hd
    split at e
    · rename_i ei he
      obtain ⟨hb, rfl⟩ := cond_some e
      have hb := of_decide_eq_true hb
      have H := tt_of F he
      have ht := desc_array F hd
      obtain ⟨p, hp, rfl⟩ := ptr_inv hv
      obtain rfl := int_inv hu
      unfold Instr.indexAt
      refine QOk.bind0 (x := (k, n)) (SRun.pure _) ?_
      refine QOk.bind0 (SRun.underlying ht) ?_
      refine QOk.bind0 (x := (some ⟨p.1, off, none⟩, len, el)) (SRun.pure _) ?_
      refine QOk.bind0 (SRun.underlying ht) ?_
      simp only [if_pos hb]
      refine QOk.bind0 (SRun_sizeOf H) ?_
      rw [add_none]
      exact QOk.pure (RV_ptr hp)
    · cases e
  · cases e

theorem toList_mk (l : List UInt8) : (⟨l.toArray⟩ : ByteArray).toList = l := by
  rw [ByteArray.toList_eq]

theorem size_mk (l : List UInt8) : (⟨l.toArray⟩ : ByteArray).size = l.length := by
  show l.toArray.size = _; simp
theorem get_mk (l : List UInt8) (i : Nat) : (⟨l.toArray⟩ : ByteArray)[i]? = l[i]? := by
  by_cases hi : i < l.length
  · have h1 : i < (⟨l.toArray⟩ : ByteArray).size := by rw [size_mk]; exact hi
    rw [getElem?_pos (⟨l.toArray⟩ : ByteArray) i h1, List.getElem?_eq_getElem hi]; rfl
  · have h1 : ¬ i < (⟨l.toArray⟩ : ByteArray).size := by rw [size_mk]; exact hi
    rw [getElem?_neg (⟨l.toArray⟩ : ByteArray) i h1, List.getElem?_eq_none (by omega)]

theorem indexA_ok (F : Fits P E) {t : TypeId} {x i a : AV} {v u : Value} (e : indexA E t x i = some a) (hv : RV ι x v) (hu : RV ι i u) : QOk P K ι w (Instr.index t v u) a := by
  unfold indexA at e
  split at e
  · rename_i s k n hd
    obtain ⟨hb, e⟩ := condO_some e
    have hb := of_decide_eq_true hb
    obtain rfl := str_inv hv
    obtain rfl := int_inv hu
    cases hs : s[n.toNat]? with
    | none => rw [hs] at e; cases e
    | some b =>
      rw [hs] at e; simp only [Option.map_some, Option.some.injEq] at e; subst e
      unfold Instr.index
      refine QOk.bind0 (x := (k, n)) (SRun.pure _) ?_
      refine QOk.bind0 (SRun.underlying (desc_str F hd)) ?_
      simp only [if_pos hb, get_mk, hs]
      exact QOk.pure RV_int
  · rename_i len el l k n hd
    split at e
    · rename_i ei he
      obtain ⟨hb, e⟩ := condO_some e
      have hb := of_decide_eq_true hb
      obtain ⟨cs, rfl, hl⟩ := agg_inv hv
      obtain rfl := int_inv hu
      obtain ⟨r, h3, h4⟩ := SRun_part (w := w) F e hl
      unfold Instr.index
      refine QOk.bind0 (x := (k, n)) (SRun.pure _) ?_
      refine QOk.bind0 (SRun.underlying (desc_array F hd)) ?_
      simp only [if_pos hb]
      exact QOk.bind0 (SRun_sizeOf (tt_of F he)) ⟨r, [], h3, h4, by simp⟩
    · cases e
  · cases e

theorem makeIfaceA_ok (F : Fits P E) {t : TypeId} {x a : AV} {v : Value} (e : makeIfaceA E t x = some a) (hv : RV ι x v) : QOk P K ι w (Instr.makeInterface t v) a := by
  unfold makeIfaceA at e
  split at e
  · cases e
  · cases e
  · rename_i d hni hd
    cases e
    obtain ⟨ti, _, h2, H⟩ := d_of F hd
    obtain ⟨d', h3, h4⟩ := H.desc
    rw [h2] at h4
    unfold Instr.makeInterface
    refine QOk.bind0 (SRun.underlying h3) ?_
    have hr : RV ι (.iface t x) (.iface t v) := by unfold RV; exact ⟨v, rfl, hv⟩
    cases d' <;> first
      | exact QOk.pure hr
      | skip
    rename_i ms
    cases d <;> first
      | exact h4.elim
      | exact (hni _ rfl).elim

theorem assertA_ok (F : Fits P E) {t s : TypeId} {x a : AV} {v : Value} {ok : Bool} (e : assertA E t x ok = some a) (hv : RV ι x v) : QOk P K ι w (Instr.typeAssert v s t ok) a := by
  unfold assertA at e
  split at e
  · rename_i ti u v' ht
    have H := tt_of F ht
    obtain ⟨x', rfl, hx⟩ := iface_inv hv
    obtain ⟨d', h3, h4⟩ := H.desc
    unfold Instr.typeAssert
    refine QOk.bind0 (SRun.underlying h3) ?_
    split at e
    · cases e
    · rename_i hni
      have key : ∀ d', (∀ ms, d' ≠ TypeDesc.interface ms) → QOk P K ι w (if u = t then (Pure.pure (if ok = true then Value.tuple #[x', .bool true] else x') : Sem Value) else
          (if ok = true then (do Pure.pure (Value.tuple #[← zeroValue t, .bool false])) else runtimePanic (.typeAssertion (some s) (some u) t ""))) a := by
        intro d' _
        cases hb : Nat.beq u t with
        | true =>
          rw [hb, cond_true] at e
          rw [if_pos (Nat.eq_of_beq_eq_true hb)]
          cases ok with
          | true => cases e; exact QOk.pure (RV_tup (RVs_cons hx (RVs_cons RV_bool RVs_nil)))
          | false => cases e; exact QOk.pure hx
        | false =>
          rw [hb, cond_false] at e
          rw [if_neg (fun h => by rw [h] at hb; simp at hb)]
          cases ok with
          | false => cases e
          | true =>
            cases e
            obtain ⟨i, z, hi, _, _, hz, hzv, _⟩ := H.info
            exact QOk.bind0 (SRun.zeroValue hi hz) (QOk.pure (RV_tup (RVs_cons (hzv ι) (RVs_cons RV_bool RVs_nil))))
      cases hd : ti.d <;> rw [hd] at h4 <;> cases d' <;> first
        | exact h4.elim
        | exact (hni _ hd).elim
        | (simp only; exact key .bool (by simp))
  · cases e
end
end Go.Ev
/- The operations that change nothing: two operands. -/
namespace Go.Ev
section
variable {P : Program} {K : Ctx} {ι : Nm} {h : AH} {w : World} {E : Env}

theorem asInt_some {x : AV} {k : IntKind} {n : Int} (e : asInt x = some (k, n)) : x = .int k n := by
  unfold asInt at e; split at e
  · cases e; rfl
  · cases e
theorem asStr_some {x : AV} {s : List UInt8} (e : asStr x = some s) : x = .str s := by
  unfold asStr at e; split at e
  · cases e; rfl
  · cases e

theorem ikEq_true {k k' : IntKind} (e : ikEq k k' = true) : k = k' := by
  revert e; cases k <;> cases k' <;> decide

theorem SRun_eqGuard_other {op : BinOp} (ho : op ≠ .eql ∧ op ≠ .neq) {t : TypeId} {o1 o2 : Operand} {v u : Value} : SRun P (eqGuard op t o1 o2 v u) w () w [] := by
  unfold eqGuard
  cases op <;> first | exact absurd rfl ho.1 | exact absurd rfl ho.2 | exact SRun.pure _

theorem SRun_eqGuard_int {op : BinOp} {t : TypeId} {o1 o2 : Operand} {k k' : IntKind} {a b : Int} : SRun P (eqGuard op t o1 o2 (.int k a) (.int k' b)) w () w [] := by
  unfold eqGuard
  cases op <;> exact SRun.pure _
theorem SRun_eqGuard_str {op : BinOp} {t : TypeId} {o1 o2 : Operand} {a b : ByteArray} : SRun P (eqGuard op t o1 o2 (.string a) (.string b)) w () w [] := by
  unfold eqGuard
  cases op <;> exact SRun.pure _

theorem intOp_ok {op : BinOp} {t : TypeId} {k : IntKind} {x y : Int} {a : AV} (hs : op ≠ .shl ∧ op ≠ .shr) (e : intOp op k x y = some a) : QOk P K ι w (binOp op t (.int k x) (.int k y)) a := by
  cases op <;> first
    | exact absurd rfl hs.1
    | exact absurd rfl hs.2
    | (simp only [intOp, Option.some.injEq] at e
       subst e
       simp only [binOp, ne_eq, not_true_eq_false, if_false]
       first
         | exact QOk.pure RV_int
         | exact QOk.pure RV_bool)
    | (simp only [intOp] at e
       obtain ⟨hb, e⟩ := cond_none_some e
       cases e
       have hb : ¬ y = 0 := by simpa using hb
       simp only [binOp, ne_eq, not_true_eq_false, if_false, Op.intDiv, if_neg hb]
       exact QOk.pure RV_int)

theorem intBin_ok {op : BinOp} {t : TypeId} {k k' : IntKind} {x y : Int} {a : AV} (e : intBin op k x k' y = some a) : QOk P K ι w (binOp op t (.int k x) (.int k' y)) a := by
  by_cases h1 : op = .shl
  · subst h1
    simp only [intBin] at e
    obtain ⟨hb, e⟩ := cond_none_some e
    cases e
    have hb : ¬ y < 0 := by simpa using hb
    simp only [binOp, Op.shift, if_neg hb]
    exact QOk.pure RV_int
  · by_cases h2 : op = .shr
    · subst h2
      simp only [intBin] at e
      obtain ⟨hb, e⟩ := cond_none_some e
      cases e
      have hb : ¬ y < 0 := by simpa using hb
      simp only [binOp, Op.shift, if_neg hb]
      exact QOk.pure RV_int
    · have e' : cond (ikEq k k') (intOp op k x y) none = some a := by
        cases op <;> first | exact absurd rfl h1 | exact absurd rfl h2 | exact e
      obtain ⟨hk, e2⟩ := condO_some e'
      obtain rfl := ikEq_true hk
      exact intOp_ok ⟨h1, h2⟩ e2

theorem strBin_ok {op : BinOp} {t : TypeId} {x y : List UInt8} {a : AV} (e : strBin op x y = some a) : QOk P K ι w (binOp op t (.string ⟨x.toArray⟩) (.string ⟨y.toArray⟩)) a := by
  have hl : ∀ z : List UInt8, (⟨z.toArray⟩ : ByteArray).toList = z := toList_mk
  cases op <;> simp only [strBin] at e <;> first
    | (cases e; done)
    | (simp only [Option.some.injEq] at e
       subst e
       simp only [binOp, Op.stringOp, hl]
       exact QOk.pure RV_bool)
    | (obtain ⟨hb, rfl⟩ := cond_some e
       have hb := of_decide_eq_true hb
       have : ¬ (((⟨x.toArray⟩ : ByteArray).size + (⟨y.toArray⟩ : ByteArray).size : Nat) : Int) > IntKind.i64.max := by
         rw [size_mk, size_mk]
         have hm : IntKind.i64.max = 9223372036854775807 := by decide
         rw [hm]; omega
       simp only [binOp, Op.stringOp, if_neg this]
       have h2 : (⟨x.toArray⟩ : ByteArray) ++ ⟨y.toArray⟩ = ⟨(x ++ y).toArray⟩ := by
         apply ByteArray.ext
         simp
       rw [h2]
       exact QOk.pure RV_str)

theorem SRun_sameAddr_same (b o o' : Nat) : SRun P (sameAddr ⟨b, o, none⟩ ⟨b, o', none⟩) w (Nat.beq o o') w [] := by
  unfold sameAddr
  have : ((⟨b, o, none⟩ : Addr) == ⟨b, o', none⟩) = Nat.beq o o' := by
    by_cases h : o = o'
    · subst h; simp
    · have h1 : Nat.beq o o' = false := by cases hc : Nat.beq o o' with | false => rfl | true => exact absurd (Nat.eq_of_beq_eq_true hc) h
      rw [h1]; simp [h]
  simp only [beq_self_eq_true, if_true]
  rw [this]
  exact SRun.pure _

def plainV : Value → Bool
  | .int _ _ | .float _ _ | .complex _ _ _ | .string _ => false
  | _ => true
theorem binOp_eql {t : TypeId} {v u : Value} (hp : plainV v = true) : binOp .eql t v u = (do pure (.bool (← Op.equal t v u))) := by
  cases v <;> first
    | exact absurd hp Bool.false_ne_true
    | (cases u <;> rfl)
theorem binOp_neq {t : TypeId} {v u : Value} (hp : plainV v = true) : binOp .neq t v u = (do pure (.bool (!(← Op.equal t v u)))) := by
  cases v <;> first
    | exact absurd hp Bool.false_ne_true
    | (cases u <;> rfl)

/-- Equality of two values, with the look ahead that the operation takes. -/
theorem eqlOp_ok (F : Fits P E) {op : BinOp} (ho : op = .eql ∨ op = .neq) {t : TypeId} {x y : AV} {v u : Value} {b : Bool} (e : eqlOp E t x y = some b) (hv : RV ι x v) (hu : RV ι y u) (o1 o2 : Operand) :
    SRun P (eqGuard op t o1 o2 v u) w () w [] ∧ SRun P (Op.equal t v u) w b w [] ∧ plainV v = true := by
  have hg : ∀ v u : Value, (v ≠ .nilIface ∨ u ≠ .nilIface) → ((∀ c, v ≠ .agg c) ∨ (∀ c, u ≠ .agg c)) → SRun P (eqGuard op t o1 o2 v u) w () w [] := by
    intro v u h1 h2
    unfold eqGuard
    rcases ho with rfl | rfl <;> cases v <;> cases u <;> first
      | exact SRun.pure _
      | (exfalso; rcases h1 with h | h <;> exact h rfl)
      | (exfalso; rcases h2 with h | h <;> exact h _ rfl)
  have he : ∀ d, P.underlying t = some d → ∀ r : Bool, SRun P (Op.equalIn 10000 t v u) w r w [] → SRun P (Op.equal t v u) w r w [] := fun _ _ _ h => h
  unfold eqlOp at e
  split at e
  · -- bool
    rename_i hd
    split at e
    · obtain rfl := bool_inv hv; obtain rfl := bool_inv hu; cases e
      refine ⟨hg _ _ (by simp) (by simp), ?_, rfl⟩
      unfold Op.equal Op.maxDepth Op.equalIn
      exact SRun.bind0 (SRun.underlying (desc_bool F hd)) (SRun.pure _)
    · cases e
  · -- pointer
    rename_i el hd
    have ht := desc_ptr F hd
    split at e
    · unfold RV at hv hu; subst hv; subst hu; cases e
      refine ⟨hg _ _ (by simp) (by simp), ?_, rfl⟩
      unfold Op.equal Op.maxDepth Op.equalIn
      exact SRun.bind0 (SRun.underlying ht) (SRun.pure _)
    · unfold RV at hv; subst hv; obtain ⟨p, _, rfl⟩ := ptr_inv hu; cases e
      refine ⟨hg _ _ (by simp) (by simp), ?_, rfl⟩
      unfold Op.equal Op.maxDepth Op.equalIn
      exact SRun.bind0 (SRun.underlying ht) (SRun.pure _)
    · unfold RV at hu; subst hu; obtain ⟨p, _, rfl⟩ := ptr_inv hv; cases e
      refine ⟨hg _ _ (by simp) (by simp), ?_, rfl⟩
      unfold Op.equal Op.maxDepth Op.equalIn
      exact SRun.bind0 (SRun.underlying ht) (SRun.pure _)
    · rename_i i a' j b'
      obtain ⟨p, hp, rfl⟩ := ptr_inv hv
      obtain ⟨q, hq, rfl⟩ := ptr_inv hu
      obtain ⟨hb, rfl⟩ := cond_some e
      rw [Bool.and_eq_true] at hb
      obtain ⟨h1, h2⟩ := hb
      obtain rfl := Nat.eq_of_beq_eq_true h1
      obtain rfl : p = q := by rw [hp] at hq; exact Option.some.inj hq
      split at h2
      · rename_i ti hti
        have hne : ¬ ti.size = 0 := fun h0 => by rw [h0] at h2; simp at h2
        refine ⟨hg _ _ (by simp) (by simp), ?_, rfl⟩
        unfold Op.equal Op.maxDepth Op.equalIn
        refine SRun.bind0 (SRun.underlying ht) ?_
        refine SRun.bind0 (SRun_sizeOf (tt_of F hti)) ?_
        rw [if_pos hne]
        exact SRun_sameAddr_same _ _ _
      · cases h2
    · cases e
  · -- slice
    rename_i el hd
    have ht := desc_slice F hd
    split at e
    · unfold RV at hv hu; subst hv; subst hu; cases e
      refine ⟨hg _ _ (by simp) (by simp), ?_, rfl⟩
      unfold Op.equal Op.maxDepth Op.equalIn
      exact SRun.bind0 (SRun.underlying ht) (SRun.pure _)
    · unfold RV at hv; subst hv; obtain ⟨p, _, c, rfl, _⟩ := sl_inv hu; cases e
      refine ⟨hg _ _ (by simp) (by simp), ?_, rfl⟩
      unfold Op.equal Op.maxDepth Op.equalIn
      exact SRun.bind0 (SRun.underlying ht) (SRun.pure _)
    · unfold RV at hu; subst hu; obtain ⟨p, _, c, rfl, _⟩ := sl_inv hv; cases e
      refine ⟨hg _ _ (by simp) (by simp), ?_, rfl⟩
      unfold Op.equal Op.maxDepth Op.equalIn
      exact SRun.bind0 (SRun.underlying ht) (SRun.pure _)
    · cases e
  · -- map
    rename_i kt el hd
    have ht := (desc_map F hd).1
    split at e
    · unfold RV at hv hu; subst hv; subst hu; cases e
      refine ⟨hg _ _ (by simp) (by simp), ?_, rfl⟩
      unfold Op.equal Op.maxDepth Op.equalIn
      exact SRun.bind0 (SRun.underlying ht) (SRun.pure _)
    · unfold RV at hv; subst hv; obtain ⟨p, _, rfl⟩ := map_inv hu; cases e
      refine ⟨hg _ _ (by simp) (by simp), ?_, rfl⟩
      unfold Op.equal Op.maxDepth Op.equalIn
      exact SRun.bind0 (SRun.underlying ht) (SRun.pure _)
    · unfold RV at hu; subst hu; obtain ⟨p, _, rfl⟩ := map_inv hv; cases e
      refine ⟨hg _ _ (by simp) (by simp), ?_, rfl⟩
      unfold Op.equal Op.maxDepth Op.equalIn
      exact SRun.bind0 (SRun.underlying ht) (SRun.pure _)
    · cases e
  · -- function
    rename_i hd
    obtain ⟨d1, d2, d3, ht⟩ := desc_func F hd
    split at e
    · unfold RV at hv hu; subst hv; subst hu; cases e
      refine ⟨hg _ _ (by simp) (by simp), ?_, rfl⟩
      unfold Op.equal Op.maxDepth Op.equalIn
      exact SRun.bind0 (SRun.underlying ht) (SRun.pure _)
    · unfold RV at hv; subst hv; obtain ⟨as, bs, rfl, _⟩ := fn_inv hu; cases e
      refine ⟨hg _ _ (by simp) (by simp), ?_, rfl⟩
      unfold Op.equal Op.maxDepth Op.equalIn
      exact SRun.bind0 (SRun.underlying ht) (SRun.pure _)
    · unfold RV at hu; subst hu; obtain ⟨as, bs, rfl, _⟩ := fn_inv hv; cases e
      refine ⟨hg _ _ (by simp) (by simp), ?_, rfl⟩
      unfold Op.equal Op.maxDepth Op.equalIn
      exact SRun.bind0 (SRun.underlying ht) (SRun.pure _)
    · cases e
  · -- interface
    rename_i em hd
    obtain ⟨ms, ht⟩ := desc_iface F hd
    split at e
    · unfold RV at hv; subst hv; obtain ⟨x', rfl, _⟩ := iface_inv hu; cases e
      refine ⟨hg _ _ (by simp) (by simp), ?_, rfl⟩
      unfold Op.equal Op.maxDepth Op.equalIn
      exact SRun.bind0 (SRun.underlying ht) (SRun.pure _)
    · unfold RV at hu; subst hu; obtain ⟨x', rfl, _⟩ := iface_inv hv; cases e
      refine ⟨hg _ _ (by simp) (by simp), ?_, rfl⟩
      unfold Op.equal Op.maxDepth Op.equalIn
      exact SRun.bind0 (SRun.underlying ht) (SRun.pure _)
    · cases e
  · -- struct
    rename_i fs hd
    split at e
    · rename_i l m
      obtain ⟨hb, e⟩ := condO_some e
      obtain ⟨cs, rfl, hl⟩ := agg_inv hv
      obtain ⟨ds, rfl, hm⟩ := agg_inv hu
      obtain ⟨gs, _, hf0⟩ := F.flatOk hb
      have hf := (hf0 cs ι w hl).2 ds m b hm e o1 o2 op ho
      exact ⟨hf.1, hf.2, rfl⟩
    · cases e
  · -- array
    rename_i n el hd
    split at e
    · rename_i l m
      obtain ⟨hb, e⟩ := condO_some e
      obtain ⟨cs, rfl, hl⟩ := agg_inv hv
      obtain ⟨ds, rfl, hm⟩ := agg_inv hu
      obtain ⟨gs, _, hf0⟩ := F.flatOk hb
      have hf := (hf0 cs ι w hl).2 ds m b hm e o1 o2 op ho
      exact ⟨hf.1, hf.2, rfl⟩
    · cases e
  · cases e

theorem binA_ok (F : Fits P E) {op : BinOp} {t : TypeId} {x y a : AV} {v u : Value} (e : binA E op t x y = some a) (hv : RV ι x v) (hu : RV ι y u) (o1 o2 : Operand) :
    QOk P K ι w (do eqGuard op t o1 o2 v u; binOp op t v u) a := by
  unfold binA at e
  cases hx : asInt x with
  | some p =>
    obtain ⟨k, n⟩ := p
    simp only [hx] at e
    cases hy : asInt y with
    | none => rw [hy] at e; cases e
    | some q =>
      obtain ⟨k', m⟩ := q
      simp only [hy] at e
      obtain rfl := asInt_some hx
      obtain rfl := asInt_some hy
      obtain rfl := int_inv hv
      obtain rfl := int_inv hu
      exact QOk.bind0 SRun_eqGuard_int (intBin_ok e)
  | none =>
    simp only [hx] at e
    cases hx' : asStr x with
    | some s =>
      simp only [hx'] at e
      cases hy : asStr y with
      | none => rw [hy] at e; cases e
      | some s' =>
        simp only [hy] at e
        obtain rfl := asStr_some hx'
        obtain rfl := asStr_some hy
        obtain rfl := str_inv hv
        obtain rfl := str_inv hu
        exact QOk.bind0 SRun_eqGuard_str (strBin_ok e)
    | none =>
      simp only [hx'] at e
      unfold eqBin at e
      -- the values are neither two integers nor two strings
      split at e
      · cases hq : eqlOp E t x y with
        | none => rw [hq] at e; cases e
        | some b =>
          rw [hq] at e; cases e
          obtain ⟨h1, h2, h3⟩ := eqlOp_ok (w := w) F (.inl rfl) hq hv hu o1 o2
          refine QOk.bind0 h1 ?_
          rw [binOp_eql h3]
          exact QOk.bind0 h2 (QOk.pure RV_bool)
      · cases hq : eqlOp E t x y with
        | none => rw [hq] at e; cases e
        | some b =>
          rw [hq] at e; cases e
          obtain ⟨h1, h2, h3⟩ := eqlOp_ok (w := w) F (.inr rfl) hq hv hu o1 o2
          refine QOk.bind0 h1 ?_
          rw [binOp_neq h3]
          exact QOk.bind0 h2 (QOk.pure RV_bool)
      · cases e
end
end Go.Ev
/- The operations that change nothing: conversions, lengths, slices, parts, maps. -/
namespace Go.Ev
section
variable {P : Program} {K : Ctx} {ι : Nm} {h : AH} {w : World} {E : Env}

theorem QOk.keep (hP : K.P = P) {s : Sem Value} {a : AV} (h : QOk P K ι w s a) : QOk P K ι w s a := h

theorem SRun.getObjE {r : Nat} {o : Obj} (hg : w.heap[r]? = some o) (hc : ∀ c e f, o ≠ .cells c e f) (hs : o.isChan = false) (h1 : K.base ≤ r) (h2 : K.own r) :
    SRun P (Go.getObj r) w o w [⟨.obj r, false, false⟩] ∧ ∀ e ∈ [(⟨.obj r, false, false⟩ : Event)], EvF K w.heap.size e := by
  have h3 : r < w.heap.size := by rw [Array.getElem?_eq_some_iff] at hg; exact hg.1
  refine ⟨by have := SRun.getObj (P := P) hg hc; rw [hs] at this; exact this, fun e he => ?_⟩
  simp at he; subst he
  exact ⟨h1, h2, h3, rfl⟩

theorem convQ_ok (F : Fits P E) {s d : TypeId} {x a : AV} {v : Value} (e : convQ E s d x = some a) (hv : RV ι x v) : QOk P K ι w (convert s d v) a := by
  unfold convQ at e
  split at e
  · rename_i sd k k' n hs hd
    cases e
    obtain rfl := int_inv hv
    obtain ⟨ti, _, _, H⟩ := d_of F hs
    obtain ⟨d', h3, _⟩ := H.desc
    unfold convert
    refine QOk.bind0 (SRun.underlying h3) ?_
    refine QOk.bind0 (SRun.underlying (desc_int F hd)) ?_
    exact QOk.pure RV_int
  · rename_i s' hs hd
    cases e
    obtain rfl := str_inv hv
    unfold convert
    refine QOk.bind0 (SRun.underlying (desc_str F hs)) ?_
    refine QOk.bind0 (SRun.underlying (desc_str F hd)) ?_
    exact QOk.pure RV_str
  · cases e

theorem REs.length {l : List AE} {es : List MapEntry} (hr : REs ι l es) : l.length = es.length := by
  induction l generalizing es with
  | nil => rw [show es = [] from hr]; rfl
  | cons a l ih => obtain ⟨e, r, rfl, _, _, _, h4⟩ := hr; simp [ih h4]

theorem lenA_ok (hP : K.P = P) (F : Fits P E) (S : Sat K ι h w) {t ty : TypeId} {x a : AV} {v : Value} (e : lenA E h t x = some a) (hv : RV ι x v) : QOk P K ι w (Builtin.len_ #[t] ty #[v]) a := by
  unfold lenA at e
  unfold Builtin.len_
  split at e
  · rename_i s hd
    cases e
    obtain rfl := str_inv hv
    refine QOk.bind0 (SRun.underlying (desc_str F hd)) ?_
    have : (s.length : Int) = ((⟨s.toArray⟩ : ByteArray).size : Int) := by rw [size_mk]
    unfold int64; rw [this]
    exact QOk.pure RV_int
  · rename_i n e' hd
    cases e
    refine QOk.bind0 (SRun.underlying (desc_array F hd)) ?_
    exact QOk.pure RV_int
  · rename_i el hd
    cases e
    unfold RV at hv; subst hv
    refine QOk.bind0 (SRun.underlying (desc_slice F hd)) ?_
    exact QOk.pure RV_int
  · rename_i el hd
    cases e
    unfold RV at hv; obtain ⟨b, c, rfl⟩ := hv
    refine QOk.bind0 (SRun.underlying (desc_slice F hd)) ?_
    exact QOk.pure RV_int
  · rename_i el id off n cap hd
    cases e
    obtain ⟨p, _, c, rfl, _⟩ := sl_inv hv
    refine QOk.bind0 (SRun.underlying (desc_slice F hd)) ?_
    exact QOk.pure RV_int
  · rename_i kt el hd
    cases e
    unfold RV at hv; subst hv
    refine QOk.bind0 (SRun.underlying (desc_map F hd).1) ?_
    exact QOk.pure RV_int
  · rename_i kt el id hd
    split at e
    · rename_i es ck ho
      cases e
      obtain ⟨p, hp, rfl⟩ := map_inv hv
      obtain ⟨q, ob, hq, b1, b2, b3, hb, es', rfl, hr⟩ := S.at ho trivial
      obtain rfl : p = q := by rw [hp] at hq; exact Option.some.inj hq
      obtain ⟨g1, g2⟩ := SRun.getObjE (P := P) (K := K) hb (by simp) rfl b1 b2
      refine QOk.bind0 (SRun.underlying (desc_map F hd).1) ?_
      refine QOk.bindE g1 g2 ?_
      have : (es.length : Int) = (es'.size : Int) := by rw [hr.length]; simp
      unfold int64; rw [this]
      exact QOk.pure RV_int
    · cases e
  · cases e

theorem nilCheckA_ok {x a : AV} {v : Value} (e : nilCheckA x = some a) (hv : RV ι x v) {o : Oper} {y : Operand} {ρ : Operand → Value} (hρ : ρ y = v) (ho : o.op = .nilCheck y) :
    ∃ es, SRun P (execOp ρ o) w (.value v) w es ∧ RV ι a v ∧ es = [] := by
  unfold nilCheckA at e
  unfold execOp
  simp only [ho, hρ]
  split at e
  · cases e
    obtain ⟨p, hp, rfl⟩ := ptr_inv hv
    exact ⟨[], SRun.pure _, RV_ptr hp, rfl⟩
  · cases e
    have hv' := hv
    obtain ⟨as, bs, rfl, _⟩ := fn_inv hv
    exact ⟨[], SRun.pure _, hv', rfl⟩
  · cases e
    have hv' := hv
    obtain ⟨x', rfl, _⟩ := iface_inv hv
    exact ⟨[], SRun.pure _, hv', rfl⟩
  · cases e
    have hv' := hv
    unfold RV at hv; obtain ⟨p, _, rfl⟩ := hv
    exact ⟨[], SRun.pure _, hv', rfl⟩
  · cases e

/-! ### slices -/
theorem bound_ok {lo hi : Nat} {x : AV} {k : Nat} {v : Value} {c : BoundsCode} (e : boundOk lo hi x = some k) (hv : RV ι x v) : SRun P (Instr.sliceBound v hi c) w k w [] ∧ k ≤ hi ∧ lo ≤ k := by
  unfold boundOk at e
  split at e
  · rename_i kd i
    obtain ⟨hb, rfl⟩ := cond_some e
    have hb := of_decide_eq_true hb
    obtain rfl := int_inv hv
    refine ⟨?_, by omega, by omega⟩
    unfold Instr.sliceBound
    refine SRun.bind0 (a := (kd, i)) (SRun.pure _) ?_
    have h2 : 0 ≤ i ∧ i ≤ (hi : Int) := by omega
    simp only [if_pos h2]
    exact SRun.pure _
  · cases e

/-- What stands for an optional operand. -/
def RVo (ι : Nm) : Option AV → Option Value → Prop
  | none, v => v = none
  | some a, v => ∃ u, v = some u ∧ RV ι a u

theorem bound_ok' {lo hi y : Nat} {x : AV} {k : Nat} {v : Value} {c : BoundsCode} (hy : hi ≤ y) (e : boundOk lo hi x = some k) (hv : RV ι x v) : SRun P (Instr.sliceBound v y c) w k w [] ∧ k ≤ hi := by
  unfold boundOk at e
  split at e
  · rename_i kd i
    obtain ⟨hb, rfl⟩ := cond_some e
    have hb := of_decide_eq_true hb
    obtain rfl := int_inv hv
    refine ⟨?_, by omega⟩
    unfold Instr.sliceBound
    refine SRun.bind0 (a := (kd, i)) (SRun.pure _) ?_
    have h2 : 0 ≤ i ∧ i ≤ (y : Int) := by omega
    simp only [if_pos h2]
    exact SRun.pure _
  · cases e

theorem lo_ok {lo : Option AV} {vlo : Option Value} {h l : Nat} {c : BoundsCode} (e : bndA lo h 0 = some l) (hv : RVo ι lo vlo) :
    SRun P (match vlo with | some v => Instr.sliceBound v h c | none => pure 0) w l w [] ∧ l ≤ h := by
  cases lo with
  | none => obtain rfl : vlo = none := hv; cases e; exact ⟨SRun.pure _, Nat.zero_le _⟩
  | some x =>
    obtain ⟨u, rfl, hu⟩ := hv
    obtain ⟨h1, h2, _⟩ := bound_ok (P := P) (w := w) (c := c) e hu
    exact ⟨h1, h2⟩

def mxOk (cap m : Nat) (mx : Option AV) : Prop := match mx with | some x => ∃ M, boundOk 0 M x = some m ∧ M ≤ cap | none => m = cap

theorem bounds_ok {isS : Bool} {len cap : Nat} {lo hi mx : Option AV} {vlo vhi vmx : Option Value} {m h l H : Nat} (rlo : RVo ι lo vlo) (rhi : RVo ι hi vhi) (rmx : RVo ι mx vmx)
    (hm : mxOk cap m mx) (hh : hiA hi H len mx.isSome = some h) (hH : H ≤ m) (hl : bndA lo h 0 = some l) :
    SRun P (Instr.sliceBounds isS len cap vlo vhi vmx) w (l, h, m) w [] ∧ l ≤ h ∧ (h ≤ H ∨ h = len) := by
  have hlo := fun c => lo_ok (P := P) (w := w) (c := c) hl rlo
  have hhH : h ≤ H ∨ h = len := by
    cases hi with
    | none => simp only [hiA] at hh; obtain ⟨_, hh⟩ := cond_none_some hh; cases hh; exact .inr rfl
    | some x =>
      unfold hiA boundOk at hh
      simp only at hh
      split at hh
      · obtain ⟨hb, rfl⟩ := cond_some hh
        have hb := of_decide_eq_true hb
        exact .inl (by omega)
      · cases hh
  refine ⟨?_, (hlo .sliceB).2, hhH⟩
  have third : ∀ c, SRun P (match vlo with | some v => Instr.sliceBound v h c | none => pure 0) w l w [] := fun c => (hlo c).1
  cases mx with
  | none =>
    obtain rfl : vmx = none := rmx
    obtain rfl : m = cap := hm
    cases hi with
    | none =>
      obtain rfl : vhi = none := rhi
      cases hh
      cases vlo with
      | none => exact SRun.bind0 (SRun.pure _) (SRun.bind0 (SRun.pure _) (SRun.bind0 (third .sliceB) (SRun.pure _)))
      | some z => exact SRun.bind0 (SRun.pure _) (SRun.bind0 (SRun.pure _) (SRun.bind0 (third .sliceB) (SRun.pure _)))
    | some x =>
      obtain ⟨u, rfl, hu⟩ := rhi
      cases vlo with
      | none => exact SRun.bind0 (SRun.pure _) (SRun.bind0 (bound_ok' hH hh hu).1 (SRun.bind0 (third .sliceB) (SRun.pure _)))
      | some z => exact SRun.bind0 (SRun.pure _) (SRun.bind0 (bound_ok' hH hh hu).1 (SRun.bind0 (third .sliceB) (SRun.pure _)))
  | some y =>
    obtain ⟨z', rfl, hz⟩ := rmx
    obtain ⟨M, h1, h2⟩ := hm
    cases hi with
    | none => cases hh
    | some x =>
      obtain ⟨u, rfl, hu⟩ := rhi
      cases vlo with
      | none => exact SRun.bind0 (bound_ok' h2 h1 hz).1 (SRun.bind0 (bound_ok' hH hh hu).1 (SRun.bind0 (third .slice3C) (SRun.pure _)))
      | some z => exact SRun.bind0 (bound_ok' h2 h1 hz).1 (SRun.bind0 (bound_ok' hH hh hu).1 (SRun.bind0 (third .slice3C) (SRun.pure _)))

theorem extract_mk (s : List UInt8) (l h : Nat) : (⟨s.toArray⟩ : ByteArray).extract l h = ⟨((s.take h).drop l).toArray⟩ := by
  apply ByteArray.ext
  simp [List.extract_eq_take_drop, List.drop_take]

theorem slice_place {p : Nat × Nat} {off l m size : Nat} : (if m = l then (⟨p.1, off, none⟩ : Addr) else (⟨p.1, off, none⟩ : Addr).add (l * size)) = ⟨p.1, cond (Nat.beq m l) off (off + l * size), none⟩ := by
  by_cases h : m = l
  · subst h; simp
  · have : Nat.beq m l = false := by cases hc : Nat.beq m l with | false => rfl | true => exact absurd (Nat.eq_of_beq_eq_true hc) h
    rw [if_neg h, this, add_none]; rfl

theorem sliceK_ok {id off size len cap m : Nat} {lo hi mx : Option AV} {vlo vhi vmx : Option Value} {a : AV} {p : Nat × Nat} (hp : ι id = some p) {isS : Bool}
    (e : sliceK id off size len m lo hi mx.isSome = some a) (hm : mxOk cap m mx) (hmc : len ≤ m ∨ mx.isSome = true) (rlo : RVo ι lo vlo) (rhi : RVo ι hi vhi) (rmx : RVo ι mx vmx) :
    ∃ l h, SRun P (Instr.sliceBounds isS len cap vlo vhi vmx) w (l, h, m) w [] ∧ RV ι a (.slice (some (if m = l then (⟨p.1, off, none⟩ : Addr) else (⟨p.1, off, none⟩ : Addr).add (l * size))) (h - l) (m - l)) := by
  unfold sliceK at e
  split at e
  · cases e
  · rename_i h hh
    split at e
    · cases e
    · rename_i l hl
      cases e
      obtain ⟨h1, h2, h3⟩ := bounds_ok (P := P) (w := w) (isS := isS) (cap := cap) rlo rhi rmx hm hh (Nat.le_refl _) hl
      refine ⟨l, h, h1, ?_⟩
      rw [slice_place]
      unfold RV
      refine ⟨p, hp, m - l, rfl, ?_, fun k hk => (Option.some.inj hk), fun hk => (by cases hk)⟩
      have : h ≤ m := by
        rcases h3 with h3 | h3
        · exact h3
        · rcases hmc with h4 | h4
          · omega
          · cases hi with
            | none => rw [h4] at hh; cases hh
            | some x =>
              unfold hiA boundOk at hh
              simp only at hh
              split at hh
              · obtain ⟨hb, rfl⟩ := cond_some hh
                have hb := of_decide_eq_true hb
                omega
              · cases hh
      omega

theorem sliceA_ok (F : Fits P E) {t : TypeId} {x a : AV} {lo hi mx : Option AV} {v : Value} {vlo vhi vmx : Option Value} (e : sliceA E t x lo hi mx = some a) (hv : RV ι x v)
    (rlo : RVo ι lo vlo) (rhi : RVo ι hi vhi) (rmx : RVo ι mx vmx) : QOk P K ι w (Instr.sliceAt t v vlo vhi vmx) a := by
  unfold sliceA at e
  unfold Instr.sliceAt
  have nomx : mx.isSome = false → mx = none ∧ vmx = none := by
    intro h; cases mx with
    | none => exact ⟨rfl, rmx⟩
    | some _ => cases h
  split at e
  · -- a string
    rename_i s hd
    obtain rfl := str_inv hv
    obtain ⟨hm, e⟩ := cond_none_some e
    obtain ⟨rfl, rfl⟩ := nomx hm
    unfold sliceStr at e
    split at e
    · cases e
    · rename_i h hh
      split at e
      · cases e
      · rename_i l hl
        cases e
        refine QOk.bind0 (SRun.underlying (desc_str F hd)) ?_
        simp only
        unfold Instr.slice
        refine QOk.bind0 (SRun.underlying (desc_str F hd)) ?_
        simp only [Option.isSome_none, Bool.false_eq_true, if_false]
        rw [size_mk]
        refine QOk.bind0 (bounds_ok (isS := false) (len := s.length) (cap := s.length) (m := s.length) (h := h) (l := l) (H := s.length) rlo rhi (show RVo ι none none from rfl) rfl hh (Nat.le_refl _) hl).1 ?_
        simp only [extract_mk]
        exact QOk.pure RV_str
  · -- nil
    rename_i el hd
    unfold RV at hv; subst hv
    split at e
    · rename_i ei m h l hel hm hh hl
      cases e
      have h0 : h = 0 := by
        cases hi with
        | none => simp only [hiA] at hh; obtain ⟨_, hh⟩ := cond_none_some hh; cases hh; rfl
        | some x =>
          unfold hiA boundOk at hh
          simp only at hh
          split at hh
          · obtain ⟨hb, rfl⟩ := cond_some hh
            have hb := of_decide_eq_true hb
            omega
          · cases hh
      subst h0
      have m0 : m = 0 := by
        cases mx with
        | none => cases hm; rfl
        | some x =>
          unfold bndA boundOk at hm
          simp only at hm
          split at hm
          · obtain ⟨hb, rfl⟩ := cond_some hm
            have hb := of_decide_eq_true hb
            omega
          · cases hm
      subst m0
      have hmx : mxOk 0 0 mx := by
        cases mx with
        | none => rfl
        | some x => exact ⟨0, hm, Nat.le_refl _⟩
      obtain ⟨h1, h2, _⟩ := bounds_ok (P := P) (w := w) (isS := true) (len := 0) (cap := 0) (m := 0) (h := 0) (l := l) (H := 0) rlo rhi rmx hmx hh (Nat.le_refl _) hl
      obtain rfl : l = 0 := by omega
      refine QOk.bind0 (SRun.underlying (desc_slice F hd)) ?_
      simp only
      unfold Instr.slice
      refine QOk.bind0 (SRun.underlying (desc_slice F hd)) ?_
      refine QOk.bind0 h1 ?_
      refine QOk.bind0 (SRun_sizeOf (tt_of F hel)) ?_
      exact QOk.pure (by unfold RV; rfl)
    · cases e
  · -- an array
    rename_i n el id off hd
    obtain ⟨p, hp, rfl⟩ := ptr_inv hv
    split at e
    · rename_i ei m he hm
      refine QOk.bind0 (SRun.underlying (desc_array F hd)) ?_
      refine QOk.bind0 (x := (⟨p.1, off, none⟩ : Addr)) (SRun.pure _) ?_
      have hmx : mxOk n m mx := by
        cases mx with
        | none => cases hm; rfl
        | some x => exact ⟨n, hm, Nat.le_refl _⟩
      obtain ⟨l, h, h1, h2⟩ := sliceK_ok (P := P) (w := w) (isS := false) hp e hmx (by cases mx with | none => cases hm; exact .inl (Nat.le_refl _) | some _ => exact .inr rfl) rlo rhi rmx
      refine QOk.bind0 h1 ?_
      refine QOk.bind0 (SRun_sizeOf (tt_of F he)) ?_
      exact QOk.pure h2
    · cases e
  · -- a slice of known capacity
    rename_i el id off len c hd
    obtain ⟨p, hp, cap, rfl, hle, hc, _⟩ := sl_inv hv
    obtain rfl := hc c rfl
    split at e
    · rename_i ei m he hm
      refine QOk.bind0 (SRun.underlying (desc_slice F hd)) ?_
      simp only
      unfold Instr.slice
      refine QOk.bind0 (SRun.underlying (desc_slice F hd)) ?_
      have hmx : mxOk cap m mx := by
        cases mx with
        | none => cases hm; rfl
        | some x => exact ⟨cap, hm, Nat.le_refl _⟩
      obtain ⟨l, h, h1, h2⟩ := sliceK_ok (P := P) (w := w) (isS := true) hp e hmx (by cases mx with | none => cases hm; exact .inl hle | some _ => exact .inr rfl) rlo rhi rmx
      refine QOk.bind0 h1 ?_
      refine QOk.bind0 (SRun_sizeOf (tt_of F he)) ?_
      have : (if m = l then some (⟨p.1, off, none⟩ : Addr) else (some (⟨p.1, off, none⟩ : Addr)).map (·.add (l * ei.size))) = some (if m = l then (⟨p.1, off, none⟩ : Addr) else (⟨p.1, off, none⟩ : Addr).add (l * ei.size)) := by
        split <;> rfl
      simp only [this]
      exact QOk.pure h2
    · cases e
  · -- a slice that may have grown
    rename_i el id off len hd
    obtain ⟨p, hp, cap, rfl, hle, _, hg⟩ := sl_inv hv
    split at e
    · rename_i ei he
      unfold sliceU at e
      split at e
      · cases e
      · rename_i h hh
        split at e
        · cases e
        · rename_i l hl
          obtain rfl : vmx = none := rmx
          obtain ⟨h1, h2, h3⟩ := bounds_ok (P := P) (w := w) (isS := true) (len := len) (cap := cap) (m := cap) (mx := none) rlo rhi (show RVo ι none none from rfl) rfl hh hle hl
          have h4 : h ≤ len := by omega
          refine QOk.bind0 (SRun.underlying (desc_slice F hd)) ?_
          simp only
          unfold Instr.slice
          refine QOk.bind0 (SRun.underlying (desc_slice F hd)) ?_
          refine QOk.bind0 h1 ?_
          refine QOk.bind0 (SRun_sizeOf (tt_of F he)) ?_
          cases hb : Nat.beq l 0 with
          | true =>
            rw [hb, cond_true] at e; cases e
            obtain rfl := Nat.eq_of_beq_eq_true hb
            have : (if cap = 0 then some (⟨p.1, off, none⟩ : Addr) else (some (⟨p.1, off, none⟩ : Addr)).map (·.add (0 * ei.size))) = some ⟨p.1, off, none⟩ := by
              split
              · rfl
              · simp [add_none]
            simp only [this]
            refine QOk.pure ?_
            unfold RV
            exact ⟨p, hp, cap, rfl, by omega, fun k hk => (by cases hk), hg⟩
          | false =>
            rw [hb, cond_false] at e
            have hl0 : l ≠ 0 := fun h => by rw [h] at hb; cases hb
            cases hb2 : Nat.blt l len with
            | true =>
              rw [hb2, cond_true] at e; cases e
              rw [Nat.blt_eq] at hb2
              have hne : ¬ cap = l := by omega
              simp only [if_neg hne, Option.map_some, add_none]
              refine QOk.pure ?_
              unfold RV
              exact ⟨p, hp, cap - l, rfl, by omega, fun k hk => (by cases hk), fun hk h0 => by have := hg hk (by omega); omega⟩
            | false =>
              rw [hb2, cond_false] at e; cases e
              have hb3 : ¬ l < len := fun h => by rw [← Nat.blt_eq] at h; rw [h] at hb2; cases hb2
              refine QOk.pure ?_
              unfold RV
              have hz : h - l = 0 := by omega
              rw [hz]
              exact ⟨_, cap - l, rfl⟩
    · rename_i ei x he
      split at e
      · rename_i m hm
        have hmx : mxOk cap m (some x) := ⟨len, hm, hle⟩
        refine QOk.bind0 (SRun.underlying (desc_slice F hd)) ?_
        simp only
        unfold Instr.slice
        refine QOk.bind0 (SRun.underlying (desc_slice F hd)) ?_
        obtain ⟨l, h, h1, h2⟩ := sliceK_ok (P := P) (w := w) (isS := true) (mx := some x) hp e hmx (.inr rfl) rlo rhi rmx
        refine QOk.bind0 h1 ?_
        refine QOk.bind0 (SRun_sizeOf (tt_of F he)) ?_
        have : (if m = l then some (⟨p.1, off, none⟩ : Addr) else (some (⟨p.1, off, none⟩ : Addr)).map (·.add (l * ei.size))) = some (if m = l then (⟨p.1, off, none⟩ : Addr) else (⟨p.1, off, none⟩ : Addr).add (l * ei.size)) := by
          split <;> rfl
        simp only [this]
        exact QOk.pure h2
      · cases e
    · cases e
  · cases e
end
end Go.Ev
/- The operations that change nothing: composites, maps. -/
namespace Go.Ev
section
variable {P : Program} {K : Ctx} {ι : Nm} {h : AH} {w : World} {E : Env}

theorem SRun_mapM {α β : Type} {f : α → Sem β} {g : α → β} : ∀ {l : List α}, (∀ x ∈ l, SRun P (f x) w (g x) w []) → SRun P (l.mapM f) w (l.map g) w []
  | [], _ => by rw [List.mapM_nil]; exact SRun.pure _
  | x :: l, h => by
    rw [List.mapM_cons]
    exact SRun.bind0 (h x (by simp)) (SRun.bind0 (SRun_mapM fun y hy => h y (by simp [hy])) (SRun.pure _))

theorem SRun_amapM {α β : Type} {f : α → Sem β} {g : α → β} {l : Array α} (h : ∀ x ∈ l, SRun P (f x) w (g x) w []) : SRun P (l.mapM f) w (l.map g) w [] := by
  rw [Array.mapM_eq_mapM_toList, ← bind_pure_comp]
  have := SRun_mapM (P := P) (w := w) (f := f) (g := g) (l := l.toList) fun x hx => h x (by simpa using hx)
  have h2 := SRun.bind0 this (SRun.pure (P := P) (w := w) ((l.toList.map g).toArray)) (f := fun x => Pure.pure x.toArray)
  have e : (l.toList.map g).toArray = l.map g := by apply Array.ext' ; simp
  rw [e] at h2; exact h2

theorem foldl_set {ι : Nm} : ∀ {as : List AV} {vs : List Value} {l : List AV} {cells : Array Value} (off k : Nat), RVs ι as vs → RVs ι l cells.toList →
    RVs ι (setAt l (off + k) as) ((vs.zipIdx k).foldl (fun cs p => cs.setIfInBounds (off + p.2) p.1) cells).toList
  | [], vs, l, cells, off, k, h1, h2 => by rw [RVs_nil_inv h1]; simpa [setAt] using h2
  | a :: as, _, l, cells, off, k, h1, h2 => by
    obtain ⟨v, r, rfl, h3, h4⟩ := RVs_cons_inv h1
    simp only [List.zipIdx_cons, List.foldl_cons, setAt]
    have := foldl_set (l := l.set (off + k) a) (cells := cells.setIfInBounds (off + k) v) off (k + 1) h4 (by rw [Array.toList_setIfInBounds]; exact h2.set _ h3)
    rw [show off + (k + 1) = off + k + 1 by omega] at this
    exact this

theorem setAt_length : ∀ (as l : List AV) (off : Nat), (setAt l off as).length = l.length
  | [], _, _ => rfl
  | a :: as, l, off => by rw [setAt, setAt_length as]; simp

/-- Parts with their places. -/
def RVp (ι : Nm) : List (Nat × AV) → List (Nat × Value) → Prop
  | [], vs => vs = []
  | a :: l, vs => ∃ v r, vs = (a.1, v) :: r ∧ RV ι a.2 v ∧ RVp ι l r

theorem cells_size {a : AV} {v : Value} (hv : RV ι a v) {size : Nat} (h1 : a.isAny = false) (h2 : Nat.beq a.cells.length size = true) :
    RVs ι a.cells v.cells.toList ∧ v.cells.size = size := by
  have h3 := Nat.eq_of_beq_eq_true h2
  have hc : RVs ι a.cells v.cells.toList := hv.cells (.inl h1)
  refine ⟨hc, ?_⟩
  rw [← h3, hc.length]; simp

theorem fillA_ok {szs place : Nat → Option (Nat × Nat)} (hp : ∀ i q, szs i = some q → place i = some q) : ∀ {ps : List (Nat × AV)} {vs : List (Nat × Value)} {l r : List AV} {cells : Array Value},
    fillA szs l ps = some r → RVp ι ps vs → RVs ι l cells.toList → ∃ c, Instr.fill place cells vs = some c ∧ RVs ι r c.toList
  | [], vs, l, r, cells, e, h1, h2 => by
    have hv : vs = [] := h1
    subst hv
    simp only [fillA, Option.some.injEq] at e; subst e
    exact ⟨cells, by unfold Instr.fill; rfl, h2⟩
  | p :: ps, vs, l, r, cells, e, h1, h2 => by
    obtain ⟨v, rest, rfl, h3, h4⟩ := h1
    simp only [fillA] at e
    split at e
    · cases e
    · rename_i q hq
      obtain ⟨e1, e⟩ := cond_none_some e
      obtain ⟨e2, e⟩ := condO_some e
      rw [Bool.and_eq_true] at e2
      obtain ⟨hc, hs⟩ := cells_size h3 e1 e2.1
      have hle := Nat.le_of_ble_eq_true e2.2
      have hlen : l.length = cells.size := by rw [h2.length]; simp
      obtain ⟨c, hf, hr⟩ := fillA_ok hp (vs := rest) (cells := v.cells.zipIdx.foldl (fun cs (c, j) => cs.setIfInBounds (q.1 + j) c) cells) e h4 (by
        have := foldl_set (cells := cells) q.1 0 hc h2
        rw [Nat.add_zero] at this
        have e3 : v.cells.zipIdx.foldl (fun cs (x : Value × Nat) => cs.setIfInBounds (q.1 + x.2) x.1) cells = (v.cells.toList.zipIdx 0).foldl (fun cs p => cs.setIfInBounds (q.1 + p.2) p.1) cells := by
          rw [← Array.foldl_toList]; simp
        exact e3 ▸ this)
      refine ⟨c, ?_, hr⟩
      rw [Instr.fill, hp _ _ hq]
      have : (v.cells.size ≠ q.2 || q.1 + v.cells.size > cells.size) = false := by
        simp only [Bool.or_eq_false_iff, decide_eq_false_iff_not]
        exact ⟨by simp [hs], by rw [hs, ← hlen]; omega⟩
      obtain ⟨q1, q2⟩ := q
      simp only at this ⊢
      rw [this]
      exact hf

theorem zeroV_cells (F : Fits P E) {t : TypeId} {ti : TI} (ht : E.tt.get t = some ti) : ∃ z, SRun P (zeroValue t) w z w [] ∧ RV ι ti.zeroV z ∧ RVs ι ti.zero z.cells.toList ∧ z.cells.size = ti.size ∧ ti.zero.length = ti.size := by
  obtain ⟨i, z, hi, _, _, hz, h1, h2, h3, h4⟩ := (tt_of F ht).info
  exact ⟨z, SRun.zeroValue hi hz, h1 ι, h2 ι, h3, h4⟩

theorem buildA_ok (F : Fits P E) {t : TypeId} {ps : List (Nat × AV)} {vs : Array (Nat × Value)} {a : AV} (e : buildA E t ps = some a) (hv : RVp ι ps vs.toList) : QOk P K ι w (Instr.build t vs) a := by
  unfold buildA at e
  cases ht : E.tt.get t with
  | none => rw [ht] at e; cases e
  | some ti =>
    simp only [ht] at e
    obtain ⟨z, hz, _, hzc, _, _⟩ := zeroV_cells (w := w) (ι := ι) F ht
    have hd : E.d t = some ti.d := by unfold Env.d; rw [ht]; rfl
    unfold Instr.build
    refine QOk.bind0 hz ?_
    split at e
    · rename_i fs hfs
      rw [hfs] at hd
      cases hf : fillA (fun i => (fs[i]?).map fun x => (x.1, x.2.1)) ti.zero ps with
      | none => rw [hf] at e; cases e
      | some r =>
        rw [hf] at e; simp at e; subst e
        obtain ⟨gs, hu, hg⟩ := desc_struct F hd
        refine QOk.bind0 (SRun.underlying hu) ?_
        have hm : SRun P (gs.mapM fun f => (do Pure.pure (f.offset, ← sizeOf f.type) : Sem (Nat × Nat))) w (gs.map fun f => (f.offset, P.cellsOf f.type)) w [] := by
          refine SRun_amapM fun f hf => ?_
          obtain ⟨k, hk, rfl⟩ := Array.mem_iff_getElem.1 hf
          obtain ⟨H, hH⟩ := desc_struct_all F hd hu k hk
          refine SRun.bind0 (SRun.sizeOf hH) ?_
          have : P.cellsOf gs[k].type = H.size := by unfold Program.cellsOf; rw [hH]; rfl
          rw [this]; exact SRun.pure _
        refine QOk.bind0 hm ?_
        obtain ⟨c, hc, hr⟩ := fillA_ok (place := fun i => (gs.map fun f => (f.offset, P.cellsOf f.type))[i]?) (fun i q hq => by
          cases hx : fs[i]? with
          | none => rw [hx] at hq; cases hq
          | some x =>
            rw [hx] at hq; cases hq
            obtain ⟨g, hg1, h1, _, gi, h3, h4⟩ := hg i x hx
            have : P.cellsOf g.type = gi.size := by unfold Program.cellsOf; rw [h3]; rfl
            simp [hg1, this, h1, h4]) hf hv hzc
        simp only [hc]
        exact QOk.pure (RV_agg hr)
    · rename_i n el hfs
      rw [hfs] at hd
      split at e
      · rename_i ei he
        cases hf : fillA (fun i => some (i * ei.size, ei.size)) ti.zero ps with
        | none => rw [hf] at e; cases e
        | some r =>
          rw [hf] at e; simp at e; subst e
          refine QOk.bind0 (SRun.underlying (desc_array F hd)) ?_
          refine QOk.bind0 (SRun_sizeOf (tt_of F he)) ?_
          obtain ⟨c, hc, hr⟩ := fillA_ok (place := fun i => some (i * ei.size, ei.size)) (fun i q hq => hq) hf hv hzc
          simp only [hc]
          exact QOk.pure (RV_agg hr)
      · cases e
    · cases e

/-! ### maps -/
theorem eqS_equal {x y : AV} {v u : Value} {r : Bool} (e : eqS x y = some r) (hv : RV ι x v) (hu : RV ι y u) :
    (∃ a b, x = .bool a ∧ v = .bool a ∧ u = .bool b ∧ r = (a == b)) ∨ (∃ k a b, x = .int k a ∧ v = .int k a ∧ u = .int k b ∧ r = (a == b)) ∨ (∃ a b, x = .str a ∧ v = .string ⟨a.toArray⟩ ∧ u = .string ⟨b.toArray⟩ ∧ r = (a == b)) := by
  unfold eqS at e
  split at e
  · rename_i a b; cases e; obtain rfl := bool_inv hv; obtain rfl := bool_inv hu; exact .inl ⟨a, b, rfl, rfl, rfl, rfl⟩
  · rename_i k a k' b
    obtain ⟨hk, rfl⟩ := cond_some e
    obtain rfl := ikEq_true hk
    obtain rfl := int_inv hv; obtain rfl := int_inv hu
    exact .inr (.inl ⟨k, a, b, rfl, rfl, rfl, rfl⟩)
  · rename_i a b; cases e; obtain rfl := str_inv hv; obtain rfl := str_inv hu; exact .inr (.inr ⟨a, b, rfl, rfl, rfl, rfl⟩)
  · cases e

theorem bytes_beq (a b : List UInt8) : ((⟨a.toArray⟩ : ByteArray) == ⟨b.toArray⟩) = (a == b) := by
  show (a.toArray == b.toArray) = (a == b)
  simp

/-- A key that is no struct. -/
theorem findNow_ok {kd : TypeDesc} {k : AV} {kv : Value} (hk : RV ι k kv)
    (hs : (kd = .bool ∧ ∃ b, k = .bool b) ∨ ((∃ j, kd = .int j) ∧ ∃ j n, k = .int j n) ∨ (kd = .string ∧ ∃ s, k = .str s)) :
    ∀ {es : List AE} {vs : List MapEntry} {i : Nat} {r : Option (Nat × AV)}, findK k es i = some r → REs ι es vs →
      ∃ r', Instr.findNow kd kv vs i = some r' ∧ (match r, r' with | none, none => True | some p, some q => p.1 = q.1 ∧ RV ι p.2 q.2 | _, _ => False)
  | [], vs, i, r, e, h => by
    have hv : vs = [] := h
    subst hv; cases e
    exact ⟨none, by unfold Instr.findNow; rfl, trivial⟩
  | a :: es, vs, i, r, e, h => by
    obtain ⟨e', rest, rfl, h1, h2, h3, h4⟩ := h
    simp only [findK] at e
    have key : ∀ b, eqK k a.key = some b → Instr.sameNow kd kv e'.key = some b := by
      intro b hb
      have hb' : eqS k a.key = some b := by
        rcases hs with ⟨_, c, rfl⟩ | ⟨_, j, n, rfl⟩ | ⟨_, s, rfl⟩ <;> exact hb
      rcases eqS_equal hb' hk h1 with ⟨x, y, e1, e2, e3, e4⟩ | ⟨j, x, y, e1, e2, e3, e4⟩ | ⟨x, y, e1, e2, e3, e4⟩
      · rcases hs with ⟨hd, _⟩ | ⟨_, _, _, hc⟩ | ⟨_, _, hc⟩
        · subst hd; rw [e2, e3, e4]; rfl
        · rw [e1] at hc; cases hc
        · rw [e1] at hc; cases hc
      · rcases hs with ⟨_, _, hc⟩ | ⟨⟨_, hd⟩, _⟩ | ⟨_, _, hc⟩
        · rw [e1] at hc; cases hc
        · subst hd; rw [e2, e3, e4]; simp [Instr.sameNow]
        · rw [e1] at hc; cases hc
      · rcases hs with ⟨_, _, hc⟩ | ⟨_, _, _, hc⟩ | ⟨hd, _⟩
        · rw [e1] at hc; cases hc
        · rw [e1] at hc; cases hc
        · subst hd; rw [e2, e3, e4]
          show some _ = _
          rw [bytes_beq]
    split at e
    · cases e
    · rename_i hb
      cases e
      refine ⟨some (i, e'.val), ?_, rfl, h2⟩
      rw [Instr.findNow, key _ hb]
    · rename_i hb
      obtain ⟨r', h5, h6⟩ := findNow_ok hk hs e h4
      refine ⟨r', ?_, h6⟩
      rw [Instr.findNow, key _ hb]
      exact h5

def FoundR (ι : Nm) (r : Option (Nat × AV)) (r' : Option (Nat × Value)) : Prop := match r, r' with | none, none => True | some p, some q => p.1 = q.1 ∧ RV ι p.2 q.2 | _, _ => False

theorem findAsking_ok {kt : TypeId} {l : List AV} {x : Array Value} (heq : ∀ (y : Array Value) (m : List AV) (r : Bool), RVs ι m y.toList → eqL l m = some r → SRun P (Op.equal kt (.agg x) (.agg y)) w r w []) :
    ∀ {es : List AE} {vs : List MapEntry} {i : Nat} {r : Option (Nat × AV)}, findK (.agg l) es i = some r → REs ι es vs →
      ∃ r', SRun P (Instr.findAsking kt (.agg x) vs i) w r' w [] ∧ FoundR ι r r'
  | [], vs, i, r, e, h => by
    have hv : vs = [] := h
    subst hv; cases e
    exact ⟨none, by unfold Instr.findAsking; exact SRun.pure _, trivial⟩
  | a :: es, vs, i, r, e, h => by
    obtain ⟨e', rest, rfl, h1, h2, h3, h4⟩ := h
    simp only [findK] at e
    have key : ∀ b, eqK (.agg l) a.key = some b → SRun P (Op.equal kt (.agg x) e'.key) w b w [] := by
      intro b hb
      cases hm : a.key with
      | agg m =>
        rw [hm] at hb h1
        obtain ⟨cs, hc, hl⟩ := agg_inv h1
        rw [hc]
        exact heq cs m b hl hb
      | _ => rw [hm] at hb; cases hb
    split at e
    · cases e
    · rename_i hb
      cases e
      refine ⟨some (i, e'.val), ?_, rfl, h2⟩
      rw [Instr.findAsking]
      exact SRun.bind0 (key _ hb) (SRun.pure _)
    · rename_i hb
      obtain ⟨r', h5, h6⟩ := findAsking_ok heq e h4
      refine ⟨r', ?_, h6⟩
      rw [Instr.findAsking]
      exact SRun.bind0 (key _ hb) h5

/-- Looking for a key. -/
theorem findK_ok (F : Fits P E) {kt : TypeId} {k : AV} {kv : Value} (hok : keyOk E kt k = true) (hk : RV ι k kv) {es : List AE} {vs : List MapEntry} {r : Option (Nat × AV)} (e : findK k es 0 = some r) (hr : REs ι es vs) :
    (∀ b, SRun P (Instr.checkKey b 10000 kt kv) w () w []) ∧ ∃ r', SRun P (Instr.findKey kt kv vs) w r' w [] ∧ FoundR ι r r' := by
  unfold keyOk at hok
  have scal : ∀ kd, P.underlying kt = some kd → ((kd = .bool ∧ ∃ b, k = .bool b) ∨ ((∃ j, kd = .int j) ∧ ∃ j n, k = .int j n) ∨ (kd = .string ∧ ∃ s, k = .str s)) →
      (∀ b, SRun P (Instr.checkKey b 10000 kt kv) w () w []) ∧ ∃ r', SRun P (Instr.findKey kt kv vs) w r' w [] ∧ FoundR ι r r' := by
    intro kd hu hs
    obtain ⟨r', h1, h2⟩ := findNow_ok hk hs e hr
    refine ⟨fun b => ?_, r', ?_, h2⟩
    · unfold Instr.checkKey
      refine SRun.bind0 (SRun.underlying hu) ?_
      rcases hs with ⟨rfl, _⟩ | ⟨⟨j, rfl⟩, _⟩ | ⟨rfl, _⟩ <;> exact SRun.pure _
    · unfold Instr.findKey
      refine SRun.bind0 (SRun.underlying hu) ?_
      rw [h1]; exact SRun.pure _
  split at hok
  · rename_i hd
    split at hok
    · exact scal _ (desc_bool F hd) (.inl ⟨rfl, _, rfl⟩)
    · cases hok
  · rename_i j hd
    split at hok
    · exact scal _ (desc_int F hd) (.inr (.inl ⟨⟨j, rfl⟩, _, _, rfl⟩))
    · cases hok
  · rename_i hd
    split at hok
    · exact scal _ (desc_str F hd) (.inr (.inr ⟨rfl, _, rfl⟩))
    · cases hok
  · rename_i fs hd
    split at hok
    · rename_i l
      obtain ⟨x, rfl, hl⟩ := agg_inv hk
      obtain ⟨gs, hu, hf⟩ := F.flatOk hok
      obtain ⟨h1, h2⟩ := hf x ι w hl
      refine ⟨h1, ?_⟩
      have heq : ∀ (y : Array Value) (m : List AV) (r : Bool), RVs ι m y.toList → eqL l m = some r → SRun P (Op.equal kt (.agg x) (.agg y)) w r w [] := fun y m r hm hq => (h2 y m r hm hq (.const (.bool true)) (.const (.bool true)) .eql (.inl rfl)).2
      unfold Instr.findKey
      cases hn : Instr.findNow gs (.agg x) vs 0 with
      | none =>
        obtain ⟨r', h3, h4⟩ := findAsking_ok heq e hr
        refine ⟨r', SRun.bind0 (SRun.underlying hu) ?_, h4⟩
        rw [hn]; exact h3
      | some q =>
        refine ⟨q, SRun.bind0 (SRun.underlying hu) (by rw [hn]; exact SRun.pure _), ?_⟩
        -- there is no entry
        cases hv : vs with
        | nil =>
          subst hv
          have hes : es = [] := by cases es with | nil => rfl | cons a es => obtain ⟨_, _, h5, _⟩ := hr; cases h5
          subst hes; cases e
          unfold Instr.findNow at hn; cases hn; trivial
        | cons e1 r1 =>
          subst hv
          rw [Instr.findNow] at hn
          have : Instr.sameNow gs (.agg x) e1.key = none := by cases gs <;> rfl
          rw [this] at hn; cases hn
    · cases hok
  · rename_i n el hd
    split at hok
    · rename_i l
      obtain ⟨x, rfl, hl⟩ := agg_inv hk
      obtain ⟨gs, hu, hf⟩ := F.flatOk hok
      obtain ⟨h1, h2⟩ := hf x ι w hl
      refine ⟨h1, ?_⟩
      have heq : ∀ (y : Array Value) (m : List AV) (r : Bool), RVs ι m y.toList → eqL l m = some r → SRun P (Op.equal kt (.agg x) (.agg y)) w r w [] := fun y m r hm hq => (h2 y m r hm hq (.const (.bool true)) (.const (.bool true)) .eql (.inl rfl)).2
      unfold Instr.findKey
      cases hn : Instr.findNow gs (.agg x) vs 0 with
      | none =>
        obtain ⟨r', h3, h4⟩ := findAsking_ok heq e hr
        refine ⟨r', SRun.bind0 (SRun.underlying hu) ?_, h4⟩
        rw [hn]; exact h3
      | some q =>
        refine ⟨q, SRun.bind0 (SRun.underlying hu) (by rw [hn]; exact SRun.pure _), ?_⟩
        -- there is no entry
        cases hv : vs with
        | nil =>
          subst hv
          have hes : es = [] := by cases es with | nil => rfl | cons a es => obtain ⟨_, _, h5, _⟩ := hr; cases h5
          subst hes; cases e
          unfold Instr.findNow at hn; cases hn; trivial
        | cons e1 r1 =>
          subst hv
          rw [Instr.findNow] at hn
          have : Instr.sameNow gs (.agg x) e1.key = none := by cases gs <;> rfl
          rw [this] at hn; cases hn
    · cases hok
  · cases hok
end
end Go.Ev
/- Every operation that changes nothing. -/
namespace Go.Ev
section
variable {P : Program} {K : Ctx} {ι : Nm} {h : AH} {w : World} {E : Env}

theorem nat_beq (a b : Nat) : Nat.beq a b = (a == b) := by
  rw [Bool.eq_iff_iff]; simp

def lookCont (kt el : TypeId) (u : Value) (ok : Bool) (es : Array MapEntry) : Sem Value := do
  Instr.checkKey es.isEmpty 10000 kt u
  match ← Instr.findKey kt u es.toList with
  | some (_, v) => Pure.pure (if ok then .tuple #[v, .bool true] else v)
  | none => do
    let v ← zeroValue el
    Pure.pure (if ok then .tuple #[v, .bool false] else v)

theorem lookupA_ok (F : Fits P E) (hP : K.P = P) (S : Sat K ι h w) {t : TypeId} {x i a : AV} {ok : Bool} {v u : Value} (e : lookupA E h t x i ok = some a) (hv : RV ι x v) (hu : RV ι i u) :
    QOk P K ι w (Instr.lookup t v u ok) a := by
  unfold lookupA at e
  split at e
  · rename_i kt el hd
    have ht := (desc_map F hd).1
    split at e
    · rename_i ei es he hes
      obtain ⟨hok, hes⟩ := condO_some hes
      obtain ⟨z, hz, hz1, _⟩ := zeroV_cells (w := w) (ι := ι) F he
      unfold Instr.lookup
      refine QOk.bind0 (SRun.underlying ht) ?_
      have cont : ∀ es' : Array MapEntry, REs ι es es'.toList → QOk P K ι w (lookCont kt el u ok es') a := by
        intro es' h2
        unfold lookCont
        split at e
        · cases e
        · rename_i j val hf
          obtain ⟨hck, r', hr', hfr⟩ := findK_ok (w := w) F hok hu hf h2
          cases e
          cases r' with
          | none => exact hfr.elim
          | some q =>
            refine QOk.bind0 (hck _) ?_
            refine QOk.bind0 hr' ?_
            cases ok with
            | true => exact QOk.pure (RV_tup (RVs_cons hfr.2 (RVs_cons RV_bool RVs_nil)))
            | false => exact QOk.pure hfr.2
        · rename_i hf
          obtain ⟨hck, r', hr', hfr⟩ := findK_ok (w := w) F hok hu hf h2
          cases e
          cases r' with
          | some q => exact hfr.elim
          | none =>
            refine QOk.bind0 (hck _) ?_
            refine QOk.bind0 hr' ?_
            refine QOk.bind0 hz ?_
            cases ok with
            | true => exact QOk.pure (RV_tup (RVs_cons hz1 (RVs_cons RV_bool RVs_nil)))
            | false => exact QOk.pure hz1
      unfold mapEs at hes
      split at hes
      · cases hes
        unfold RV at hv; subst hv
        exact QOk.bind0 (SRun.pure _) (cont #[] rfl)
      · rename_i id
        split at hes
        · rename_i es0 ck ho
          cases hes
          obtain ⟨p, hp, rfl⟩ := map_inv hv
          obtain ⟨q, ob, hq, b1, b2, b3, hb, es', rfl, hr⟩ := S.at ho trivial
          obtain rfl : p = q := by rw [hp] at hq; exact Option.some.inj hq
          obtain ⟨g1, g2⟩ := SRun.getObjE (P := P) (K := K) hb (by simp) rfl b1 b2
          exact QOk.bindE g1 g2 (QOk.bind0 (SRun.pure _) (cont es' hr))
        · cases hes
      · cases hes
    · cases e
  · cases e

theorem REs.find {q : AE → Bool} {q' : MapEntry → Bool} (hq : ∀ a e, e.born = a.born → q a = q' e) : ∀ {es : List AE} {vs : List MapEntry}, REs ι es vs → ∀ {a : AE}, es.find? q = some a → ∃ e, vs.find? q' = some e ∧ RV ι a.key e.key ∧ RV ι a.val e.val
  | [], _, _, _, e => by cases e
  | x :: es, _, hr, a, e => by
    obtain ⟨y, r, rfl, h1, h2, h3, h4⟩ := hr
    rw [List.find?_cons] at e ⊢
    rw [← hq x y h3]
    split at e
    · rename_i hx; cases e; exact ⟨y, by simp [hx], h1, h2⟩
    · rename_i hx
      obtain ⟨e', h5, h6⟩ := REs.find hq h4 e
      exact ⟨e', by simp [hx, h5], h6⟩

theorem entryA_ok (hP : K.P = P) (S : Sat K ι h w) {x a : AV} {v : Value} (e : entryA h x = some a) (hv : RV ι x v) : QOk P K ι w (Instr.entry v) a := by
  unfold entryA at e
  split at e
  · rename_i id
    obtain ⟨p, hp, rfl⟩ := ptr_inv hv
    split at e
    · rename_i m s seen stepped ho
      split at e
      · rename_i es ck st hom hst
        obtain ⟨hb, e2⟩ := condO_some e
        obtain rfl := Nat.eq_of_beq_eq_true hb
        clear e
        cases hf : es.find? fun e => Nat.beq e.born st with
        | none => rw [hf] at e2; cases e2
        | some en =>
          rw [hf] at e2; simp at e2; subst e2
          obtain ⟨q, ob, hq, b1, b2, b3, hbl, b, hm1, _, rfl⟩ := S.at ho trivial
          obtain rfl : p = q := by rw [hp] at hq; exact Option.some.inj hq
          obtain ⟨pm, hpm, hbe⟩ := hm1 m rfl
          subst hbe
          obtain ⟨q', ob', hq', c1, c2, c3, hbm, es', rfl, hr⟩ := S.at hom trivial
          obtain rfl : pm = q' := by rw [hpm] at hq'; exact Option.some.inj hq'
          obtain ⟨g1, g2⟩ := SRun.getObjE (P := P) (K := K) hbl (by simp) rfl b1 b2
          obtain ⟨g3, g4⟩ := SRun.getObjE (P := P) (K := K) hbm (by simp) rfl c1 c2
          unfold Instr.entry
          refine QOk.bindE g1 g2 ?_
          have hback : seen.toArray.back? = some st := by simpa [Array.back?_eq_getElem?, List.getLast?_eq_getElem?] using hst
          simp only [hback]
          refine QOk.bindE g3 g4 ?_
          have hfind : ∃ e', es'.find? (fun e => e.born == st) = some e' ∧ RV ι en.key e'.key ∧ RV ι en.val e'.val := by
            obtain ⟨e', h5, h6⟩ := REs.find (q := fun e => Nat.beq e.born st) (q' := fun e => e.born == st) (fun a e h => by rw [h]; exact nat_beq _ _) hr hf
            exact ⟨e', by rw [← Array.find?_toList]; exact h5, h6⟩
          obtain ⟨e', h5, h6, h7⟩ := hfind
          simp only [bne_self_eq_false, Bool.false_eq_true, if_false, h5]
          exact QOk.pure (RV_tup (RVs_cons h6 (RVs_cons h7 RVs_nil)))
      · cases e
    · cases e
  · cases e
end
end Go.Ev
/- 'quietOp', whole. -/
namespace Go.Ev
section
variable {P : Program} {K : Ctx} {ι : Nm} {h : AH} {w : World} {E : Env} {tm : Tr AV} {ρ : Operand → Value}

def NOk (P : Program) (K : Ctx) (ι : Nm) (w : World) (s : Sem Next) (a : AV) : Prop :=
  ∃ v es, SRun P s w (.value v) w es ∧ RV ι a v ∧ ∀ e ∈ es, EvF K w.heap.size e

theorem QOk.next {s : Sem Value} {a : AV} (h : QOk P K ι w s a) : NOk P K ι w (do Pure.pure (.value (← s))) a := by
  obtain ⟨v, es, h1, h2, h3⟩ := h
  refine ⟨v, es, ?_, h2, h3⟩
  have := SRun.bind h1 (SRun.pure (P := P) (w := w) (Next.value v)) (f := fun v => Pure.pure (Next.value v))
  simpa using this

theorem RVs_evs (hρ : ∀ x, RV ι (ev tm x) (ρ x)) : ∀ l : List Operand, RVs ι (evs tm l) (l.map ρ)
  | [] => RVs_nil
  | x :: l => RVs_cons (hρ x) (RVs_evs hρ l)
theorem RVp_evp (hρ : ∀ x, RV ι (ev tm x) (ρ x)) : ∀ l : List (Nat × Operand), RVp ι (evp tm l) (l.map fun p => (p.1, ρ p.2))
  | [] => rfl
  | x :: l => ⟨ρ x.2, _, rfl, hρ x.2, RVp_evp hρ l⟩
theorem RVo_evo (hρ : ∀ x, RV ι (ev tm x) (ρ x)) (o : Option Operand) : RVo ι (evo tm o) (o.map ρ) := by
  cases o with
  | none => rfl
  | some x => exact ⟨ρ x, rfl, hρ x⟩

theorem evs_length (l : List Operand) : (evs tm l).length = l.length := by
  induction l with
  | nil => rfl
  | cons x l ih => simp [evs, ih]

theorem max_ok {k k' : IntKind} {x y : Int} {ts : Array TypeId} {ty : TypeId} : SRun P (Builtin.max_ ts ty #[.int k x, .int k' y]) w (.int k (if y > x then y else x)) w [] := by
  unfold Builtin.max_
  exact SRun.bind0 (s := Builtin.max2 (.int k x) (.int k' y)) (SRun.pure _) (SRun.pure _)
theorem min_ok {k k' : IntKind} {x y : Int} {ts : Array TypeId} {ty : TypeId} : SRun P (Builtin.min_ ts ty #[.int k x, .int k' y]) w (.int k (if y < x then y else x)) w [] := by
  unfold Builtin.min_
  exact SRun.bind0 (s := Builtin.min2 (.int k x) (.int k' y)) (SRun.pure _) (SRun.pure _)

theorem quietB_ok (hP : K.P = P) (F : Fits P E) (S : Sat K ι h w) {b : Builtin} {as : List AV} {ts : List TypeId} {a : AV} {args : Array Value} {tys : Array TypeId} {ty : TypeId} {cs : Array Bool}
    (e : quietB E h b as ts = some a) (ha : RVs ι as args.toList) (ht : tys.toList = ts) : NOk P K ι w (builtin b tys ty cs args) a := by
  obtain ⟨tys⟩ := tys
  obtain ⟨args⟩ := args
  simp only at ha ht
  subst ht
  unfold quietB at e
  split at e
  · split at e
    · rename_i x t
      obtain ⟨v, r, rfl, h1, h2⟩ := RVs_cons_inv ha
      obtain rfl := RVs_nil_inv h2
      exact (lenA_ok hP F S e h1).next
    · cases e
  · split at e
    · rename_i k x k' y
      obtain ⟨v, r, rfl, h1, h2⟩ := RVs_cons_inv ha
      obtain ⟨v', r', rfl, h3, h4⟩ := RVs_cons_inv h2
      obtain rfl := RVs_nil_inv h4
      obtain rfl := int_inv h1
      obtain rfl := int_inv h3
      obtain ⟨hb, rfl⟩ := cond_some e
      refine QOk.next ⟨_, [], max_ok, ?_, by simp⟩
      have : (if y > x then y else x) = cond (decide (y > x)) y x := by by_cases hc : y > x <;> simp [hc]
      rw [this]; exact RV_int
    · cases e
  · split at e
    · rename_i k x k' y
      obtain ⟨v, r, rfl, h1, h2⟩ := RVs_cons_inv ha
      obtain ⟨v', r', rfl, h3, h4⟩ := RVs_cons_inv h2
      obtain rfl := RVs_nil_inv h4
      obtain rfl := int_inv h1
      obtain rfl := int_inv h3
      obtain ⟨hb, rfl⟩ := cond_some e
      refine QOk.next ⟨_, [], min_ok, ?_, by simp⟩
      have : (if y < x then y else x) = cond (decide (y < x)) y x := by by_cases hc : y < x <;> simp [hc]
      rw [this]; exact RV_int
    · cases e
  · split at e
    · rename_i id off n c
      cases e
      obtain ⟨v, r, rfl, h1, h2⟩ := RVs_cons_inv ha
      obtain rfl := RVs_nil_inv h2
      obtain ⟨p, hp, cap, rfl, hle, _⟩ := sl_inv h1
      refine QOk.next ?_
      have hc : cap ≠ 0 := by omega
      have : Builtin.unsafeSliceData_ ⟨tys⟩ ty ⟨[Value.slice (some ⟨p.1, off, none⟩) (n + 1) cap]⟩ = Pure.pure (.pointer (some ⟨p.1, off, none⟩)) := by
        show (if cap ≠ 0 then (Pure.pure (Value.pointer (some ⟨p.1, off, none⟩)) : Sem Value) else _) = _
        rw [if_pos hc]
      rw [this]
      exact QOk.pure (RV_ptr hp)
    · cases e
      obtain ⟨v, r, rfl, h1, h2⟩ := RVs_cons_inv ha
      obtain rfl := RVs_nil_inv h2
      unfold RV at h1; subst h1
      exact QOk.next (QOk.pure (by unfold RV; rfl))
    · cases e
  · cases e

/-- Every operation that changes nothing: its value. -/
theorem quiet_ok (hP : K.P = P) (F : Fits P E) (S : Sat K ι h w) (hρ : ∀ x, RV ι (ev tm x) (ρ x)) {o : Oper} {a : AV} (e : quietOp o.op E tm h = some a) : NOk P K ι w (execOp ρ o) a := by
  unfold execOp
  cases ho : o.op <;> rw [ho] at e <;> try (cases e; done)
  case move x => cases e; exact ⟨_, [], SRun.pure _, hρ x, by simp⟩
  case assign x => cases e; exact ⟨_, [], SRun.pure _, hρ x, by simp⟩
  case pick c x y =>
    have e' : (match ev tm c with | .bool t => some (cond t (ev tm x) (ev tm y)) | _ => none) = some a := e
    have hc := hρ c
    cases hv : ev tm c <;> rw [hv] at e' hc <;> try (cases e'; done)
    rename_i t
    have hb := bool_inv hc
    cases e'
    refine ⟨if t = true then ρ x else ρ y, [], ?_, ?_, by simp⟩
    · show SRun P (do Pure.pure (Next.value (if ← asBool (ρ c) then ρ x else ρ y))) w _ w []
      rw [hb]
      exact SRun.bind0 (a := t) (SRun.pure _) (SRun.pure _)
    · cases t with
      | true => exact hρ x
      | false => exact hρ y
  case build t ps =>
    refine (buildA_ok (vs := ps.map fun (i, x) => (i, ρ x)) F e ?_).next
    have := RVp_evp hρ ps.toList
    simpa using this
  case load t x =>
    have e' : (match ev tm x with | .ptr id off => loadT E h t id off | _ => none) = some a := e
    have hx := hρ x
    cases hv : ev tm x <;> rw [hv] at e' hx <;> try (cases e'; done)
    obtain ⟨p, hp, hx⟩ := ptr_inv hx
    obtain ⟨v, es, h1, h2, h3⟩ := SRun_loadVar (P := P) S F hp e'
    refine QOk.next ?_
    rw [hx]
    exact ⟨v, es, h1, h2, h3⟩
  case nilCheck x =>
    obtain ⟨es, h1, h2, rfl⟩ := nilCheckA_ok (P := P) (w := w) (o := o) e (hρ x) rfl ho
    unfold execOp at h1
    rw [ho] at h1
    exact ⟨_, [], h1, h2, by simp⟩
  case binOp op t x y u => exact (binA_ok F e (hρ x) (hρ y) x y).next
  case unOp op t x => exact (unA_ok e (hρ x)).next
  case convert s d x => exact (convQ_ok F e (hρ x)).next
  case makeInterface t x => exact (makeIfaceA_ok F e (hρ x)).next
  case makeFunc g x y =>
    cases g with
    | func g =>
      cases e
      refine QOk.next (QOk.pure ?_)
      have h1 := RVs_evs hρ x.toList
      have h2 := RVs_evs hρ y.toList
      unfold RV
      exact ⟨x.map ρ, y.map ρ, rfl, by simpa using h1, by simpa using h2⟩
    | _ => cases e
  case slice t x lo hi mx => exact (sliceA_ok F e (hρ x) (RVo_evo hρ lo) (RVo_evo hρ hi) (RVo_evo hρ mx)).next
  case fieldAddr s x i => exact (fieldAddrA_ok F e (hρ x)).next
  case field t x i => exact (fieldA_ok F e (hρ x)).next
  case indexAddr t x i => exact (indexAddrA_ok F e (hρ x) (hρ i)).next
  case index t x i => exact (indexA_ok F e (hρ x) (hρ i)).next
  case lookup t x i ok => exact (lookupA_ok F hP S e (hρ x) (hρ i)).next
  case entry it => exact (entryA_ok hP S e (hρ it)).next
  case typeAssert x t u ok => exact (assertA_ok F e (hρ x)).next
  case extract x i => exact (extractA_ok e (hρ x)).next
  case call c =>
    have e' : (match callB c with | some b => quietB E h b (evs tm c.args.toList) c.argTypes.toList | none => none) = some a := e
    cases hb : callB c with
    | none => rw [hb] at e'; cases e'
    | some b =>
      rw [hb] at e'
      have hc : c.callee = .builtin b := by
        unfold callB at hb
        split at hb
        · rename_i b' hc; cases hb; exact hc
        · cases hb
      have h1 := RVs_evs hρ c.args.toList
      have := quietB_ok (ty := o.type) (cs := c.args.map fun | .const _ => true | _ => false) (args := c.args.map ρ) (tys := c.argTypes) hP F S e' (by simpa using h1) rfl
      obtain ⟨v, es, h2, h3, h4⟩ := this
      refine ⟨v, es, ?_, h3, h4⟩
      have hr : SRun P (resolve ρ c o.type) w { target := .builtin b c.argTypes o.type (c.args.map fun | .const _ => true | _ => false), args := c.args.map ρ } w [] := by
        unfold resolve
        rw [hc]
        exact SRun.pure _
      exact SRun.bind0 hr h2
end
end Go.Ev
/- How the heap's relation goes on when an object is laid, changed, forgotten. -/
namespace Go.Ev
section
variable {P : Program} {K : Ctx} {ι : Nm} {h : AH} {w : World} {E : Env}

def upd (ι : Nm) (i : Nat) (p : Nat × Nat) : Nm := fun j => if j = i then some p else ι j
theorem upd_self (ι : Nm) (i : Nat) (p : Nat × Nat) : upd ι i p i = some p := by simp [upd]
theorem upd_ne {ι : Nm} {i j : Nat} {p : Nat × Nat} (h : j ≠ i) : upd ι i p j = ι j := by simp [upd, h]

/-- These names are not in use yet. -/
def Free (ι : Nm) (n m : Nat) : Prop := ∀ i, n ≤ i → i < m → ι i = none
theorem Free.sub {ι : Nm} {n m n' m' : Nat} (h : Free ι n m) (h1 : n ≤ n') (h2 : m' ≤ m) : Free ι n' m' := fun i hi hj => h i (by omega) (by omega)

/-- New names alone, of these. -/
structure Grow (ι ι' : Nm) (n n' : Nat) : Prop where
  le : n ≤ n'
  same : ∀ i, i < n ∨ n' ≤ i → ι' i = ι i
theorem Grow.refl (ι : Nm) (n : Nat) : Grow ι ι n n := ⟨Nat.le_refl _, fun _ _ => rfl⟩
theorem Grow.trans {ι ι' ι'' : Nm} {n n' n'' : Nat} (h : Grow ι ι' n n') (h' : Grow ι' ι'' n' n'') : Grow ι ι'' n n'' :=
  ⟨Nat.le_trans h.le h'.le, fun i hi => (h'.same i (by have := h.le; have := h'.le; omega)).trans (h.same i (by have := h.le; have := h'.le; omega))⟩
theorem Grow.ext {ι ι' : Nm} {n n' : Nat} (h : Grow ι ι' n n') (hn : Free ι n n') : Ext ι ι' := fun i p hi => by
  by_cases hlt : i < n ∨ n' ≤ i
  · rw [h.same i hlt]; exact hi
  · rw [hn i (by omega) (by omega)] at hi; cases hi
theorem Grow.free {ι ι' : Nm} {n n' m : Nat} (h : Grow ι ι' n n') (hf : Free ι n m) : Free ι' n' m := fun i h1 h2 => by
  rw [h.same i (.inr h1)]; exact hf i (by have := h.le; omega) h2
theorem Grow.upd {ι : Nm} {n : Nat} {p : Nat × Nat} : Grow ι (Ev.upd ι n p) n (n + 1) := ⟨Nat.le_succ _, fun i hi => upd_ne (by omega)⟩

theorem ext_upd {ι : Nm} {i : Nat} {p : Nat × Nat} (h : ι i = none) : Ext ι (upd ι i p) := fun j q hj => by
  by_cases hji : j = i
  · subst hji; rw [h] at hj; cases hj
  · rw [upd_ne hji]; exact hj

theorem heap_push {o : Obj} {b : Nat} (hb : b < w.heap.size) : (w.heap.push o)[b]? = w.heap[b]? := by
  rw [Array.getElem?_push]; split
  · omega
  · rfl
theorem lt_of_heap {b : Nat} {ob : Obj} (h : w.heap[b]? = some ob) : b < w.heap.size := by
  rw [Array.getElem?_eq_some_iff] at h; exact h.1

theorem AH.put_get {j : Nat} {o x : AO} {i : Nat} (e : (h.put j o).tr.get i = some x) : (i = j ∧ x = o) ∨ (i ≠ j ∧ h.tr.get i = some x) := by
  obtain ⟨tr, nx, df⟩ := h
  have e' : (tr.set j o).get i = some x := e
  exact Tr.get_set e'
theorem AH.new_tr {o : AO} : (h.new o).tr = (h.put h.nx o).tr := by obtain ⟨tr, nx, df⟩ := h; rfl
theorem AH.new_nx {o : AO} : (h.new o).nx = h.nx + 1 := by obtain ⟨tr, nx, df⟩ := h; rfl
theorem AH.put_nx {j : Nat} {o : AO} : (h.put j o).nx = h.nx := by obtain ⟨tr, nx, df⟩ := h; rfl
theorem AH.new_df {o : AO} : (h.new o).df = h.df := by obtain ⟨tr, nx, df⟩ := h; rfl
theorem AH.put_df {j : Nat} {o : AO} : (h.put j o).df = h.df := by obtain ⟨tr, nx, df⟩ := h; rfl

/-- Names and the ghost count say nothing of the world. -/
theorem Sat.ofTr (S : Sat K ι h w) {h' : AH} (e : h'.tr = h.tr) : Sat K ι h' w :=
  ⟨fun i o hi => S.objs i o (by rw [← e]; exact hi), fun i j o o' p q h1 h2 => S.inj i j o o' p q (by rw [← e]; exact h1) (by rw [← e]; exact h2), S.lo, S.bs, S.old, S.os, S.tape, S.output⟩

/-- More names. -/
theorem Sat.mono (S : Sat K ι h w) {ι' : Nm} (hE : Ext ι ι') : Sat K ι' h w := by
  refine ⟨fun i o hi hl => ?_, fun i j o o' p q h1 h2 l1 l2 hp hq hpq => ?_, S.lo, S.bs, S.old, S.os, S.tape, S.output⟩
  · obtain ⟨p, ob, h1, h2, h3, h4, h5⟩ := S.objs i o hi hl
    exact ⟨p, ob, hE _ _ h1, h2, h3, h4, h5.mono hE⟩
  · obtain ⟨p', _, g1, _⟩ := S.objs i o h1 l1
    obtain ⟨q', _, g2, _⟩ := S.objs j o' h2 l2
    have e1 := hE _ _ g1; rw [hp] at e1; cases e1
    have e2 := hE _ _ g2; rw [hq] at e2; cases e2
    exact S.inj i j o o' p q h1 h2 l1 l2 g1 g2 hpq

/-- A block more. -/
theorem Sat.push (S : Sat K ι h w) (ob : Obj) : Sat K ι h { w with heap := w.heap.push ob } := by
  refine ⟨fun i o hi hl => ?_, S.inj, ?_, ?_, fun b hb => ?_, S.os, S.tape, S.output⟩
  · obtain ⟨p, ob', h1, h2, h3, h4, h5⟩ := S.objs i o hi hl
    exact ⟨p, ob', h1, h2, h3, by simp only; rw [heap_push (lt_of_heap h4)]; exact h4, h5⟩
  · simp only [Array.size_push]; have := S.lo; omega
  · simp only [Array.size_push]; have := S.bs; omega
  · simp only
    rw [heap_push (by have := S.bs; omega)]; exact S.old b hb

/-- An object gets a place (of one that was forgotten, or never had one), or is said anew. -/
theorem Sat.place (S : Sat K ι h w) {i : Nat} {p : Nat × Nat} (hp : ι i = some p) {ob : Obj} {o : AO} (hb : w.heap[p.1]? = some ob) (h1 : K.base ≤ p.1) (h2 : K.own p.1)
    (hn : ∀ j x q, h.tr.get j = some x → x.live → ι j = some q → q.1 = p.1 → j = i) (hr : RO K.P ι p.2 o ob) : Sat K ι (h.put i o) w := by
  refine ⟨fun j x e hl => ?_, fun a b x y q r e1 e2 l1 l2 hq hr' hqr => ?_, S.lo, S.bs, S.old, S.os, S.tape, S.output⟩
  · rcases AH.put_get e with ⟨rfl, rfl⟩ | ⟨hne, e'⟩
    · exact ⟨p, ob, hp, h1, h2, hb, hr⟩
    · exact S.objs j x e' hl
  · rcases AH.put_get e1 with ⟨ha, rfl⟩ | ⟨n1, e1'⟩ <;> rcases AH.put_get e2 with ⟨hb', rfl⟩ | ⟨n2, e2'⟩
    · rw [ha, hb']
    · subst ha
      rw [hp] at hq; cases hq
      exact absurd (hn b y r e2' l2 hr' hqr.symm) n2
    · subst hb'
      rw [hp] at hr'; cases hr'
      exact absurd (hn a x q e1' l1 hq hqr) n1
    · exact S.inj a b x y q r e1' e2' l1 l2 hq hr' hqr

/-- A new block. -/
theorem Sat.newO (S : Sat K ι h w) (hf : ι h.nx = none) {o : AO} {ob : Obj} {cap : Nat} (hr : RO K.P (upd ι h.nx (w.heap.size, cap)) cap o ob) :
    Sat K (upd ι h.nx (w.heap.size, cap)) (h.new o) { w with heap := w.heap.push ob } := by
  have S1 := (S.push ob).mono (ext_upd (p := (w.heap.size, cap)) hf)
  refine (S1.place (i := h.nx) (p := (w.heap.size, cap)) (ob := ob) (o := o) (upd_self _ _ _) (by simp) S.bs (K.ownNew _ S.lo) (fun j x q e1 l1 hq hqp => ?_) hr).ofTr AH.new_tr
  by_cases hji : j = h.nx
  · exact hji
  · rw [upd_ne hji] at hq
    obtain ⟨q', ob', g1, _, _, g4, _⟩ := S.objs j x e1 l1
    rw [hq] at g1; cases g1
    have := lt_of_heap g4
    simp only at hqp; omega

theorem Fine.newO (ob : Obj) (K : Ctx) : Fine K w { w with heap := w.heap.push ob } [] :=
  ⟨by simp, fun b hb _ => heap_push hb, by simp⟩

/-- A block that is changed. -/
theorem Sat.putO (S : Sat K ι h w) {i : Nat} {p : Nat × Nat} (hp : ι i = some p) {o0 : AO} (ho : h.tr.get i = some o0) (hl0 : o0.live) {o : AO} {ob : Obj} (hr : RO K.P ι p.2 o ob) :
    Sat K ι (h.put i o) { w with heap := w.heap.setIfInBounds p.1 ob } := by
  obtain ⟨p', ob0, h1, h2, h3, h4, h5⟩ := S.objs i o0 ho hl0
  obtain rfl : p = p' := by rw [hp] at h1; exact Option.some.inj h1
  have hlt : p.1 < w.heap.size := lt_of_heap h4
  refine ⟨fun j x e hl => ?_, fun a b x y q r e1 e2 l1 l2 hq hr' hqr => ?_, by simpa using S.lo, by simpa using S.bs, fun b hb => ?_, S.os, S.tape, S.output⟩
  · rcases AH.put_get e with ⟨rfl, rfl⟩ | ⟨hne, e'⟩
    · exact ⟨p, ob, hp, h2, h3, by simp [hlt], hr⟩
    · obtain ⟨q, ob', g1, g2, g3, g4, g5⟩ := S.objs j x e' hl
      refine ⟨q, ob', g1, g2, g3, ?_, g5⟩
      have hne' : p.1 ≠ q.1 := fun hpq => hne (S.inj j i x o0 q p e' ho hl hl0 g1 hp hpq.symm)
      simp only
      rw [Array.getElem?_setIfInBounds_ne hne']; exact g4
  · rcases AH.put_get e1 with ⟨ha, rfl⟩ | ⟨n1, e1'⟩ <;> rcases AH.put_get e2 with ⟨hb, rfl⟩ | ⟨n2, e2'⟩
    · rw [ha, hb]
    · exact S.inj a b o0 y q r (by rw [ha]; exact ho) e2' hl0 l2 hq hr' hqr
    · exact S.inj a b x o0 q r e1' (by rw [hb]; exact ho) l1 hl0 hq hr' hqr
    · exact S.inj a b x y q r e1' e2' l1 l2 hq hr' hqr
  · simp only
    rw [Array.getElem?_setIfInBounds_ne (by omega)]; exact S.old b hb

theorem Fine.putO {b : Nat} (ob : Obj) (h1 : K.base ≤ b) (h2 : K.own b) {es : List Event} (he : ∀ e ∈ es, EvF K w.heap.size e) : Fine K w { w with heap := w.heap.setIfInBounds b ob } es :=
  ⟨by simp, fun c _ hn => Array.getElem?_setIfInBounds_ne (fun hc => hn (by subst hc; exact ⟨h1, h2⟩)), by simpa using he⟩

/-- An object that is forgotten. -/
theorem Sat.forget (S : Sat K ι h w) (i : Nat) : Sat K ι (h.put i .dead) w := by
  refine ⟨fun j x e hl => ?_, fun a b x y q r e1 e2 l1 l2 hq hr hqr => ?_, S.lo, S.bs, S.old, S.os, S.tape, S.output⟩
  · rcases AH.put_get e with ⟨rfl, rfl⟩ | ⟨_, e'⟩
    · exact hl.elim
    · exact S.objs j x e' hl
  · rcases AH.put_get e1 with ⟨_, rfl⟩ | ⟨_, e1'⟩
    · exact l1.elim
    · rcases AH.put_get e2 with ⟨_, rfl⟩ | ⟨_, e2'⟩
      · exact l2.elim
      · exact S.inj a b x y q r e1' e2' l1 l2 hq hr hqr

theorem Fine.refl (K : Ctx) (w : World) {es : List Event} (he : ∀ e ∈ es, EvF K w.heap.size e) : Fine K w w es := ⟨Nat.le_refl _, fun _ _ _ => rfl, he⟩
theorem Fine.trans {w1 w2 w3 : World} {e1 e2 : List Event} (h1 : Fine K w1 w2 e1) (h2 : Fine K w2 w3 e2) : Fine K w1 w3 (e1 ++ e2) :=
  ⟨Nat.le_trans h1.size h2.size, fun b hb hn => (h2.kept b (Nat.lt_of_lt_of_le hb h1.size) hn).trans (h1.kept b hb hn), fun e he => by
    rcases List.mem_append.1 he with he | he
    · exact (h1.evs e he).mono h2.size
    · exact h2.evs e he⟩
theorem Fine.drawn (K : Ctx) (w : World) (d : Nat) : Fine K w { w with drawn := d } [] := ⟨Nat.le_refl _, fun _ _ _ => rfl, by simp⟩
end
end Go.Ev
/- The operations that change the heap: new objects, stores. -/
namespace Go.Ev
section
variable {P : Program} {K : Ctx} {ι : Nm} {h : AH} {w : World} {E : Env}

def LOk (P : Program) (K : Ctx) (ι : Nm) (h : AH) (w : World) (s : Sem Value) (v : AV) (h' : AH) : Prop := Free ι h.nx h'.nx →
  ∃ ι' w' nv es, SRun P s w nv w' es ∧ Grow ι ι' h.nx h'.nx ∧ Sat K ι' h' w' ∧ RV ι' v nv ∧ Fine K w w' es ∧ h'.df = h.df
def UOk (P : Program) (K : Ctx) (ι : Nm) (h : AH) (w : World) (s : Sem Unit) (h' : AH) : Prop := Free ι h.nx h'.nx →
  ∃ ι' w' es, SRun P s w () w' es ∧ Grow ι ι' h.nx h'.nx ∧ Sat K ι' h' w' ∧ Fine K w w' es ∧ h'.df = h.df

theorem LOk.bind0 {α : Type} {s : Sem α} {f : α → Sem Value} {x : α} {a : AV} {h' : AH} (h1 : SRun P s w x w []) (h2 : LOk P K ι h w (f x) a h') : LOk P K ι h w (s >>= f) a h' := fun hf => by
  obtain ⟨ι', w', nv, es, h3, h4⟩ := h2 hf
  exact ⟨ι', w', nv, es, SRun.bind0 h1 h3, h4⟩
theorem LOk.bindE {α : Type} {s : Sem α} {f : α → Sem Value} {x : α} {a : AV} {h' : AH} {e1 : List Event} (h1 : SRun P s w x w e1) (he : ∀ e ∈ e1, EvF K w.heap.size e) (h2 : LOk P K ι h w (f x) a h') : LOk P K ι h w (s >>= f) a h' := fun hf => by
  obtain ⟨ι', w', nv, es, h3, h4, h5, h6, h7, h8⟩ := h2 hf
  exact ⟨ι', w', nv, e1 ++ es, SRun.bind h1 h3, h4, h5, h6, (Fine.refl K w he).trans h7, h8⟩
theorem UOk.bind0 {α : Type} {s : Sem α} {f : α → Sem Unit} {x : α} {h' : AH} (h1 : SRun P s w x w []) (h2 : UOk P K ι h w (f x) h') : UOk P K ι h w (s >>= f) h' := fun hf => by
  obtain ⟨ι', w', es, h3, h4⟩ := h2 hf
  exact ⟨ι', w', es, SRun.bind0 h1 h3, h4⟩
theorem UOk.bindE {α : Type} {s : Sem α} {f : α → Sem Unit} {x : α} {h' : AH} {e1 : List Event} (h1 : SRun P s w x w e1) (he : ∀ e ∈ e1, EvF K w.heap.size e) (h2 : UOk P K ι h w (f x) h') : UOk P K ι h w (s >>= f) h' := fun hf => by
  obtain ⟨ι', w', es, h3, h4, h5, h6, h7⟩ := h2 hf
  exact ⟨ι', w', e1 ++ es, SRun.bind h1 h3, h4, h5, (Fine.refl K w he).trans h6, h7⟩
/-- A change, then a value that is there already. -/
theorem UOk.val {s : Sem Unit} {h' : AH} {f : Unit → Sem Value} {v : AV} {u : Value} (h1 : UOk P K ι h w s h') (hv : ∀ ι', Ext ι ι' → RV ι' v u) (hf : ∀ w, SRun P (f ()) w u w []) : LOk P K ι h w (s >>= f) v h' := fun hfr => by
  obtain ⟨ι', w', es, h3, h4, h5, h6, h7⟩ := h1 hfr
  exact ⟨ι', w', u, es, by simpa using SRun.bind h3 (hf w'), h4, h5, hv ι' (h4.ext hfr), h6, h7⟩

theorem RO_cells {cap : Nat} {vs : List AV} {c : Array Value} {el : TypeId} (h : RVs ι vs c.toList) : RO P ι cap (.cells vs el false false) (.cells c el (0, 0)) :=
  ⟨c, 0, 0, rfl, ⟨c.toList, [], by simp, h⟩, fun _ => by have := h.length; simp at this; omega, fun h => (by cases h), fun _ => ⟨fun o _ => by omega, fun _ => ⟨rfl, rfl⟩⟩⟩

/-- A new row of cells. -/
theorem newRow_ok (S : Sat K ι h w) (hf : ι h.nx = none) {vs : List AV} {c : Array Value} {el : TypeId} (hv : RVs ι vs c.toList) :
    ∃ ι' w', SRun P (newRow el c) w ⟨w.heap.size, 0, none⟩ w' [] ∧ Grow ι ι' h.nx (h.nx + 1) ∧ Sat K ι' (h.new (.cells vs el false false)) w' ∧ (∃ k, ι' h.nx = some (w.heap.size, k)) ∧ Fine K w w' [] := by
  have hE : Ext ι (upd ι h.nx (w.heap.size, 0)) := ext_upd hf
  refine ⟨upd ι h.nx (w.heap.size, 0), _, ?_, Grow.upd, S.newO hf (cap := 0) (RO_cells (hv.mono hE)), ⟨0, upd_self _ _ _⟩, Fine.newO _ K⟩
  unfold newRow
  exact SRun.bind (e1 := []) (e2 := []) (SRun.new _) (SRun.pure _)

theorem free_new {o : AO} (hf : Free ι h.nx (h.new o).nx) : ι h.nx = none := hf _ (Nat.le_refl _) (by rw [AH.new_nx]; omega)

/-- A new row, and what is told of it. -/
theorem LOk_newRow (S : Sat K ι h w) {vs : List AV} {c : Array Value} {el : TypeId} (hv : RVs ι vs c.toList) {f : Addr → Sem Value} {a : AV} (g : Nat → Value)
    (hf : ∀ b w, SRun P (f ⟨b, 0, none⟩) w (g b) w []) (ha : ∀ ι' k b, ι' h.nx = some (b, k) → RV ι' a (g b)) :
    LOk P K ι h w (newRow el c >>= f) a (h.new (.cells vs el false false)) := fun hfr => by
  obtain ⟨ι', w', h1, h2, h3, ⟨k, h4⟩, h5⟩ := newRow_ok (P := P) (el := el) S (free_new hfr) hv
  exact ⟨ι', w', _, [], by simpa using SRun.bind h1 (hf _ w'), by rw [AH.new_nx]; exact h2, h3, ha _ _ _ h4, h5, AH.new_df⟩

theorem allocA_ok (F : Fits P E) (S : Sat K ι h w) {t : TypeId} {v : AV} {h' : AH} (e : allocA E h t = some (.val v h')) : LOk P K ι h w (Instr.alloc t true (.tuple #[])) v h' := by
  unfold allocA at e
  split at e
  · rename_i ti ht
    cases e
    obtain ⟨z, hz, _, hzc, _⟩ := zeroV_cells (w := w) (ι := ι) F ht
    refine LOk.bind0 hz ?_
    exact LOk_newRow S hzc (fun b => .pointer (some ⟨b, 0, none⟩)) (fun b w => SRun.pure _) (fun ι' k b hk => RV_ptr hk)
  · cases e

theorem boxA_ok (S : Sat K ι h w) {t : TypeId} {x v : AV} {u : Value} {h' : AH} (e : boxA E h t x = some (.val v h')) (hu : RV ι x u) : LOk P K ι h w (Instr.box t u) v h' := by
  unfold boxA at e
  split at e
  · rename_i ti ht
    obtain ⟨ha, e⟩ := cond_none_some e
    cases e
    have hc : RVs ι x.cells u.cells.toList := hu.cells (.inl ha)
    exact LOk_newRow S hc (fun b => .pointer (some ⟨b, 0, none⟩)) (fun b w => SRun.pure _) (fun ι' k b hk => RV_ptr hk)
  · cases e

/-! ### stores -/
def wr (c : Array Value) (off : Nat) : List Value → Array Value
  | [] => c
  | v :: vs => wr (c.setIfInBounds off v) (off + 1) vs

theorem wr_size (c : Array Value) (off : Nat) (vs : List Value) : (wr c off vs).size = c.size := by
  induction vs generalizing c off with
  | nil => rfl
  | cons v vs ih => rw [wr, ih]; simp

theorem scal_head {a : AV} {l : List AV} (h : scalL (a :: l) = true) {v : Value} (hv : RV ι a v) : (∀ cs, v ≠ .agg cs) ∧ (∀ cs, v ≠ .tuple cs) := by
  unfold scalL at h
  rw [Bool.and_eq_true] at h
  have h := h.1
  cases a <;> first
    | exact absurd h Bool.false_ne_true
    | (unfold RV at hv
       first
         | (refine ⟨fun cs h => ?_, fun cs h => ?_⟩ <;> (subst h; cases (hv : false = true)))
         | (subst hv; exact ⟨fun _ h => (by cases h), fun _ h => (by cases h)⟩)
         | (obtain ⟨_, _, rfl⟩ := hv; exact ⟨fun _ h => (by cases h), fun _ h => (by cases h)⟩)
         | (obtain ⟨_, _, _, rfl, _⟩ := hv; exact ⟨fun _ h => (by cases h), fun _ h => (by cases h)⟩)
         | (obtain ⟨_, _, rfl, _⟩ := hv; exact ⟨fun _ h => (by cases h), fun _ h => (by cases h)⟩)
         | (obtain ⟨_, rfl, _⟩ := hv; exact ⟨fun _ h => (by cases h), fun _ h => (by cases h)⟩))

theorem setCell_eq {b off : Nat} {c : Array Value} {T : TypeId} {fz : Nat × Nat} (hb : w.heap[b]? = some (.cells c T fz)) (v : Value) :
    w.setCell ⟨b, off, none⟩ v = { w with heap := w.heap.setIfInBounds b (.cells (c.setIfInBounds off v) T fz) } := by
  unfold World.setCell
  congr 1
  apply Array.ext_getElem?
  intro i
  rw [Array.getElem?_modify]
  by_cases h : b = i
  · subst h
    obtain ⟨hlt, hb2⟩ := Array.getElem?_eq_some_iff.1 hb
    simp [hlt, hb2]
  · simp [h]

/-- Storing cells one behind the other. -/
theorem SRun_storeCells {b off : Nat} {T : TypeId} {lo hi : Nat} : ∀ (as : List AV) (vs : List Value) (k : Nat) (w : World) (c : Array Value), RVs ι as vs → scalL as = true →
    w.heap[b]? = some (.cells c T (lo, hi)) → off + k + vs.length ≤ c.size → (∀ o, o < c.size → ¬ (lo ≤ o ∧ o < hi)) →
    ∃ es, SRun P (storeCells ⟨b, off, none⟩ vs k) w () { w with heap := w.heap.setIfInBounds b (.cells (wr c (off + k) vs) T (lo, hi)) } es ∧ ∀ e ∈ es, ∃ o, e = ⟨.cell ⟨b, o, none⟩, true, false⟩
  | [], vs, k, w, c, hv, _, hb, _, _ => by
    rw [RVs_nil_inv hv]
    have hlt : b < w.heap.size := by rw [Array.getElem?_eq_some_iff] at hb; exact hb.1
    have : w.heap.setIfInBounds b (.cells (wr c (off + k) []) T (lo, hi)) = w.heap := by
      apply Array.ext_getElem?
      intro i
      rw [Array.getElem?_setIfInBounds]
      split
      · rename_i h; subst h
        rw [hb]; rfl
      · rfl
    rw [this]
    exact ⟨[], SRun.pure _, by simp⟩
  | a :: as, vs, k, w, c, hv, hs, hb, hle, hf => by
    obtain ⟨v, r, rfl, h1, h2⟩ := RVs_cons_inv hv
    obtain ⟨n1, n2⟩ := scal_head hs h1
    have hs' : scalL as = true := by unfold scalL at hs; rw [Bool.and_eq_true] at hs; exact hs.2
    have hlt : b < w.heap.size := by rw [Array.getElem?_eq_some_iff] at hb; exact hb.1
    have hk : off + k < c.size := by simp at hle; omega
    have hcell : w.cell? ⟨b, off + k, none⟩ = some c[off + k] := by rw [cell_of hb]; simp [hk]
    have hfr : w.frozen? ⟨b, off + k, none⟩ = false := by
      rw [frozen_of hb]
      have := hf _ hk
      by_cases h3 : lo ≤ off + k
      · simp only [h3, decide_true, Bool.true_and, decide_eq_false_iff_not]; omega
      · simp [h3]
    have h3 := SRun.store (P := P) hcell hfr n1 n2
    rw [setCell_eq hb] at h3
    obtain ⟨es, h4, h5⟩ := SRun_storeCells (b := b) (off := off) (T := T) (lo := lo) (hi := hi) as r (k + 1) { w with heap := w.heap.setIfInBounds b (.cells (c.setIfInBounds (off + k) v) T (lo, hi)) } (c.setIfInBounds (off + k) v) h2 hs'
      (by simp [hlt]) (by simp only [List.length_cons] at hle; simp only [Array.size_setIfInBounds]; omega) (fun o ho => hf o (by simpa using ho))
    refine ⟨_, by
      unfold storeCells
      rw [add_none]
      have := SRun.bind (f := fun _ => storeCells ⟨b, off, none⟩ r (k + 1)) h3 h4
      rw [show wr c (off + k) (v :: r) = wr (c.setIfInBounds (off + k) v) (off + (k + 1)) r from rfl]
      have e2 : (w.heap.setIfInBounds b (.cells (c.setIfInBounds (off + k) v) T (lo, hi))).setIfInBounds b (.cells (wr (c.setIfInBounds (off + k) v) (off + (k + 1)) r) T (lo, hi)) = w.heap.setIfInBounds b (.cells (wr (c.setIfInBounds (off + k) v) (off + (k + 1)) r) T (lo, hi)) := by
        apply Array.ext_getElem?
        intro i
        simp only [Array.getElem?_setIfInBounds]
        split <;> simp_all
      simp only [e2] at this
      exact this, ?_⟩
    intro e he
    rcases List.mem_append.1 he with he | he
    · simp at he; subst he; exact ⟨_, rfl⟩
    · exact h5 e he

theorem RVs_wr {as : List AV} {vs : List Value} {l : List AV} {c : Array Value} {l2 : List Value} {off : Nat} (h : RVs ι as vs) (hc : ∃ l1, c.toList = l1 ++ l2 ∧ RVs ι l l1) (hle : off + vs.length ≤ l.length) :
    ∃ l1, (wr c off vs).toList = l1 ++ l2 ∧ RVs ι (setAt l off as) l1 := by
  induction as generalizing vs l c off with
  | nil => rw [RVs_nil_inv h]; exact hc
  | cons a as ih =>
    obtain ⟨v, r, rfl, h1, h2⟩ := RVs_cons_inv h
    obtain ⟨l1, e1, e2⟩ := hc
    have hl := e2.length
    refine ih (l := l.set off a) (c := c.setIfInBounds off v) (off := off + 1) h2 ⟨l1.set off v, ?_, e2.set _ h1⟩ (by simp at hle ⊢; omega)
    rw [Array.toList_setIfInBounds, e1, List.set_append_left]
    simp at hle; omega

theorem storeC_ok (S : Sat K ι h w) {id off : Nat} {as : List AV} {h' : AH} {p : Nat × Nat} (hp : ι id = some p) (e : storeC h id off as = some h') {vs : List Value} (hv : RVs ι as vs) :
    UOk P K ι h w (storeCells ⟨p.1, off, none⟩ vs 0) h' := fun _ => by
  unfold storeC at e
  split at e
  · rename_i l el g ho
    obtain ⟨hc, rfl⟩ := cond_some e
    rw [Bool.and_eq_true] at hc
    obtain ⟨hle, hs⟩ := hc
    have hle := Nat.le_of_ble_eq_true hle
    obtain ⟨q, ob, hq, hb1, hown, hlt, hb, c, lo, hi, rfl, ⟨l1, l2, hc, hl⟩, h1, h2, h3⟩ := S.at ho trivial
    obtain rfl : p = q := by rw [hp] at hq; exact Option.some.inj hq
    have hlen := hv.length
    have hl1 := hl.length
    have hsz : c.size = l1.length + l2.length := by have := congrArg List.length hc; simpa using this
    obtain ⟨es, g1, g2⟩ := SRun_storeCells (P := P) (ι := ι) (b := p.1) (off := off) (T := el) (lo := lo) (hi := hi) as vs 0 w c hv hs hb (by omega) (h3 rfl).1
    obtain ⟨m1, e1, e2⟩ := RVs_wr (c := c) (off := off) (l2 := l2) hv ⟨l1, hc, hl⟩ (by omega)
    refine ⟨ι, _, es, g1, by rw [AH.put_nx]; exact Grow.refl _ _, S.putO hp (AH.obj_live ho trivial) trivial ⟨wr c off vs, lo, hi, rfl, ⟨m1, l2, e1, e2⟩, fun hg => ?_, fun hg => ?_, fun hz => ⟨fun o ho => ?_, (h3 hz).2⟩⟩, Fine.putO _ hb1 hown ?_, AH.put_df⟩
    · rw [wr_size, setAt_length]; exact h1 hg
    · rw [wr_size]; exact h2 hg
    · rw [wr_size] at ho; exact (h3 hz).1 o ho
    · intro e he
      obtain ⟨o, rfl⟩ := g2 e he
      exact ⟨hb1, hown, hlt⟩
  · cases e

theorem storeA_ok (F : Fits P E) (S : Sat K ι h w) {t : TypeId} {a x v : AV} {h' : AH} (e : storeA E h t a x = some (.val v h')) {u y : Value} (hu : RV ι a u) (hy : RV ι x y) :
    UOk P K ι h w (Instr.storeAt t u y) h' ∧ v = undefA := by
  unfold storeA at e
  split at e
  · rename_i ti id off ht
    obtain ⟨ha, e⟩ := cond_none_some e
    obtain ⟨hs, e⟩ := condO_some e
    cases hc : storeC h id off x.cells with
    | none => rw [hc] at e; cases e
    | some h1 =>
      rw [hc] at e; cases e
      obtain ⟨p, hp, rfl⟩ := ptr_inv hu
      obtain ⟨hcs, hsz⟩ := cells_size hy ha hs
      refine ⟨?_, rfl⟩
      show UOk P K ι h w (Pure.pure (⟨p.1, off, none⟩ : Addr) >>= fun a => storeVar t a y) h'
      refine UOk.bind0 (SRun.pure _) ?_
      unfold storeVar
      refine UOk.bind0 (SRun_sizeOf (tt_of F ht)) ?_
      simp only [hsz, ne_eq, not_true_eq_false, if_false]
      exact storeC_ok S hp hc hcs
  · cases e
end
end Go.Ev
