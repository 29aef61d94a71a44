/- A part of the proof that the law ProofNil returns true for every input (its card: YtfemddccapnonaaGreatDoorMyCard): EvQuiet5, EvQuiet6, EvQuiet7, EvQuiet8, EvHeap, EvLoud. Conditions: those of the given row alone. -/
import Derived.Test.YtfemddccapnonaaGreatDoorEv1
import Derived.Laws.Sem
import Derived.IntWalk
namespace Go.Ev
section
variable {P : Program} {K : Ctx} {ι : Nm} {h : AH} {w : World} {E : Env}
theorem QOk.keep (hP : K.P = P) {s : Sem Value} {a : AV} (h : QOk P K ι w s a) : QOk P K ι w s a := h
theorem SRun.getObjE {r : Nat} {o : Obj} (hg : w.heap[r]? = some o) (hc : ∀ c e f, o ≠ .cells c e f) (hs : o.isChan = false) (h1 : K.base ≤ r) (h2 : K.own r) :
    SRun P (Go.getObj r) w o w [⟨.obj r, false, false⟩] ∧ ∀ e ∈ [(⟨.obj r, false, false⟩ : Event)], EvF K w.heap.size e := by
  have h3 : r < w.heap.size := by rw [Array.getElem?_eq_some_iff] at hg; exact hg.1
  refine ⟨by have := SRun.getObj (P := P) hg hc; rw [hs] at this; exact this, fun e he => ?_⟩
  simp at he; subst he
  exact ⟨h1, h2, h3, rfl⟩
theorem convQ_ok (F : Fits P E) {s d : TypeId} {x a : AV} {v : Value} (e : convQ E s d x = some a) (hv : RV ι x v) : QOk P K ι w (convert s d v) a := by
  unfold convQ at e
  split at e
  · rename_i sd k k' n hs hd
    cases e
    obtain rfl := int_inv hv
    obtain ⟨ti, _, _, H⟩ := d_of F hs
    obtain ⟨d', h3, _⟩ := H.desc
    unfold convert
    refine QOk.bind0 (SRun.underlying h3) ?_
    refine QOk.bind0 (SRun.underlying (desc_int F hd)) ?_
    exact QOk.pure RV_int
  · rename_i s' hs hd
    cases e
    obtain rfl := str_inv hv
    unfold convert
    refine QOk.bind0 (SRun.underlying (desc_str F hs)) ?_
    refine QOk.bind0 (SRun.underlying (desc_str F hd)) ?_
    exact QOk.pure RV_str
  · cases e
theorem REs.length {l : List AE} {es : List MapEntry} (hr : REs ι l es) : l.length = es.length := by
  induction l generalizing es with
  | nil => rw [show es = [] from hr]; rfl
  | cons a l ih => obtain ⟨e, r, rfl, _, _, _, h4⟩ := hr; simp [ih h4]
theorem lenA_ok (hP : K.P = P) (F : Fits P E) (S : Sat K ι h w) {t ty : TypeId} {x a : AV} {v : Value} (e : lenA E h t x = some a) (hv : RV ι x v) : QOk P K ι w (Builtin.len_ #[t] ty #[v]) a := by
  unfold lenA at e
  unfold Builtin.len_
  split at e
  · rename_i s hd
    cases e
    obtain rfl := str_inv hv
    refine QOk.bind0 (SRun.underlying (desc_str F hd)) ?_
    have : (s.length : Int) = ((⟨s.toArray⟩ : ByteArray).size : Int) := by rw [size_mk]
    unfold int64; rw [this]
    exact QOk.pure RV_int
  · rename_i n e' hd
    cases e
    refine QOk.bind0 (SRun.underlying (desc_array F hd)) ?_
    exact QOk.pure RV_int
  · rename_i el hd
    cases e
    unfold RV at hv; subst hv
    refine QOk.bind0 (SRun.underlying (desc_slice F hd)) ?_
    exact QOk.pure RV_int
  · rename_i el hd
    cases e
    unfold RV at hv; obtain ⟨b, c, rfl⟩ := hv
    refine QOk.bind0 (SRun.underlying (desc_slice F hd)) ?_
    exact QOk.pure RV_int
  · rename_i el a n c hd
    cases e
    unfold RV at hv; obtain ⟨rfl, _⟩ := hv
    refine QOk.bind0 (SRun.underlying (desc_slice F hd)) ?_
    exact QOk.pure RV_int
  · rename_i el id off n cap hd
    cases e
    obtain ⟨p, _, c, rfl, _⟩ := sl_inv hv
    refine QOk.bind0 (SRun.underlying (desc_slice F hd)) ?_
    exact QOk.pure RV_int
  · rename_i kt el hd
    cases e
    unfold RV at hv; subst hv
    refine QOk.bind0 (SRun.underlying (desc_map F hd).1) ?_
    exact QOk.pure RV_int
  · rename_i kt el id hd
    split at e
    · rename_i es ck ho
      cases e
      obtain ⟨p, hp, rfl⟩ := map_inv hv
      obtain ⟨q, ob, hq, b1, b2, b3, hb, es', rfl, hr⟩ := S.at ho trivial
      obtain rfl : p = q := by rw [hp] at hq; exact Option.some.inj hq
      obtain ⟨g1, g2⟩ := SRun.getObjE (P := P) (K := K) hb (by simp) rfl b1 b2
      refine QOk.bind0 (SRun.underlying (desc_map F hd).1) ?_
      refine QOk.bindE g1 g2 ?_
      have : (es.length : Int) = (es'.size : Int) := by rw [hr.length]; simp
      unfold int64; rw [this]
      exact QOk.pure RV_int
    · cases e
  · cases e
theorem nilCheckA_ok {x a : AV} {v : Value} (e : nilCheckA x = some a) (hv : RV ι x v) {o : Oper} {y : Operand} {ρ : Operand → Value} (hρ : ρ y = v) (ho : o.op = .nilCheck y) :
    ∃ es, SRun P (execOp ρ o) w (.value v) w es ∧ RV ι a v ∧ es = [] := by
  unfold nilCheckA at e
  unfold execOp
  simp only [ho, hρ]
  split at e
  · cases e
    obtain ⟨p, hp, rfl⟩ := ptr_inv hv
    exact ⟨[], SRun.pure _, RV_ptr hp, rfl⟩
  · cases e
    have hv' := hv
    obtain ⟨as, bs, rfl, _⟩ := fn_inv hv
    exact ⟨[], SRun.pure _, hv', rfl⟩
  · cases e
    have hv' := hv
    obtain ⟨x', rfl, _⟩ := iface_inv hv
    exact ⟨[], SRun.pure _, hv', rfl⟩
  · cases e
    have hv' := hv
    unfold RV at hv; obtain ⟨p, _, rfl⟩ := hv
    exact ⟨[], SRun.pure _, hv', rfl⟩
  · cases e
theorem bound_ok {lo hi : Nat} {x : AV} {k : Nat} {v : Value} {c : BoundsCode} (e : boundOk lo hi x = some k) (hv : RV ι x v) : SRun P (Instr.sliceBound v hi c) w k w [] ∧ k ≤ hi ∧ lo ≤ k := by
  unfold boundOk at e
  split at e
  · rename_i kd i
    obtain ⟨hb, rfl⟩ := cond_some e
    have hb := of_decide_eq_true hb
    obtain rfl := int_inv hv
    refine ⟨?_, by omega, by omega⟩
    unfold Instr.sliceBound
    refine SRun.bind0 (a := (kd, i)) (SRun.pure _) ?_
    have h2 : 0 ≤ i ∧ i ≤ (hi : Int) := by omega
    simp only [if_pos h2]
    exact SRun.pure _
  · cases e
def RVo (ι : Nm) : Option AV → Option Value → Prop
  | none, v => v = none
  | some a, v => ∃ u, v = some u ∧ RV ι a u
theorem bound_ok' {lo hi y : Nat} {x : AV} {k : Nat} {v : Value} {c : BoundsCode} (hy : hi ≤ y) (e : boundOk lo hi x = some k) (hv : RV ι x v) : SRun P (Instr.sliceBound v y c) w k w [] ∧ k ≤ hi := by
  unfold boundOk at e
  split at e
  · rename_i kd i
    obtain ⟨hb, rfl⟩ := cond_some e
    have hb := of_decide_eq_true hb
    obtain rfl := int_inv hv
    refine ⟨?_, by omega⟩
    unfold Instr.sliceBound
    refine SRun.bind0 (a := (kd, i)) (SRun.pure _) ?_
    have h2 : 0 ≤ i ∧ i ≤ (y : Int) := by omega
    simp only [if_pos h2]
    exact SRun.pure _
  · cases e
theorem lo_ok {lo : Option AV} {vlo : Option Value} {h l : Nat} {c : BoundsCode} (e : bndA lo h 0 = some l) (hv : RVo ι lo vlo) :
    SRun P (match vlo with | some v => Instr.sliceBound v h c | none => pure 0) w l w [] ∧ l ≤ h := by
  cases lo with
  | none => obtain rfl : vlo = none := hv; cases e; exact ⟨SRun.pure _, Nat.zero_le _⟩
  | some x =>
    obtain ⟨u, rfl, hu⟩ := hv
    obtain ⟨h1, h2, _⟩ := bound_ok (P := P) (w := w) (c := c) e hu
    exact ⟨h1, h2⟩
def mxOk (cap m : Nat) (mx : Option AV) : Prop := match mx with | some x => ∃ M, boundOk 0 M x = some m ∧ M ≤ cap | none => m = cap
theorem bounds_ok {isS : Bool} {len cap : Nat} {lo hi mx : Option AV} {vlo vhi vmx : Option Value} {m h l H : Nat} (rlo : RVo ι lo vlo) (rhi : RVo ι hi vhi) (rmx : RVo ι mx vmx)
    (hm : mxOk cap m mx) (hh : hiA hi H len mx.isSome = some h) (hH : H ≤ m) (hl : bndA lo h 0 = some l) :
    SRun P (Instr.sliceBounds isS len cap vlo vhi vmx) w (l, h, m) w [] ∧ l ≤ h ∧ (h ≤ H ∨ h = len) := by
  have hlo := fun c => lo_ok (P := P) (w := w) (c := c) hl rlo
  have hhH : h ≤ H ∨ h = len := by
    cases hi with
    | none => simp only [hiA] at hh; obtain ⟨_, hh⟩ := cond_none_some hh; cases hh; exact .inr rfl
    | some x =>
      unfold hiA boundOk at hh
      simp only at hh
      split at hh
      · obtain ⟨hb, rfl⟩ := cond_some hh
        have hb := of_decide_eq_true hb
        exact .inl (by omega)
      · cases hh
  refine ⟨?_, (hlo .sliceB).2, hhH⟩
  have third : ∀ c, SRun P (match vlo with | some v => Instr.sliceBound v h c | none => pure 0) w l w [] := fun c => (hlo c).1
  cases mx with
  | none =>
    obtain rfl : vmx = none := rmx
    obtain rfl : m = cap := hm
    cases hi with
    | none =>
      obtain rfl : vhi = none := rhi
      cases hh
      cases vlo with
      | none => exact SRun.bind0 (SRun.pure _) (SRun.bind0 (SRun.pure _) (SRun.bind0 (third .sliceB) (SRun.pure _)))
      | some z => exact SRun.bind0 (SRun.pure _) (SRun.bind0 (SRun.pure _) (SRun.bind0 (third .sliceB) (SRun.pure _)))
    | some x =>
      obtain ⟨u, rfl, hu⟩ := rhi
      cases vlo with
      | none => exact SRun.bind0 (SRun.pure _) (SRun.bind0 (bound_ok' hH hh hu).1 (SRun.bind0 (third .sliceB) (SRun.pure _)))
      | some z => exact SRun.bind0 (SRun.pure _) (SRun.bind0 (bound_ok' hH hh hu).1 (SRun.bind0 (third .sliceB) (SRun.pure _)))
  | some y =>
    obtain ⟨z', rfl, hz⟩ := rmx
    obtain ⟨M, h1, h2⟩ := hm
    cases hi with
    | none => cases hh
    | some x =>
      obtain ⟨u, rfl, hu⟩ := rhi
      cases vlo with
      | none => exact SRun.bind0 (bound_ok' h2 h1 hz).1 (SRun.bind0 (bound_ok' hH hh hu).1 (SRun.bind0 (third .slice3C) (SRun.pure _)))
      | some z => exact SRun.bind0 (bound_ok' h2 h1 hz).1 (SRun.bind0 (bound_ok' hH hh hu).1 (SRun.bind0 (third .slice3C) (SRun.pure _)))
theorem extract_mk (s : List UInt8) (l h : Nat) : (⟨s.toArray⟩ : ByteArray).extract l h = ⟨((s.take h).drop l).toArray⟩ := by
  apply ByteArray.ext
  simp [List.extract_eq_take_drop, List.drop_take]
theorem slice_place {p : Nat × Nat} {off l m size : Nat} : (if m = l then (⟨p.1, off, none⟩ : Addr) else (⟨p.1, off, none⟩ : Addr).add (l * size)) = ⟨p.1, cond (Nat.beq m l) off (off + l * size), none⟩ := by
  by_cases h : m = l
  · subst h; simp
  · have : Nat.beq m l = false := by cases hc : Nat.beq m l with | false => rfl | true => exact absurd (Nat.eq_of_beq_eq_true hc) h
    rw [if_neg h, this, add_none]; rfl
theorem sliceK_ok {id off size len cap m : Nat} {lo hi mx : Option AV} {vlo vhi vmx : Option Value} {a : AV} {p : Nat × Nat} (hp : ι id = some p) {isS : Bool}
    (e : sliceK id off size len m lo hi mx.isSome = some a) (hm : mxOk cap m mx) (hmc : len ≤ m ∨ mx.isSome = true) (rlo : RVo ι lo vlo) (rhi : RVo ι hi vhi) (rmx : RVo ι mx vmx) :
    ∃ l h, SRun P (Instr.sliceBounds isS len cap vlo vhi vmx) w (l, h, m) w [] ∧ RV ι a (.slice (some (if m = l then (⟨p.1, off, none⟩ : Addr) else (⟨p.1, off, none⟩ : Addr).add (l * size))) (h - l) (m - l)) := by
  unfold sliceK at e
  split at e
  · cases e
  · rename_i h hh
    split at e
    · cases e
    · rename_i l hl
      cases e
      obtain ⟨h1, h2, h3⟩ := bounds_ok (P := P) (w := w) (isS := isS) (cap := cap) rlo rhi rmx hm hh (Nat.le_refl _) hl
      refine ⟨l, h, h1, ?_⟩
      rw [slice_place]
      unfold RV
      refine ⟨p, hp, m - l, rfl, ?_, fun k hk => (Option.some.inj hk), fun hk => (by cases hk)⟩
      have : h ≤ m := by
        rcases h3 with h3 | h3
        · exact h3
        · rcases hmc with h4 | h4
          · omega
          · cases hi with
            | none => rw [h4] at hh; cases hh
            | some x =>
              unfold hiA boundOk at hh
              simp only at hh
              split at hh
              · obtain ⟨hb, rfl⟩ := cond_some hh
                have hb := of_decide_eq_true hb
                omega
              · cases hh
      omega
theorem sliceA_ok (F : Fits P E) {t : TypeId} {x a : AV} {lo hi mx : Option AV} {v : Value} {vlo vhi vmx : Option Value} (e : sliceA E t x lo hi mx = some a) (hv : RV ι x v)
    (rlo : RVo ι lo vlo) (rhi : RVo ι hi vhi) (rmx : RVo ι mx vmx) : QOk P K ι w (Instr.sliceAt t v vlo vhi vmx) a := by
  unfold sliceA at e
  unfold Instr.sliceAt
  have nomx : mx.isSome = false → mx = none ∧ vmx = none := by
    intro h; cases mx with
    | none => exact ⟨rfl, rmx⟩
    | some _ => cases h
  split at e
  ·
    rename_i s hd
    obtain rfl := str_inv hv
    obtain ⟨hm, e⟩ := cond_none_some e
    obtain ⟨rfl, rfl⟩ := nomx hm
    unfold sliceStr at e
    split at e
    · cases e
    · rename_i h hh
      split at e
      · cases e
      · rename_i l hl
        cases e
        refine QOk.bind0 (SRun.underlying (desc_str F hd)) ?_
        simp only
        unfold Instr.slice
        refine QOk.bind0 (SRun.underlying (desc_str F hd)) ?_
        simp only [Option.isSome_none, Bool.false_eq_true, if_false]
        rw [size_mk]
        refine QOk.bind0 (bounds_ok (isS := false) (len := s.length) (cap := s.length) (m := s.length) (h := h) (l := l) (H := s.length) rlo rhi (show RVo ι none none from rfl) rfl hh (Nat.le_refl _) hl).1 ?_
        simp only [extract_mk]
        exact QOk.pure RV_str
  ·
    rename_i el hd
    unfold RV at hv; subst hv
    split at e
    · rename_i ei m h l hel hm hh hl
      cases e
      have h0 : h = 0 := by
        cases hi with
        | none => simp only [hiA] at hh; obtain ⟨_, hh⟩ := cond_none_some hh; cases hh; rfl
        | some x =>
          unfold hiA boundOk at hh
          simp only at hh
          split at hh
          · obtain ⟨hb, rfl⟩ := cond_some hh
            have hb := of_decide_eq_true hb
            omega
          · cases hh
      subst h0
      have m0 : m = 0 := by
        cases mx with
        | none => cases hm; rfl
        | some x =>
          unfold bndA boundOk at hm
          simp only at hm
          split at hm
          · obtain ⟨hb, rfl⟩ := cond_some hm
            have hb := of_decide_eq_true hb
            omega
          · cases hm
      subst m0
      have hmx : mxOk 0 0 mx := by
        cases mx with
        | none => rfl
        | some x => exact ⟨0, hm, Nat.le_refl _⟩
      obtain ⟨h1, h2, _⟩ := bounds_ok (P := P) (w := w) (isS := true) (len := 0) (cap := 0) (m := 0) (h := 0) (l := l) (H := 0) rlo rhi rmx hmx hh (Nat.le_refl _) hl
      obtain rfl : l = 0 := by omega
      refine QOk.bind0 (SRun.underlying (desc_slice F hd)) ?_
      simp only
      unfold Instr.slice
      refine QOk.bind0 (SRun.underlying (desc_slice F hd)) ?_
      refine QOk.bind0 h1 ?_
      refine QOk.bind0 (SRun_sizeOf (tt_of F hel)) ?_
      exact QOk.pure (by unfold RV; rfl)
    · cases e
  ·
    rename_i n el id off hd
    obtain ⟨p, hp, rfl⟩ := ptr_inv hv
    split at e
    · rename_i ei m he hm
      refine QOk.bind0 (SRun.underlying (desc_array F hd)) ?_
      refine QOk.bind0 (x := (⟨p.1, off, none⟩ : Addr)) (SRun.pure _) ?_
      have hmx : mxOk n m mx := by
        cases mx with
        | none => cases hm; rfl
        | some x => exact ⟨n, hm, Nat.le_refl _⟩
      obtain ⟨l, h, h1, h2⟩ := sliceK_ok (P := P) (w := w) (isS := false) hp e hmx (by cases mx with | none => cases hm; exact .inl (Nat.le_refl _) | some _ => exact .inr rfl) rlo rhi rmx
      refine QOk.bind0 h1 ?_
      refine QOk.bind0 (SRun_sizeOf (tt_of F he)) ?_
      exact QOk.pure h2
    · cases e
  ·
    rename_i el id off len c hd
    obtain ⟨p, hp, cap, rfl, hle, hc, _⟩ := sl_inv hv
    obtain rfl := hc c rfl
    split at e
    · rename_i ei m he hm
      refine QOk.bind0 (SRun.underlying (desc_slice F hd)) ?_
      simp only
      unfold Instr.slice
      refine QOk.bind0 (SRun.underlying (desc_slice F hd)) ?_
      have hmx : mxOk cap m mx := by
        cases mx with
        | none => cases hm; rfl
        | some x => exact ⟨cap, hm, Nat.le_refl _⟩
      obtain ⟨l, h, h1, h2⟩ := sliceK_ok (P := P) (w := w) (isS := true) hp e hmx (by cases mx with | none => cases hm; exact .inl hle | some _ => exact .inr rfl) rlo rhi rmx
      refine QOk.bind0 h1 ?_
      refine QOk.bind0 (SRun_sizeOf (tt_of F he)) ?_
      have : (if m = l then some (⟨p.1, off, none⟩ : Addr) else (some (⟨p.1, off, none⟩ : Addr)).map (·.add (l * ei.size))) = some (if m = l then (⟨p.1, off, none⟩ : Addr) else (⟨p.1, off, none⟩ : Addr).add (l * ei.size)) := by
        split <;> rfl
      simp only [this]
      exact QOk.pure h2
    · cases e
  ·
    rename_i el id off len hd
    obtain ⟨p, hp, cap, rfl, hle, _, hg⟩ := sl_inv hv
    split at e
    · rename_i ei he
      unfold sliceU at e
      split at e
      · cases e
      · rename_i h hh
        split at e
        · cases e
        · rename_i l hl
          obtain rfl : vmx = none := rmx
          obtain ⟨h1, h2, h3⟩ := bounds_ok (P := P) (w := w) (isS := true) (len := len) (cap := cap) (m := cap) (mx := none) rlo rhi (show RVo ι none none from rfl) rfl hh hle hl
          have h4 : h ≤ len := by omega
          refine QOk.bind0 (SRun.underlying (desc_slice F hd)) ?_
          simp only
          unfold Instr.slice
          refine QOk.bind0 (SRun.underlying (desc_slice F hd)) ?_
          refine QOk.bind0 h1 ?_
          refine QOk.bind0 (SRun_sizeOf (tt_of F he)) ?_
          cases hb : Nat.beq l 0 with
          | true =>
            rw [hb, cond_true] at e; cases e
            obtain rfl := Nat.eq_of_beq_eq_true hb
            have : (if cap = 0 then some (⟨p.1, off, none⟩ : Addr) else (some (⟨p.1, off, none⟩ : Addr)).map (·.add (0 * ei.size))) = some ⟨p.1, off, none⟩ := by
              split
              · rfl
              · simp [add_none]
            simp only [this]
            refine QOk.pure ?_
            unfold RV
            exact ⟨p, hp, cap, rfl, by omega, fun k hk => (by cases hk), hg⟩
          | false =>
            rw [hb, cond_false] at e
            have hl0 : l ≠ 0 := fun h => by rw [h] at hb; cases hb
            cases hb2 : Nat.blt l len with
            | true =>
              rw [hb2, cond_true] at e; cases e
              rw [Nat.blt_eq] at hb2
              have hne : ¬ cap = l := by omega
              simp only [if_neg hne, Option.map_some, add_none]
              refine QOk.pure ?_
              unfold RV
              exact ⟨p, hp, cap - l, rfl, by omega, fun k hk => (by cases hk), fun hk h0 => by have := hg hk (by omega); omega⟩
            | false =>
              rw [hb2, cond_false] at e; cases e
              have hb3 : ¬ l < len := fun h => by rw [← Nat.blt_eq] at h; rw [h] at hb2; cases hb2
              refine QOk.pure ?_
              unfold RV
              have hz : h - l = 0 := by omega
              rw [hz]
              exact ⟨_, cap - l, rfl⟩
    · rename_i ei x he
      split at e
      · rename_i m hm
        have hmx : mxOk cap m (some x) := ⟨len, hm, hle⟩
        refine QOk.bind0 (SRun.underlying (desc_slice F hd)) ?_
        simp only
        unfold Instr.slice
        refine QOk.bind0 (SRun.underlying (desc_slice F hd)) ?_
        obtain ⟨l, h, h1, h2⟩ := sliceK_ok (P := P) (w := w) (isS := true) (mx := some x) hp e hmx (.inr rfl) rlo rhi rmx
        refine QOk.bind0 h1 ?_
        refine QOk.bind0 (SRun_sizeOf (tt_of F he)) ?_
        have : (if m = l then some (⟨p.1, off, none⟩ : Addr) else (some (⟨p.1, off, none⟩ : Addr)).map (·.add (l * ei.size))) = some (if m = l then (⟨p.1, off, none⟩ : Addr) else (⟨p.1, off, none⟩ : Addr).add (l * ei.size)) := by
          split <;> rfl
        simp only [this]
        exact QOk.pure h2
      · cases e
    · cases e
  · cases e
end
end Go.Ev
namespace Go.Ev
section
variable {P : Program} {K : Ctx} {ι : Nm} {h : AH} {w : World} {E : Env}
theorem SRun_mapM {α β : Type} {f : α → Sem β} {g : α → β} : ∀ {l : List α}, (∀ x ∈ l, SRun P (f x) w (g x) w []) → SRun P (l.mapM f) w (l.map g) w []
  | [], _ => by rw [List.mapM_nil]; exact SRun.pure _
  | x :: l, h => by
    rw [List.mapM_cons]
    exact SRun.bind0 (h x (by simp)) (SRun.bind0 (SRun_mapM fun y hy => h y (by simp [hy])) (SRun.pure _))
theorem SRun_amapM {α β : Type} {f : α → Sem β} {g : α → β} {l : Array α} (h : ∀ x ∈ l, SRun P (f x) w (g x) w []) : SRun P (l.mapM f) w (l.map g) w [] := by
  rw [Array.mapM_eq_mapM_toList, ← bind_pure_comp]
  have := SRun_mapM (P := P) (w := w) (f := f) (g := g) (l := l.toList) fun x hx => h x (by simpa using hx)
  have h2 := SRun.bind0 this (SRun.pure (P := P) (w := w) ((l.toList.map g).toArray)) (f := fun x => Pure.pure x.toArray)
  have e : (l.toList.map g).toArray = l.map g := by apply Array.ext' ; simp
  rw [e] at h2; exact h2
theorem foldl_set {ι : Nm} : ∀ {as : List AV} {vs : List Value} {l : List AV} {cells : Array Value} (off k : Nat), RVs ι as vs → RVs ι l cells.toList →
    RVs ι (setAt l (off + k) as) ((vs.zipIdx k).foldl (fun cs p => cs.setIfInBounds (off + p.2) p.1) cells).toList
  | [], vs, l, cells, off, k, h1, h2 => by rw [RVs_nil_inv h1]; simpa [setAt] using h2
  | a :: as, _, l, cells, off, k, h1, h2 => by
    obtain ⟨v, r, rfl, h3, h4⟩ := RVs_cons_inv h1
    simp only [List.zipIdx_cons, List.foldl_cons, setAt]
    have := foldl_set (l := l.set (off + k) a) (cells := cells.setIfInBounds (off + k) v) off (k + 1) h4 (by rw [Array.toList_setIfInBounds]; exact h2.set _ h3)
    rw [show off + (k + 1) = off + k + 1 by omega] at this
    exact this
theorem setAt_length : ∀ (as l : List AV) (off : Nat), (setAt l off as).length = l.length
  | [], _, _ => rfl
  | a :: as, l, off => by rw [setAt, setAt_length as]; simp
def RVp (ι : Nm) : List (Nat × AV) → List (Nat × Value) → Prop
  | [], vs => vs = []
  | a :: l, vs => ∃ v r, vs = (a.1, v) :: r ∧ RV ι a.2 v ∧ RVp ι l r
theorem cells_size {a : AV} {v : Value} (hv : RV ι a v) {size : Nat} (h1 : a.isAny = false) (h2 : Nat.beq a.cells.length size = true) :
    RVs ι a.cells v.cells.toList ∧ v.cells.size = size := by
  have h3 := Nat.eq_of_beq_eq_true h2
  have hc : RVs ι a.cells v.cells.toList := hv.cells (.inl h1)
  refine ⟨hc, ?_⟩
  rw [← h3, hc.length]; simp
theorem fillA_ok {szs place : Nat → Option (Nat × Nat)} (hp : ∀ i q, szs i = some q → place i = some q) : ∀ {ps : List (Nat × AV)} {vs : List (Nat × Value)} {l r : List AV} {cells : Array Value},
    fillA szs l ps = some r → RVp ι ps vs → RVs ι l cells.toList → ∃ c, Instr.fill place cells vs = some c ∧ RVs ι r c.toList
  | [], vs, l, r, cells, e, h1, h2 => by
    have hv : vs = [] := h1
    subst hv
    simp only [fillA, Option.some.injEq] at e; subst e
    exact ⟨cells, by unfold Instr.fill; rfl, h2⟩
  | p :: ps, vs, l, r, cells, e, h1, h2 => by
    obtain ⟨v, rest, rfl, h3, h4⟩ := h1
    simp only [fillA] at e
    split at e
    · cases e
    · rename_i q hq
      obtain ⟨e1, e⟩ := cond_none_some e
      obtain ⟨e2, e⟩ := condO_some e
      rw [Bool.and_eq_true] at e2
      obtain ⟨hc, hs⟩ := cells_size h3 e1 e2.1
      have hle := Nat.le_of_ble_eq_true e2.2
      have hlen : l.length = cells.size := by rw [h2.length]; simp
      obtain ⟨c, hf, hr⟩ := fillA_ok hp (vs := rest) (cells := v.cells.zipIdx.foldl (fun cs (c, j) => cs.setIfInBounds (q.1 + j) c) cells) e h4 (by
        have := foldl_set (cells := cells) q.1 0 hc h2
        rw [Nat.add_zero] at this
        have e3 : v.cells.zipIdx.foldl (fun cs (x : Value × Nat) => cs.setIfInBounds (q.1 + x.2) x.1) cells = (v.cells.toList.zipIdx 0).foldl (fun cs p => cs.setIfInBounds (q.1 + p.2) p.1) cells := by
          rw [← Array.foldl_toList]; simp
        exact e3 ▸ this)
      refine ⟨c, ?_, hr⟩
      rw [Instr.fill, hp _ _ hq]
      have : (v.cells.size ≠ q.2 || q.1 + v.cells.size > cells.size) = false := by
        simp only [Bool.or_eq_false_iff, decide_eq_false_iff_not]
        exact ⟨by simp [hs], by rw [hs, ← hlen]; omega⟩
      obtain ⟨q1, q2⟩ := q
      simp only at this ⊢
      rw [this]
      exact hf
theorem zeroV_cells (F : Fits P E) {t : TypeId} {ti : TI} (ht : E.tt.get t = some ti) : ∃ z, SRun P (zeroValue t) w z w [] ∧ RV ι ti.zeroV z ∧ RVs ι ti.zero z.cells.toList ∧ z.cells.size = ti.size ∧ ti.zero.length = ti.size := by
  obtain ⟨i, z, hi, _, _, hz, h1, h2, h3, h4⟩ := (tt_of F ht).info
  exact ⟨z, SRun.zeroValue hi hz, h1 ι, h2 ι, h3, h4⟩
theorem buildA_ok (F : Fits P E) {t : TypeId} {ps : List (Nat × AV)} {vs : Array (Nat × Value)} {a : AV} (e : buildA E t ps = some a) (hv : RVp ι ps vs.toList) : QOk P K ι w (Instr.build t vs) a := by
  unfold buildA at e
  cases ht : E.tt.get t with
  | none => rw [ht] at e; cases e
  | some ti =>
    simp only [ht] at e
    obtain ⟨z, hz, _, hzc, _, _⟩ := zeroV_cells (w := w) (ι := ι) F ht
    have hd : E.d t = some ti.d := by unfold Env.d; rw [ht]; rfl
    unfold Instr.build
    refine QOk.bind0 hz ?_
    split at e
    · rename_i fs hfs
      rw [hfs] at hd
      cases hf : fillA (fun i => (fs[i]?).map fun x => (x.1, x.2.1)) ti.zero ps with
      | none => rw [hf] at e; cases e
      | some r =>
        rw [hf] at e; simp at e; subst e
        obtain ⟨gs, hu, hg⟩ := desc_struct F hd
        refine QOk.bind0 (SRun.underlying hu) ?_
        have hm : SRun P (gs.mapM fun f => (do Pure.pure (f.offset, ← sizeOf f.type) : Sem (Nat × Nat))) w (gs.map fun f => (f.offset, P.cellsOf f.type)) w [] := by
          refine SRun_amapM fun f hf => ?_
          obtain ⟨k, hk, rfl⟩ := Array.mem_iff_getElem.1 hf
          obtain ⟨H, hH⟩ := desc_struct_all F hd hu k hk
          refine SRun.bind0 (SRun.sizeOf hH) ?_
          have : P.cellsOf gs[k].type = H.size := by unfold Program.cellsOf; rw [hH]; rfl
          rw [this]; exact SRun.pure _
        refine QOk.bind0 hm ?_
        obtain ⟨c, hc, hr⟩ := fillA_ok (place := fun i => (gs.map fun f => (f.offset, P.cellsOf f.type))[i]?) (fun i q hq => by
          cases hx : fs[i]? with
          | none => rw [hx] at hq; cases hq
          | some x =>
            rw [hx] at hq; cases hq
            obtain ⟨g, hg1, h1, _, gi, h3, h4⟩ := hg i x hx
            have : P.cellsOf g.type = gi.size := by unfold Program.cellsOf; rw [h3]; rfl
            simp [hg1, this, h1, h4]) hf hv hzc
        simp only [hc]
        exact QOk.pure (RV_agg hr)
    · rename_i n el hfs
      rw [hfs] at hd
      split at e
      · rename_i ei he
        cases hf : fillA (fun i => some (i * ei.size, ei.size)) ti.zero ps with
        | none => rw [hf] at e; cases e
        | some r =>
          rw [hf] at e; simp at e; subst e
          refine QOk.bind0 (SRun.underlying (desc_array F hd)) ?_
          refine QOk.bind0 (SRun_sizeOf (tt_of F he)) ?_
          obtain ⟨c, hc, hr⟩ := fillA_ok (place := fun i => some (i * ei.size, ei.size)) (fun i q hq => hq) hf hv hzc
          simp only [hc]
          exact QOk.pure (RV_agg hr)
      · cases e
    · cases e
theorem eqS_equal {x y : AV} {v u : Value} {r : Bool} (e : eqS x y = some r) (hv : RV ι x v) (hu : RV ι y u) :
    (∃ a b, x = .bool a ∧ v = .bool a ∧ u = .bool b ∧ r = (a == b)) ∨ (∃ k a b, x = .int k a ∧ v = .int k a ∧ u = .int k b ∧ r = (a == b)) ∨ (∃ a b, x = .str a ∧ v = .string ⟨a.toArray⟩ ∧ u = .string ⟨b.toArray⟩ ∧ r = (a == b)) := by
  unfold eqS at e
  split at e
  · rename_i a b; cases e; obtain rfl := bool_inv hv; obtain rfl := bool_inv hu; exact .inl ⟨a, b, rfl, rfl, rfl, rfl⟩
  · rename_i k a k' b
    obtain ⟨hk, rfl⟩ := cond_some e
    obtain rfl := ikEq_true hk
    obtain rfl := int_inv hv; obtain rfl := int_inv hu
    exact .inr (.inl ⟨k, a, b, rfl, rfl, rfl, rfl⟩)
  · rename_i a b; cases e; obtain rfl := str_inv hv; obtain rfl := str_inv hu; exact .inr (.inr ⟨a, b, rfl, rfl, rfl, rfl⟩)
  · cases e
theorem bytes_beq (a b : List UInt8) : ((⟨a.toArray⟩ : ByteArray) == ⟨b.toArray⟩) = (a == b) := by
  show (a.toArray == b.toArray) = (a == b)
  simp
theorem findNow_ok {kd : TypeDesc} {k : AV} {kv : Value} (hk : RV ι k kv)
    (hs : (kd = .bool ∧ ∃ b, k = .bool b) ∨ ((∃ j, kd = .int j) ∧ ∃ j n, k = .int j n) ∨ (kd = .string ∧ ∃ s, k = .str s)) :
    ∀ {es : List AE} {vs : List MapEntry} {i : Nat} {r : Option (Nat × AV)}, findK k es i = some r → REs ι es vs →
      ∃ r', Instr.findNow kd kv vs i = some r' ∧ (match r, r' with | none, none => True | some p, some q => p.1 = q.1 ∧ RV ι p.2 q.2 | _, _ => False)
  | [], vs, i, r, e, h => by
    have hv : vs = [] := h
    subst hv; cases e
    exact ⟨none, by unfold Instr.findNow; rfl, trivial⟩
  | a :: es, vs, i, r, e, h => by
    obtain ⟨e', rest, rfl, h1, h2, h3, h4⟩ := h
    simp only [findK] at e
    have key : ∀ b, eqK k a.key = some b → Instr.sameNow kd kv e'.key = some b := by
      intro b hb
      have hb' : eqS k a.key = some b := by
        rcases hs with ⟨_, c, rfl⟩ | ⟨_, j, n, rfl⟩ | ⟨_, s, rfl⟩ <;> exact hb
      rcases eqS_equal hb' hk h1 with ⟨x, y, e1, e2, e3, e4⟩ | ⟨j, x, y, e1, e2, e3, e4⟩ | ⟨x, y, e1, e2, e3, e4⟩
      · rcases hs with ⟨hd, _⟩ | ⟨_, _, _, hc⟩ | ⟨_, _, hc⟩
        · subst hd; rw [e2, e3, e4]; rfl
        · rw [e1] at hc; cases hc
        · rw [e1] at hc; cases hc
      · rcases hs with ⟨_, _, hc⟩ | ⟨⟨_, hd⟩, _⟩ | ⟨_, _, hc⟩
        · rw [e1] at hc; cases hc
        · subst hd; rw [e2, e3, e4]; simp [Instr.sameNow]
        · rw [e1] at hc; cases hc
      · rcases hs with ⟨_, _, hc⟩ | ⟨_, _, _, hc⟩ | ⟨hd, _⟩
        · rw [e1] at hc; cases hc
        · rw [e1] at hc; cases hc
        · subst hd; rw [e2, e3, e4]
          show some _ = _
          rw [bytes_beq]
    split at e
    · cases e
    · rename_i hb
      cases e
      refine ⟨some (i, e'.val), ?_, rfl, h2⟩
      rw [Instr.findNow, key _ hb]
    · rename_i hb
      obtain ⟨r', h5, h6⟩ := findNow_ok hk hs e h4
      refine ⟨r', ?_, h6⟩
      rw [Instr.findNow, key _ hb]
      exact h5
def FoundR (ι : Nm) (r : Option (Nat × AV)) (r' : Option (Nat × Value)) : Prop := match r, r' with | none, none => True | some p, some q => p.1 = q.1 ∧ RV ι p.2 q.2 | _, _ => False
theorem findAsking_ok {kt : TypeId} {l : List AV} {x : Array Value} (heq : ∀ (y : Array Value) (m : List AV) (r : Bool), RVs ι m y.toList → eqL l m = some r → SRun P (Op.equal kt (.agg x) (.agg y)) w r w []) :
    ∀ {es : List AE} {vs : List MapEntry} {i : Nat} {r : Option (Nat × AV)}, findK (.agg l) es i = some r → REs ι es vs →
      ∃ r', SRun P (Instr.findAsking kt (.agg x) vs i) w r' w [] ∧ FoundR ι r r'
  | [], vs, i, r, e, h => by
    have hv : vs = [] := h
    subst hv; cases e
    exact ⟨none, by unfold Instr.findAsking; exact SRun.pure _, trivial⟩
  | a :: es, vs, i, r, e, h => by
    obtain ⟨e', rest, rfl, h1, h2, h3, h4⟩ := h
    simp only [findK] at e
    have key : ∀ b, eqK (.agg l) a.key = some b → SRun P (Op.equal kt (.agg x) e'.key) w b w [] := by
      intro b hb
      cases hm : a.key with
      | agg m =>
        rw [hm] at hb h1
        obtain ⟨cs, hc, hl⟩ := agg_inv h1
        rw [hc]
        exact heq cs m b hl hb
      | _ => rw [hm] at hb; cases hb
    split at e
    · cases e
    · rename_i hb
      cases e
      refine ⟨some (i, e'.val), ?_, rfl, h2⟩
      rw [Instr.findAsking]
      exact SRun.bind0 (key _ hb) (SRun.pure _)
    · rename_i hb
      obtain ⟨r', h5, h6⟩ := findAsking_ok heq e h4
      refine ⟨r', ?_, h6⟩
      rw [Instr.findAsking]
      exact SRun.bind0 (key _ hb) h5
theorem findK_ok (F : Fits P E) {kt : TypeId} {k : AV} {kv : Value} (hok : keyOk E kt k = true) (hk : RV ι k kv) {es : List AE} {vs : List MapEntry} {r : Option (Nat × AV)} (e : findK k es 0 = some r) (hr : REs ι es vs) :
    (∀ b, SRun P (Instr.checkKey b 10000 kt kv) w () w []) ∧ ∃ r', SRun P (Instr.findKey kt kv vs) w r' w [] ∧ FoundR ι r r' := by
  unfold keyOk at hok
  have scal : ∀ kd, P.underlying kt = some kd → ((kd = .bool ∧ ∃ b, k = .bool b) ∨ ((∃ j, kd = .int j) ∧ ∃ j n, k = .int j n) ∨ (kd = .string ∧ ∃ s, k = .str s)) →
      (∀ b, SRun P (Instr.checkKey b 10000 kt kv) w () w []) ∧ ∃ r', SRun P (Instr.findKey kt kv vs) w r' w [] ∧ FoundR ι r r' := by
    intro kd hu hs
    obtain ⟨r', h1, h2⟩ := findNow_ok hk hs e hr
    refine ⟨fun b => ?_, r', ?_, h2⟩
    · unfold Instr.checkKey
      refine SRun.bind0 (SRun.underlying hu) ?_
      rcases hs with ⟨rfl, _⟩ | ⟨⟨j, rfl⟩, _⟩ | ⟨rfl, _⟩ <;> exact SRun.pure _
    · unfold Instr.findKey
      refine SRun.bind0 (SRun.underlying hu) ?_
      rw [h1]; exact SRun.pure _
  split at hok
  · rename_i hd
    split at hok
    · exact scal _ (desc_bool F hd) (.inl ⟨rfl, _, rfl⟩)
    · cases hok
  · rename_i j hd
    split at hok
    · exact scal _ (desc_int F hd) (.inr (.inl ⟨⟨j, rfl⟩, _, _, rfl⟩))
    · cases hok
  · rename_i hd
    split at hok
    · exact scal _ (desc_str F hd) (.inr (.inr ⟨rfl, _, rfl⟩))
    · cases hok
  · rename_i fs hd
    split at hok
    · rename_i l
      obtain ⟨x, rfl, hl⟩ := agg_inv hk
      obtain ⟨gs, hu, hf⟩ := F.flatOk hok
      obtain ⟨h1, h2⟩ := hf x ι w hl
      refine ⟨h1, ?_⟩
      have heq : ∀ (y : Array Value) (m : List AV) (r : Bool), RVs ι m y.toList → eqL l m = some r → SRun P (Op.equal kt (.agg x) (.agg y)) w r w [] := fun y m r hm hq => (h2 y m r hm hq (.const (.bool true)) (.const (.bool true)) .eql (.inl rfl)).2
      unfold Instr.findKey
      cases hn : Instr.findNow gs (.agg x) vs 0 with
      | none =>
        obtain ⟨r', h3, h4⟩ := findAsking_ok heq e hr
        refine ⟨r', SRun.bind0 (SRun.underlying hu) ?_, h4⟩
        rw [hn]; exact h3
      | some q =>
        refine ⟨q, SRun.bind0 (SRun.underlying hu) (by rw [hn]; exact SRun.pure _), ?_⟩
        cases hv : vs with
        | nil =>
          subst hv
          have hes : es = [] := by cases es with | nil => rfl | cons a es => obtain ⟨_, _, h5, _⟩ := hr; cases h5
          subst hes; cases e
          unfold Instr.findNow at hn; cases hn; trivial
        | cons e1 r1 =>
          subst hv
          rw [Instr.findNow] at hn
          have : Instr.sameNow gs (.agg x) e1.key = none := by cases gs <;> rfl
          rw [this] at hn; cases hn
    · cases hok
  · rename_i n el hd
    split at hok
    · rename_i l
      obtain ⟨x, rfl, hl⟩ := agg_inv hk
      obtain ⟨gs, hu, hf⟩ := F.flatOk hok
      obtain ⟨h1, h2⟩ := hf x ι w hl
      refine ⟨h1, ?_⟩
      have heq : ∀ (y : Array Value) (m : List AV) (r : Bool), RVs ι m y.toList → eqL l m = some r → SRun P (Op.equal kt (.agg x) (.agg y)) w r w [] := fun y m r hm hq => (h2 y m r hm hq (.const (.bool true)) (.const (.bool true)) .eql (.inl rfl)).2
      unfold Instr.findKey
      cases hn : Instr.findNow gs (.agg x) vs 0 with
      | none =>
        obtain ⟨r', h3, h4⟩ := findAsking_ok heq e hr
        refine ⟨r', SRun.bind0 (SRun.underlying hu) ?_, h4⟩
        rw [hn]; exact h3
      | some q =>
        refine ⟨q, SRun.bind0 (SRun.underlying hu) (by rw [hn]; exact SRun.pure _), ?_⟩
        cases hv : vs with
        | nil =>
          subst hv
          have hes : es = [] := by cases es with | nil => rfl | cons a es => obtain ⟨_, _, h5, _⟩ := hr; cases h5
          subst hes; cases e
          unfold Instr.findNow at hn; cases hn; trivial
        | cons e1 r1 =>
          subst hv
          rw [Instr.findNow] at hn
          have : Instr.sameNow gs (.agg x) e1.key = none := by cases gs <;> rfl
          rw [this] at hn; cases hn
    · cases hok
  · cases hok
end
end Go.Ev
namespace Go.Ev
section
variable {P : Program} {K : Ctx} {ι : Nm} {h : AH} {w : World} {E : Env}
theorem nat_beq (a b : Nat) : Nat.beq a b = (a == b) := by
  rw [Bool.eq_iff_iff]; simp
def lookCont (kt el : TypeId) (u : Value) (ok : Bool) (es : Array MapEntry) : Sem Value := do
  Instr.checkKey es.isEmpty 10000 kt u
  match ← Instr.findKey kt u es.toList with
  | some (_, v) => Pure.pure (if ok then .tuple #[v, .bool true] else v)
  | none => do
    let v ← zeroValue el
    Pure.pure (if ok then .tuple #[v, .bool false] else v)
theorem lookupA_ok (F : Fits P E) (hP : K.P = P) (S : Sat K ι h w) {t : TypeId} {x i a : AV} {ok : Bool} {v u : Value} (e : lookupA E h t x i ok = some a) (hv : RV ι x v) (hu : RV ι i u) :
    QOk P K ι w (Instr.lookup t v u ok) a := by
  unfold lookupA at e
  split at e
  · rename_i kt el hd
    have ht := (desc_map F hd).1
    split at e
    · rename_i ei es he hes
      obtain ⟨hok, hes⟩ := condO_some hes
      obtain ⟨z, hz, hz1, _⟩ := zeroV_cells (w := w) (ι := ι) F he
      unfold Instr.lookup
      refine QOk.bind0 (SRun.underlying ht) ?_
      have cont : ∀ es' : Array MapEntry, REs ι es es'.toList → QOk P K ι w (lookCont kt el u ok es') a := by
        intro es' h2
        unfold lookCont
        split at e
        · cases e
        · rename_i j val hf
          obtain ⟨hck, r', hr', hfr⟩ := findK_ok (w := w) F hok hu hf h2
          cases e
          cases r' with
          | none => exact hfr.elim
          | some q =>
            refine QOk.bind0 (hck _) ?_
            refine QOk.bind0 hr' ?_
            cases ok with
            | true => exact QOk.pure (RV_tup (RVs_cons hfr.2 (RVs_cons RV_bool RVs_nil)))
            | false => exact QOk.pure hfr.2
        · rename_i hf
          obtain ⟨hck, r', hr', hfr⟩ := findK_ok (w := w) F hok hu hf h2
          cases e
          cases r' with
          | some q => exact hfr.elim
          | none =>
            refine QOk.bind0 (hck _) ?_
            refine QOk.bind0 hr' ?_
            refine QOk.bind0 hz ?_
            cases ok with
            | true => exact QOk.pure (RV_tup (RVs_cons hz1 (RVs_cons RV_bool RVs_nil)))
            | false => exact QOk.pure hz1
      unfold mapEs at hes
      split at hes
      · cases hes
        unfold RV at hv; subst hv
        exact QOk.bind0 (SRun.pure _) (cont #[] rfl)
      · rename_i id
        split at hes
        · rename_i es0 ck ho
          cases hes
          obtain ⟨p, hp, rfl⟩ := map_inv hv
          obtain ⟨q, ob, hq, b1, b2, b3, hb, es', rfl, hr⟩ := S.at ho trivial
          obtain rfl : p = q := by rw [hp] at hq; exact Option.some.inj hq
          obtain ⟨g1, g2⟩ := SRun.getObjE (P := P) (K := K) hb (by simp) rfl b1 b2
          exact QOk.bindE g1 g2 (QOk.bind0 (SRun.pure _) (cont es' hr))
        · cases hes
      · cases hes
    · cases e
  · cases e
theorem REs.find {q : AE → Bool} {q' : MapEntry → Bool} (hq : ∀ a e, e.born = a.born → q a = q' e) : ∀ {es : List AE} {vs : List MapEntry}, REs ι es vs → ∀ {a : AE}, es.find? q = some a → ∃ e, vs.find? q' = some e ∧ RV ι a.key e.key ∧ RV ι a.val e.val
  | [], _, _, _, e => by cases e
  | x :: es, _, hr, a, e => by
    obtain ⟨y, r, rfl, h1, h2, h3, h4⟩ := hr
    rw [List.find?_cons] at e ⊢
    rw [← hq x y h3]
    split at e
    · rename_i hx; cases e; exact ⟨y, by simp [hx], h1, h2⟩
    · rename_i hx
      obtain ⟨e', h5, h6⟩ := REs.find hq h4 e
      exact ⟨e', by simp [hx, h5], h6⟩
theorem entryA_ok (hP : K.P = P) (S : Sat K ι h w) {x a : AV} {v : Value} (e : entryA h x = some a) (hv : RV ι x v) : QOk P K ι w (Instr.entry v) a := by
  unfold entryA at e
  split at e
  · rename_i id
    obtain ⟨p, hp, rfl⟩ := ptr_inv hv
    split at e
    · rename_i m s seen stepped ho
      split at e
      · rename_i es ck st hom hst
        obtain ⟨hb, e2⟩ := condO_some e
        obtain rfl := Nat.eq_of_beq_eq_true hb
        clear e
        cases hf : es.find? fun e => Nat.beq e.born st with
        | none => rw [hf] at e2; cases e2
        | some en =>
          rw [hf] at e2; simp at e2; subst e2
          obtain ⟨q, ob, hq, b1, b2, b3, hbl, b, hm1, _, rfl⟩ := S.at ho trivial
          obtain rfl : p = q := by rw [hp] at hq; exact Option.some.inj hq
          obtain ⟨pm, hpm, hbe⟩ := hm1 m rfl
          subst hbe
          obtain ⟨q', ob', hq', c1, c2, c3, hbm, es', rfl, hr⟩ := S.at hom trivial
          obtain rfl : pm = q' := by rw [hpm] at hq'; exact Option.some.inj hq'
          obtain ⟨g1, g2⟩ := SRun.getObjE (P := P) (K := K) hbl (by simp) rfl b1 b2
          obtain ⟨g3, g4⟩ := SRun.getObjE (P := P) (K := K) hbm (by simp) rfl c1 c2
          unfold Instr.entry
          refine QOk.bindE g1 g2 ?_
          have hback : seen.toArray.back? = some st := by simpa [Array.back?_eq_getElem?, List.getLast?_eq_getElem?] using hst
          simp only [hback]
          refine QOk.bindE g3 g4 ?_
          have hfind : ∃ e', es'.find? (fun e => e.born == st) = some e' ∧ RV ι en.key e'.key ∧ RV ι en.val e'.val := by
            obtain ⟨e', h5, h6⟩ := REs.find (q := fun e => Nat.beq e.born st) (q' := fun e => e.born == st) (fun a e h => by rw [h]; exact nat_beq _ _) hr hf
            exact ⟨e', by rw [← Array.find?_toList]; exact h5, h6⟩
          obtain ⟨e', h5, h6, h7⟩ := hfind
          simp only [bne_self_eq_false, Bool.false_eq_true, if_false, h5]
          exact QOk.pure (RV_tup (RVs_cons h6 (RVs_cons h7 RVs_nil)))
      · cases e
    · cases e
  · cases e
end
end Go.Ev
namespace Go.Ev
section
variable {P : Program} {K : Ctx} {ι : Nm} {h : AH} {w : World} {E : Env} {tm : Tr AV} {ρ : Operand → Value}
def NOk (P : Program) (K : Ctx) (ι : Nm) (w : World) (s : Sem Next) (a : AV) : Prop :=
  ∃ v es, SRun P s w (.value v) w es ∧ RV ι a v ∧ ∀ e ∈ es, EvF K w.heap.size e
theorem QOk.next {s : Sem Value} {a : AV} (h : QOk P K ι w s a) : NOk P K ι w (do Pure.pure (.value (← s))) a := by
  obtain ⟨v, es, h1, h2, h3⟩ := h
  refine ⟨v, es, ?_, h2, h3⟩
  have := SRun.bind h1 (SRun.pure (P := P) (w := w) (Next.value v)) (f := fun v => Pure.pure (Next.value v))
  simpa using this
theorem RVs_evs (hρ : ∀ x, RV ι (ev tm x) (ρ x)) : ∀ l : List Operand, RVs ι (evs tm l) (l.map ρ)
  | [] => RVs_nil
  | x :: l => RVs_cons (hρ x) (RVs_evs hρ l)
theorem RVp_evp (hρ : ∀ x, RV ι (ev tm x) (ρ x)) : ∀ l : List (Nat × Operand), RVp ι (evp tm l) (l.map fun p => (p.1, ρ p.2))
  | [] => rfl
  | x :: l => ⟨ρ x.2, _, rfl, hρ x.2, RVp_evp hρ l⟩
theorem RVo_evo (hρ : ∀ x, RV ι (ev tm x) (ρ x)) (o : Option Operand) : RVo ι (evo tm o) (o.map ρ) := by
  cases o with
  | none => rfl
  | some x => exact ⟨ρ x, rfl, hρ x⟩
theorem evs_length (l : List Operand) : (evs tm l).length = l.length := by
  induction l with
  | nil => rfl
  | cons x l ih => simp [evs, ih]
theorem max_ok {k k' : IntKind} {x y : Int} {ts : Array TypeId} {ty : TypeId} : SRun P (Builtin.max_ ts ty #[.int k x, .int k' y]) w (.int k (if y > x then y else x)) w [] := by
  unfold Builtin.max_
  exact SRun.bind0 (s := Builtin.max2 (.int k x) (.int k' y)) (SRun.pure _) (SRun.pure _)
theorem min_ok {k k' : IntKind} {x y : Int} {ts : Array TypeId} {ty : TypeId} : SRun P (Builtin.min_ ts ty #[.int k x, .int k' y]) w (.int k (if y < x then y else x)) w [] := by
  unfold Builtin.min_
  exact SRun.bind0 (s := Builtin.min2 (.int k x) (.int k' y)) (SRun.pure _) (SRun.pure _)
theorem quietB_ok (hP : Of K P E) (F : Fits P E) (S : Sat K ι h w) {b : Builtin} {as : List AV} {ts : List TypeId} {a : AV} {args : Array Value} {tys : Array TypeId} {ty : TypeId} {cs : Array Bool}
    (e : quietB E h b as ts = some a) (ha : RVs ι as args.toList) (ht : tys.toList = ts) : NOk P K ι w (builtin b tys ty cs args) a := by
  obtain ⟨tys⟩ := tys
  obtain ⟨args⟩ := args
  simp only at ha ht
  subst ht
  unfold quietB at e
  split at e
  · split at e
    · rename_i x t
      obtain ⟨v, r, rfl, h1, h2⟩ := RVs_cons_inv ha
      obtain rfl := RVs_nil_inv h2
      exact (lenA_ok hP.P F S e h1).next
    · cases e
  · split at e
    · rename_i k x k' y
      obtain ⟨v, r, rfl, h1, h2⟩ := RVs_cons_inv ha
      obtain ⟨v', r', rfl, h3, h4⟩ := RVs_cons_inv h2
      obtain rfl := RVs_nil_inv h4
      obtain rfl := int_inv h1
      obtain rfl := int_inv h3
      obtain ⟨hb, rfl⟩ := cond_some e
      refine QOk.next ⟨_, [], max_ok, ?_, by simp⟩
      have : (if y > x then y else x) = cond (decide (y > x)) y x := by by_cases hc : y > x <;> simp [hc]
      rw [this]; exact RV_int
    · cases e
  · split at e
    · rename_i k x k' y
      obtain ⟨v, r, rfl, h1, h2⟩ := RVs_cons_inv ha
      obtain ⟨v', r', rfl, h3, h4⟩ := RVs_cons_inv h2
      obtain rfl := RVs_nil_inv h4
      obtain rfl := int_inv h1
      obtain rfl := int_inv h3
      obtain ⟨hb, rfl⟩ := cond_some e
      refine QOk.next ⟨_, [], min_ok, ?_, by simp⟩
      have : (if y < x then y else x) = cond (decide (y < x)) y x := by by_cases hc : y < x <;> simp [hc]
      rw [this]; exact RV_int
    · cases e
  · split at e
    · rename_i id off n c
      cases e
      obtain ⟨v, r, rfl, h1, h2⟩ := RVs_cons_inv ha
      obtain rfl := RVs_nil_inv h2
      obtain ⟨p, hp, cap, rfl, hle, _⟩ := sl_inv h1
      refine QOk.next ?_
      have hc : cap ≠ 0 := by omega
      have : Builtin.unsafeSliceData_ ⟨tys⟩ ty ⟨[Value.slice (some ⟨p.1, off, none⟩) (n + 1) cap]⟩ = Pure.pure (.pointer (some ⟨p.1, off, none⟩)) := by
        show (if cap ≠ 0 then (Pure.pure (Value.pointer (some ⟨p.1, off, none⟩)) : Sem Value) else _) = _
        rw [if_pos hc]
      rw [this]
      exact QOk.pure (RV_ptr hp)
    · cases e
      obtain ⟨v, r, rfl, h1, h2⟩ := RVs_cons_inv ha
      obtain rfl := RVs_nil_inv h2
      unfold RV at h1; subst h1
      exact QOk.next (QOk.pure (by unfold RV; rfl))
    · cases e
  · cases e
theorem quiet_ok (hP : Of K P E) (F : Fits P E) (S : Sat K ι h w) (hρ : ∀ x, RV ι (ev tm x) (ρ x)) {o : Oper} {a : AV} (e : quietOp o.op E tm h = some a) : NOk P K ι w (execOp ρ o) a := by
  unfold execOp
  cases ho : o.op <;> rw [ho] at e <;> try (cases e; done)
  case move x => cases e; exact ⟨_, [], SRun.pure _, hρ x, by simp⟩
  case assign x => cases e; exact ⟨_, [], SRun.pure _, hρ x, by simp⟩
  case pick c x y =>
    have e' : (match ev tm c with | .bool t => some (cond t (ev tm x) (ev tm y)) | _ => none) = some a := e
    have hc := hρ c
    cases hv : ev tm c <;> rw [hv] at e' hc <;> try (cases e'; done)
    rename_i t
    have hb := bool_inv hc
    cases e'
    refine ⟨if t = true then ρ x else ρ y, [], ?_, ?_, by simp⟩
    · show SRun P (do Pure.pure (Next.value (if ← asBool (ρ c) then ρ x else ρ y))) w _ w []
      rw [hb]
      exact SRun.bind0 (a := t) (SRun.pure _) (SRun.pure _)
    · cases t with
      | true => exact hρ x
      | false => exact hρ y
  case build t ps =>
    refine (buildA_ok (vs := ps.map fun (i, x) => (i, ρ x)) F e ?_).next
    have := RVp_evp hρ ps.toList
    simpa using this
  case load t x =>
    have e' : (match ev tm x with | .ptr id off => loadT E h t id off | _ => none) = some a := e
    have hx := hρ x
    cases hv : ev tm x <;> rw [hv] at e' hx <;> try (cases e'; done)
    obtain ⟨p, hp, hx⟩ := ptr_inv hx
    obtain ⟨v, es, h1, h2, h3⟩ := SRun_loadVar (P := P) S hP F hp e'
    refine QOk.next ?_
    rw [hx]
    exact ⟨v, es, h1, h2, h3⟩
  case nilCheck x =>
    obtain ⟨es, h1, h2, rfl⟩ := nilCheckA_ok (P := P) (w := w) (o := o) e (hρ x) rfl ho
    unfold execOp at h1
    rw [ho] at h1
    exact ⟨_, [], h1, h2, by simp⟩
  case binOp op t x y u => exact (binA_ok F e (unS_ok S hP (hρ x)) (unS_ok S hP (hρ y)) x y).next
  case unOp op t x => exact (unA_ok e (hρ x)).next
  case convert s d x => exact (convQ_ok F e (hρ x)).next
  case makeInterface t x => exact (makeIfaceA_ok F e (hρ x)).next
  case makeFunc g x y =>
    cases g with
    | func g =>
      cases e
      refine QOk.next (QOk.pure ?_)
      have h1 := RVs_evs hρ x.toList
      have h2 := RVs_evs hρ y.toList
      unfold RV
      exact ⟨x.map ρ, y.map ρ, rfl, by simpa using h1, by simpa using h2⟩
    | _ => cases e
  case slice t x lo hi mx => exact (sliceA_ok F e (unS_ok S hP (hρ x)) (RVo_evo hρ lo) (RVo_evo hρ hi) (RVo_evo hρ mx)).next
  case fieldAddr s x i => exact (fieldAddrA_ok F e (hρ x)).next
  case field t x i => exact (fieldA_ok F e (hρ x)).next
  case indexAddr t x i => exact (indexAddrA_ok F e (unS_ok S hP (hρ x)) (hρ i)).next
  case index t x i => exact (indexA_ok F e (hρ x) (hρ i)).next
  case lookup t x i ok => exact (lookupA_ok F hP.P S e (hρ x) (hρ i)).next
  case entry it => exact (entryA_ok hP.P S e (hρ it)).next
  case typeAssert x t u ok => exact (assertA_ok F e (hρ x)).next
  case extract x i => exact (extractA_ok e (hρ x)).next
  case call c =>
    have e' : (match callB c with | some b => quietB E h b (evs tm c.args.toList) c.argTypes.toList | none => none) = some a := e
    cases hb : callB c with
    | none => rw [hb] at e'; cases e'
    | some b =>
      rw [hb] at e'
      have hc : c.callee = .builtin b := by
        unfold callB at hb
        split at hb
        · rename_i b' hc; cases hb; exact hc
        · cases hb
      have h1 := RVs_evs hρ c.args.toList
      have := quietB_ok (ty := o.type) (cs := c.args.map fun | .const _ => true | _ => false) (args := c.args.map ρ) (tys := c.argTypes) hP F S e' (by simpa using h1) rfl
      obtain ⟨v, es, h2, h3, h4⟩ := this
      refine ⟨v, es, ?_, h3, h4⟩
      have hr : SRun P (resolve ρ c o.type) w { target := .builtin b c.argTypes o.type (c.args.map fun | .const _ => true | _ => false), args := c.args.map ρ } w [] := by
        unfold resolve
        rw [hc]
        exact SRun.pure _
      exact SRun.bind0 hr h2
end
end Go.Ev
namespace Go.Ev
section
variable {P : Program} {K : Ctx} {ι : Nm} {h : AH} {w : World} {E : Env}
def upd (ι : Nm) (i : Nat) (p : Nat × Nat) : Nm := fun j => if j = i then some p else ι j
theorem upd_self (ι : Nm) (i : Nat) (p : Nat × Nat) : upd ι i p i = some p := by simp [upd]
theorem upd_ne {ι : Nm} {i j : Nat} {p : Nat × Nat} (h : j ≠ i) : upd ι i p j = ι j := by simp [upd, h]
def Free (ι : Nm) (n m : Nat) : Prop := ∀ i, n ≤ i → i < m → ι i = none
theorem Free.sub {ι : Nm} {n m n' m' : Nat} (h : Free ι n m) (h1 : n ≤ n') (h2 : m' ≤ m) : Free ι n' m' := fun i hi hj => h i (by omega) (by omega)
structure Grow (ι ι' : Nm) (n n' : Nat) : Prop where
  le : n ≤ n'
  same : ∀ i, i < n ∨ n' ≤ i → ι' i = ι i
theorem Grow.refl (ι : Nm) (n : Nat) : Grow ι ι n n := ⟨Nat.le_refl _, fun _ _ => rfl⟩
theorem Grow.trans {ι ι' ι'' : Nm} {n n' n'' : Nat} (h : Grow ι ι' n n') (h' : Grow ι' ι'' n' n'') : Grow ι ι'' n n'' :=
  ⟨Nat.le_trans h.le h'.le, fun i hi => (h'.same i (by have := h.le; have := h'.le; omega)).trans (h.same i (by have := h.le; have := h'.le; omega))⟩
theorem Grow.ext {ι ι' : Nm} {n n' : Nat} (h : Grow ι ι' n n') (hn : Free ι n n') : Ext ι ι' := fun i p hi => by
  by_cases hlt : i < n ∨ n' ≤ i
  · rw [h.same i hlt]; exact hi
  · rw [hn i (by omega) (by omega)] at hi; cases hi
theorem Grow.free {ι ι' : Nm} {n n' m : Nat} (h : Grow ι ι' n n') (hf : Free ι n m) : Free ι' n' m := fun i h1 h2 => by
  rw [h.same i (.inr h1)]; exact hf i (by have := h.le; omega) h2
theorem Grow.upd {ι : Nm} {n : Nat} {p : Nat × Nat} : Grow ι (Ev.upd ι n p) n (n + 1) := ⟨Nat.le_succ _, fun i hi => upd_ne (by omega)⟩
theorem ext_upd {ι : Nm} {i : Nat} {p : Nat × Nat} (h : ι i = none) : Ext ι (upd ι i p) := fun j q hj => by
  by_cases hji : j = i
  · subst hji; rw [h] at hj; cases hj
  · rw [upd_ne hji]; exact hj
theorem heap_push {o : Obj} {b : Nat} (hb : b < w.heap.size) : (w.heap.push o)[b]? = w.heap[b]? := by
  rw [Array.getElem?_push]; split
  · omega
  · rfl
theorem lt_of_heap {b : Nat} {ob : Obj} (h : w.heap[b]? = some ob) : b < w.heap.size := by
  rw [Array.getElem?_eq_some_iff] at h; exact h.1
theorem AH.put_get {j : Nat} {o x : AO} {i : Nat} (e : (h.put j o).tr.get i = some x) : (i = j ∧ x = o) ∨ (i ≠ j ∧ h.tr.get i = some x) := by
  obtain ⟨tr, nx, df⟩ := h
  have e' : (tr.set j o).get i = some x := e
  exact Tr.get_set e'
theorem AH.new_tr {o : AO} : (h.new o).tr = (h.put h.nx o).tr := by obtain ⟨tr, nx, df⟩ := h; rfl
theorem AH.new_nx {o : AO} : (h.new o).nx = h.nx + 1 := by obtain ⟨tr, nx, df⟩ := h; rfl
theorem AH.put_nx {j : Nat} {o : AO} : (h.put j o).nx = h.nx := by obtain ⟨tr, nx, df⟩ := h; rfl
theorem AH.new_df {o : AO} : (h.new o).df = h.df := by obtain ⟨tr, nx, df⟩ := h; rfl
theorem AH.put_df {j : Nat} {o : AO} : (h.put j o).df = h.df := by obtain ⟨tr, nx, df⟩ := h; rfl
theorem Sat.ofTr (S : Sat K ι h w) {h' : AH} (e : h'.tr = h.tr) : Sat K ι h' w :=
  ⟨fun i o hi => S.objs i o (by rw [← e]; exact hi), fun i j o o' p q h1 h2 => S.inj i j o o' p q (by rw [← e]; exact h1) (by rw [← e]; exact h2), S.lo, S.bs, S.old, S.os, S.tape, S.output, S.oldn⟩
theorem Sat.mono (S : Sat K ι h w) {ι' : Nm} (hE : Ext ι ι') : Sat K ι' h w := by
  refine ⟨fun i o hi hl => ?_, fun i j o o' p q h1 h2 l1 l2 hp hq hpq => ?_, S.lo, S.bs, S.old, S.os, S.tape, S.output, fun hk => (S.oldn hk).trans hE⟩
  · obtain ⟨p, ob, h1, h2, h3, h4, h5⟩ := S.objs i o hi hl
    exact ⟨p, ob, hE _ _ h1, h2, h3, h4, h5.mono hE⟩
  · obtain ⟨p', _, g1, _⟩ := S.objs i o h1 l1
    obtain ⟨q', _, g2, _⟩ := S.objs j o' h2 l2
    have e1 := hE _ _ g1; rw [hp] at e1; cases e1
    have e2 := hE _ _ g2; rw [hq] at e2; cases e2
    exact S.inj i j o o' p q h1 h2 l1 l2 g1 g2 hpq
theorem Sat.push (S : Sat K ι h w) (ob : Obj) : Sat K ι h { w with heap := w.heap.push ob } := by
  refine ⟨fun i o hi hl => ?_, S.inj, ?_, ?_, fun b hb => ?_, S.os, S.tape, S.output, S.oldn⟩
  · obtain ⟨p, ob', h1, h2, h3, h4, h5⟩ := S.objs i o hi hl
    exact ⟨p, ob', h1, h2, h3, by simp only; rw [heap_push (lt_of_heap h4)]; exact h4, h5⟩
  · simp only [Array.size_push]; have := S.lo; omega
  · simp only [Array.size_push]; have := S.bs; omega
  · simp only
    rw [heap_push (by have := S.bs; omega)]; exact S.old b hb
theorem Sat.place (S : Sat K ι h w) {i : Nat} {p : Nat × Nat} (hp : ι i = some p) {ob : Obj} {o : AO} (hb : w.heap[p.1]? = some ob) (h1 : K.base ≤ p.1) (h2 : K.own p.1)
    (hn : ∀ j x q, h.tr.get j = some x → x.live → ι j = some q → q.1 = p.1 → j = i) (hr : RO K.P ι p.2 o ob) : Sat K ι (h.put i o) w := by
  refine ⟨fun j x e hl => ?_, fun a b x y q r e1 e2 l1 l2 hq hr' hqr => ?_, S.lo, S.bs, S.old, S.os, S.tape, S.output, S.oldn⟩
  · rcases AH.put_get e with ⟨rfl, rfl⟩ | ⟨hne, e'⟩
    · exact ⟨p, ob, hp, h1, h2, hb, hr⟩
    · exact S.objs j x e' hl
  · rcases AH.put_get e1 with ⟨ha, rfl⟩ | ⟨n1, e1'⟩ <;> rcases AH.put_get e2 with ⟨hb', rfl⟩ | ⟨n2, e2'⟩
    · rw [ha, hb']
    · subst ha
      rw [hp] at hq; cases hq
      exact absurd (hn b y r e2' l2 hr' hqr.symm) n2
    · subst hb'
      rw [hp] at hr'; cases hr'
      exact absurd (hn a x q e1' l1 hq hqr) n1
    · exact S.inj a b x y q r e1' e2' l1 l2 hq hr' hqr
theorem Sat.newO (S : Sat K ι h w) (hf : ι h.nx = none) {o : AO} {ob : Obj} {cap : Nat} (hr : RO K.P (upd ι h.nx (w.heap.size, cap)) cap o ob) :
    Sat K (upd ι h.nx (w.heap.size, cap)) (h.new o) { w with heap := w.heap.push ob } := by
  have S1 := (S.push ob).mono (ext_upd (p := (w.heap.size, cap)) hf)
  refine (S1.place (i := h.nx) (p := (w.heap.size, cap)) (ob := ob) (o := o) (upd_self _ _ _) (by simp) S.bs (K.ownNew _ S.lo) (fun j x q e1 l1 hq hqp => ?_) hr).ofTr AH.new_tr
  by_cases hji : j = h.nx
  · exact hji
  · rw [upd_ne hji] at hq
    obtain ⟨q', ob', g1, _, _, g4, _⟩ := S.objs j x e1 l1
    rw [hq] at g1; cases g1
    have := lt_of_heap g4
    simp only at hqp; omega
theorem Fine.newO (ob : Obj) (K : Ctx) : Fine K w { w with heap := w.heap.push ob } [] :=
  ⟨by simp, fun b hb _ => heap_push hb, by simp⟩
theorem Sat.putO (S : Sat K ι h w) {i : Nat} {p : Nat × Nat} (hp : ι i = some p) {o0 : AO} (ho : h.tr.get i = some o0) (hl0 : o0.live) {o : AO} {ob : Obj} (hr : RO K.P ι p.2 o ob) :
    Sat K ι (h.put i o) { w with heap := w.heap.setIfInBounds p.1 ob } := by
  obtain ⟨p', ob0, h1, h2, h3, h4, h5⟩ := S.objs i o0 ho hl0
  obtain rfl : p = p' := by rw [hp] at h1; exact Option.some.inj h1
  have hlt : p.1 < w.heap.size := lt_of_heap h4
  refine ⟨fun j x e hl => ?_, fun a b x y q r e1 e2 l1 l2 hq hr' hqr => ?_, by simpa using S.lo, by simpa using S.bs, fun b hb => ?_, S.os, S.tape, S.output, S.oldn⟩
  · rcases AH.put_get e with ⟨rfl, rfl⟩ | ⟨hne, e'⟩
    · exact ⟨p, ob, hp, h2, h3, by simp [hlt], hr⟩
    · obtain ⟨q, ob', g1, g2, g3, g4, g5⟩ := S.objs j x e' hl
      refine ⟨q, ob', g1, g2, g3, ?_, g5⟩
      have hne' : p.1 ≠ q.1 := fun hpq => hne (S.inj j i x o0 q p e' ho hl hl0 g1 hp hpq.symm)
      simp only
      rw [Array.getElem?_setIfInBounds_ne hne']; exact g4
  · rcases AH.put_get e1 with ⟨ha, rfl⟩ | ⟨n1, e1'⟩ <;> rcases AH.put_get e2 with ⟨hb, rfl⟩ | ⟨n2, e2'⟩
    · rw [ha, hb]
    · exact S.inj a b o0 y q r (by rw [ha]; exact ho) e2' hl0 l2 hq hr' hqr
    · exact S.inj a b x o0 q r e1' (by rw [hb]; exact ho) l1 hl0 hq hr' hqr
    · exact S.inj a b x y q r e1' e2' l1 l2 hq hr' hqr
  · simp only
    rw [Array.getElem?_setIfInBounds_ne (by omega)]; exact S.old b hb
theorem Fine.putO {b : Nat} (ob : Obj) (h1 : K.base ≤ b) (h2 : K.own b) {es : List Event} (he : ∀ e ∈ es, EvF K w.heap.size e) : Fine K w { w with heap := w.heap.setIfInBounds b ob } es :=
  ⟨by simp, fun c _ hn => Array.getElem?_setIfInBounds_ne (fun hc => hn (by subst hc; exact ⟨h1, h2⟩)), by simpa using he⟩
theorem Sat.forget (S : Sat K ι h w) (i : Nat) : Sat K ι (h.put i .dead) w := by
  refine ⟨fun j x e hl => ?_, fun a b x y q r e1 e2 l1 l2 hq hr hqr => ?_, S.lo, S.bs, S.old, S.os, S.tape, S.output, S.oldn⟩
  · rcases AH.put_get e with ⟨rfl, rfl⟩ | ⟨_, e'⟩
    · exact hl.elim
    · exact S.objs j x e' hl
  · rcases AH.put_get e1 with ⟨_, rfl⟩ | ⟨_, e1'⟩
    · exact l1.elim
    · rcases AH.put_get e2 with ⟨_, rfl⟩ | ⟨_, e2'⟩
      · exact l2.elim
      · exact S.inj a b x y q r e1' e2' l1 l2 hq hr hqr
theorem Fine.refl (K : Ctx) (w : World) {es : List Event} (he : ∀ e ∈ es, EvF K w.heap.size e) : Fine K w w es := ⟨Nat.le_refl _, fun _ _ _ => rfl, he⟩
theorem Fine.trans {w1 w2 w3 : World} {e1 e2 : List Event} (h1 : Fine K w1 w2 e1) (h2 : Fine K w2 w3 e2) : Fine K w1 w3 (e1 ++ e2) :=
  ⟨Nat.le_trans h1.size h2.size, fun b hb hn => (h2.kept b (Nat.lt_of_lt_of_le hb h1.size) hn).trans (h1.kept b hb hn), fun e he => by
    rcases List.mem_append.1 he with he | he
    · exact (h1.evs e he).mono h2.size
    · exact h2.evs e he⟩
theorem Fine.drawn (K : Ctx) (w : World) (d : Nat) : Fine K w { w with drawn := d } [] := ⟨Nat.le_refl _, fun _ _ _ => rfl, by simp⟩
end
end Go.Ev
namespace Go.Ev
section
variable {P : Program} {K : Ctx} {ι : Nm} {h : AH} {w : World} {E : Env}
def LOk (P : Program) (K : Ctx) (ι : Nm) (h : AH) (w : World) (s : Sem Value) (v : AV) (h' : AH) : Prop := Free ι h.nx h'.nx →
  ∃ ι' w' nv es, SRun P s w nv w' es ∧ Grow ι ι' h.nx h'.nx ∧ Sat K ι' h' w' ∧ RV ι' v nv ∧ Fine K w w' es ∧ h'.df = h.df
def UOk (P : Program) (K : Ctx) (ι : Nm) (h : AH) (w : World) (s : Sem Unit) (h' : AH) : Prop := Free ι h.nx h'.nx →
  ∃ ι' w' es, SRun P s w () w' es ∧ Grow ι ι' h.nx h'.nx ∧ Sat K ι' h' w' ∧ Fine K w w' es ∧ h'.df = h.df
theorem LOk.bind0 {α : Type} {s : Sem α} {f : α → Sem Value} {x : α} {a : AV} {h' : AH} (h1 : SRun P s w x w []) (h2 : LOk P K ι h w (f x) a h') : LOk P K ι h w (s >>= f) a h' := fun hf => by
  obtain ⟨ι', w', nv, es, h3, h4⟩ := h2 hf
  exact ⟨ι', w', nv, es, SRun.bind0 h1 h3, h4⟩
theorem LOk.bindE {α : Type} {s : Sem α} {f : α → Sem Value} {x : α} {a : AV} {h' : AH} {e1 : List Event} (h1 : SRun P s w x w e1) (he : ∀ e ∈ e1, EvF K w.heap.size e) (h2 : LOk P K ι h w (f x) a h') : LOk P K ι h w (s >>= f) a h' := fun hf => by
  obtain ⟨ι', w', nv, es, h3, h4, h5, h6, h7, h8⟩ := h2 hf
  exact ⟨ι', w', nv, e1 ++ es, SRun.bind h1 h3, h4, h5, h6, (Fine.refl K w he).trans h7, h8⟩
theorem UOk.bind0 {α : Type} {s : Sem α} {f : α → Sem Unit} {x : α} {h' : AH} (h1 : SRun P s w x w []) (h2 : UOk P K ι h w (f x) h') : UOk P K ι h w (s >>= f) h' := fun hf => by
  obtain ⟨ι', w', es, h3, h4⟩ := h2 hf
  exact ⟨ι', w', es, SRun.bind0 h1 h3, h4⟩
theorem UOk.bindE {α : Type} {s : Sem α} {f : α → Sem Unit} {x : α} {h' : AH} {e1 : List Event} (h1 : SRun P s w x w e1) (he : ∀ e ∈ e1, EvF K w.heap.size e) (h2 : UOk P K ι h w (f x) h') : UOk P K ι h w (s >>= f) h' := fun hf => by
  obtain ⟨ι', w', es, h3, h4, h5, h6, h7⟩ := h2 hf
  exact ⟨ι', w', e1 ++ es, SRun.bind h1 h3, h4, h5, (Fine.refl K w he).trans h6, h7⟩
theorem UOk.val {s : Sem Unit} {h' : AH} {f : Unit → Sem Value} {v : AV} {u : Value} (h1 : UOk P K ι h w s h') (hv : ∀ ι', Ext ι ι' → RV ι' v u) (hf : ∀ w, SRun P (f ()) w u w []) : LOk P K ι h w (s >>= f) v h' := fun hfr => by
  obtain ⟨ι', w', es, h3, h4, h5, h6, h7⟩ := h1 hfr
  exact ⟨ι', w', u, es, by simpa using SRun.bind h3 (hf w'), h4, h5, hv ι' (h4.ext hfr), h6, h7⟩
theorem RO_cells {cap : Nat} {vs : List AV} {c : Array Value} {el : TypeId} (h : RVs ι vs c.toList) : RO P ι cap (.cells vs el false false) (.cells c el (0, 0)) :=
  ⟨c, 0, 0, rfl, ⟨c.toList, [], by simp, h⟩, fun _ => by have := h.length; simp at this; omega, fun h => (by cases h), fun _ => ⟨fun o _ => by omega, fun _ => ⟨rfl, rfl⟩⟩⟩
theorem newRow_ok (S : Sat K ι h w) (hf : ι h.nx = none) {vs : List AV} {c : Array Value} {el : TypeId} (hv : RVs ι vs c.toList) :
    ∃ ι' w', SRun P (newRow el c) w ⟨w.heap.size, 0, none⟩ w' [] ∧ Grow ι ι' h.nx (h.nx + 1) ∧ Sat K ι' (h.new (.cells vs el false false)) w' ∧ (∃ k, ι' h.nx = some (w.heap.size, k)) ∧ Fine K w w' [] := by
  have hE : Ext ι (upd ι h.nx (w.heap.size, 0)) := ext_upd hf
  refine ⟨upd ι h.nx (w.heap.size, 0), _, ?_, Grow.upd, S.newO hf (cap := 0) (RO_cells (hv.mono hE)), ⟨0, upd_self _ _ _⟩, Fine.newO _ K⟩
  unfold newRow
  exact SRun.bind (e1 := []) (e2 := []) (SRun.new _) (SRun.pure _)
theorem free_new {o : AO} (hf : Free ι h.nx (h.new o).nx) : ι h.nx = none := hf _ (Nat.le_refl _) (by rw [AH.new_nx]; omega)
theorem LOk_newRow (S : Sat K ι h w) {vs : List AV} {c : Array Value} {el : TypeId} (hv : RVs ι vs c.toList) {f : Addr → Sem Value} {a : AV} (g : Nat → Value)
    (hf : ∀ b w, SRun P (f ⟨b, 0, none⟩) w (g b) w []) (ha : ∀ ι' k b, ι' h.nx = some (b, k) → RV ι' a (g b)) :
    LOk P K ι h w (newRow el c >>= f) a (h.new (.cells vs el false false)) := fun hfr => by
  obtain ⟨ι', w', h1, h2, h3, ⟨k, h4⟩, h5⟩ := newRow_ok (P := P) (el := el) S (free_new hfr) hv
  exact ⟨ι', w', _, [], by simpa using SRun.bind h1 (hf _ w'), by rw [AH.new_nx]; exact h2, h3, ha _ _ _ h4, h5, AH.new_df⟩
theorem allocA_ok (F : Fits P E) (S : Sat K ι h w) {t : TypeId} {v : AV} {h' : AH} (e : allocA E h t = some (.val v h')) : LOk P K ι h w (Instr.alloc t true (.tuple #[])) v h' := by
  unfold allocA at e
  split at e
  · rename_i ti ht
    cases e
    obtain ⟨z, hz, _, hzc, _⟩ := zeroV_cells (w := w) (ι := ι) F ht
    refine LOk.bind0 hz ?_
    exact LOk_newRow S hzc (fun b => .pointer (some ⟨b, 0, none⟩)) (fun b w => SRun.pure _) (fun ι' k b hk => RV_ptr hk)
  · cases e
theorem boxA_ok (S : Sat K ι h w) {t : TypeId} {x v : AV} {u : Value} {h' : AH} (e : boxA E h t x = some (.val v h')) (hu : RV ι x u) : LOk P K ι h w (Instr.box t u) v h' := by
  unfold boxA at e
  split at e
  · rename_i ti ht
    obtain ⟨ha, e⟩ := cond_none_some e
    cases e
    have hc : RVs ι x.cells u.cells.toList := hu.cells (.inl ha)
    exact LOk_newRow S hc (fun b => .pointer (some ⟨b, 0, none⟩)) (fun b w => SRun.pure _) (fun ι' k b hk => RV_ptr hk)
  · cases e
def wr (c : Array Value) (off : Nat) : List Value → Array Value
  | [] => c
  | v :: vs => wr (c.setIfInBounds off v) (off + 1) vs
theorem wr_size (c : Array Value) (off : Nat) (vs : List Value) : (wr c off vs).size = c.size := by
  induction vs generalizing c off with
  | nil => rfl
  | cons v vs ih => rw [wr, ih]; simp
theorem scal_head {a : AV} {l : List AV} (h : scalL (a :: l) = true) {v : Value} (hv : RV ι a v) : (∀ cs, v ≠ .agg cs) ∧ (∀ cs, v ≠ .tuple cs) := by
  unfold scalL at h
  rw [Bool.and_eq_true] at h
  have h := h.1
  cases a <;> first
    | exact absurd h Bool.false_ne_true
    | (unfold RV at hv
       first
         | (refine ⟨fun cs h => ?_, fun cs h => ?_⟩ <;> (subst h; cases (hv : false = true)))
         | (subst hv; exact ⟨fun _ h => (by cases h), fun _ h => (by cases h)⟩)
         | (obtain ⟨_, _, rfl⟩ := hv; exact ⟨fun _ h => (by cases h), fun _ h => (by cases h)⟩)
         | (obtain ⟨_, _, _, rfl, _⟩ := hv; exact ⟨fun _ h => (by cases h), fun _ h => (by cases h)⟩)
         | (obtain ⟨_, _, rfl, _⟩ := hv; exact ⟨fun _ h => (by cases h), fun _ h => (by cases h)⟩)
         | (obtain ⟨rfl, _, _⟩ := hv; exact ⟨fun _ h => (by cases h), fun _ h => (by cases h)⟩)
         | (obtain ⟨_, rfl, _⟩ := hv; exact ⟨fun _ h => (by cases h), fun _ h => (by cases h)⟩))
theorem setCell_eq {b off : Nat} {c : Array Value} {T : TypeId} {fz : Nat × Nat} (hb : w.heap[b]? = some (.cells c T fz)) (v : Value) :
    w.setCell ⟨b, off, none⟩ v = { w with heap := w.heap.setIfInBounds b (.cells (c.setIfInBounds off v) T fz) } := by
  unfold World.setCell
  congr 1
  apply Array.ext_getElem?
  intro i
  rw [Array.getElem?_modify]
  by_cases h : b = i
  · subst h
    obtain ⟨hlt, hb2⟩ := Array.getElem?_eq_some_iff.1 hb
    simp [hlt, hb2]
  · simp [h]
theorem SRun_storeCells {b off : Nat} {T : TypeId} {lo hi : Nat} : ∀ (as : List AV) (vs : List Value) (k : Nat) (w : World) (c : Array Value), RVs ι as vs → scalL as = true →
    w.heap[b]? = some (.cells c T (lo, hi)) → off + k + vs.length ≤ c.size → (∀ o, o < c.size → ¬ (lo ≤ o ∧ o < hi)) →
    ∃ es, SRun P (storeCells ⟨b, off, none⟩ vs k) w () { w with heap := w.heap.setIfInBounds b (.cells (wr c (off + k) vs) T (lo, hi)) } es ∧ ∀ e ∈ es, ∃ o, e = ⟨.cell ⟨b, o, none⟩, true, false⟩
  | [], vs, k, w, c, hv, _, hb, _, _ => by
    rw [RVs_nil_inv hv]
    have hlt : b < w.heap.size := by rw [Array.getElem?_eq_some_iff] at hb; exact hb.1
    have : w.heap.setIfInBounds b (.cells (wr c (off + k) []) T (lo, hi)) = w.heap := by
      apply Array.ext_getElem?
      intro i
      rw [Array.getElem?_setIfInBounds]
      split
      · rename_i h; subst h
        rw [hb]; rfl
      · rfl
    rw [this]
    exact ⟨[], SRun.pure _, by simp⟩
  | a :: as, vs, k, w, c, hv, hs, hb, hle, hf => by
    obtain ⟨v, r, rfl, h1, h2⟩ := RVs_cons_inv hv
    obtain ⟨n1, n2⟩ := scal_head hs h1
    have hs' : scalL as = true := by unfold scalL at hs; rw [Bool.and_eq_true] at hs; exact hs.2
    have hlt : b < w.heap.size := by rw [Array.getElem?_eq_some_iff] at hb; exact hb.1
    have hk : off + k < c.size := by simp at hle; omega
    have hcell : w.cell? ⟨b, off + k, none⟩ = some c[off + k] := by rw [cell_of hb]; simp [hk]
    have hfr : w.frozen? ⟨b, off + k, none⟩ = false := by
      rw [frozen_of hb]
      have := hf _ hk
      by_cases h3 : lo ≤ off + k
      · simp only [h3, decide_true, Bool.true_and, decide_eq_false_iff_not]; omega
      · simp [h3]
    have h3 := SRun.store (P := P) hcell hfr n1 n2
    rw [setCell_eq hb] at h3
    obtain ⟨es, h4, h5⟩ := SRun_storeCells (b := b) (off := off) (T := T) (lo := lo) (hi := hi) as r (k + 1) { w with heap := w.heap.setIfInBounds b (.cells (c.setIfInBounds (off + k) v) T (lo, hi)) } (c.setIfInBounds (off + k) v) h2 hs'
      (by simp [hlt]) (by simp only [List.length_cons] at hle; simp only [Array.size_setIfInBounds]; omega) (fun o ho => hf o (by simpa using ho))
    refine ⟨_, by
      unfold storeCells
      rw [add_none]
      have := SRun.bind (f := fun _ => storeCells ⟨b, off, none⟩ r (k + 1)) h3 h4
      rw [show wr c (off + k) (v :: r) = wr (c.setIfInBounds (off + k) v) (off + (k + 1)) r from rfl]
      have e2 : (w.heap.setIfInBounds b (.cells (c.setIfInBounds (off + k) v) T (lo, hi))).setIfInBounds b (.cells (wr (c.setIfInBounds (off + k) v) (off + (k + 1)) r) T (lo, hi)) = w.heap.setIfInBounds b (.cells (wr (c.setIfInBounds (off + k) v) (off + (k + 1)) r) T (lo, hi)) := by
        apply Array.ext_getElem?
        intro i
        simp only [Array.getElem?_setIfInBounds]
        split <;> simp_all
      simp only [e2] at this
      exact this, ?_⟩
    intro e he
    rcases List.mem_append.1 he with he | he
    · simp at he; subst he; exact ⟨_, rfl⟩
    · exact h5 e he
theorem RVs_wr {as : List AV} {vs : List Value} {l : List AV} {c : Array Value} {l2 : List Value} {off : Nat} (h : RVs ι as vs) (hc : ∃ l1, c.toList = l1 ++ l2 ∧ RVs ι l l1) (hle : off + vs.length ≤ l.length) :
    ∃ l1, (wr c off vs).toList = l1 ++ l2 ∧ RVs ι (setAt l off as) l1 := by
  induction as generalizing vs l c off with
  | nil => rw [RVs_nil_inv h]; exact hc
  | cons a as ih =>
    obtain ⟨v, r, rfl, h1, h2⟩ := RVs_cons_inv h
    obtain ⟨l1, e1, e2⟩ := hc
    have hl := e2.length
    refine ih (l := l.set off a) (c := c.setIfInBounds off v) (off := off + 1) h2 ⟨l1.set off v, ?_, e2.set _ h1⟩ (by simp at hle ⊢; omega)
    rw [Array.toList_setIfInBounds, e1, List.set_append_left]
    simp at hle; omega
theorem storeC_ok (S : Sat K ι h w) {id off : Nat} {as : List AV} {h' : AH} {p : Nat × Nat} (hp : ι id = some p) (e : storeC h id off as = some h') {vs : List Value} (hv : RVs ι as vs) :
    UOk P K ι h w (storeCells ⟨p.1, off, none⟩ vs 0) h' := fun _ => by
  unfold storeC at e
  split at e
  · rename_i l el g ho
    obtain ⟨hc, rfl⟩ := cond_some e
    rw [Bool.and_eq_true] at hc
    obtain ⟨hle, hs⟩ := hc
    have hle := Nat.le_of_ble_eq_true hle
    obtain ⟨q, ob, hq, hb1, hown, hlt, hb, c, lo, hi, rfl, ⟨l1, l2, hc, hl⟩, h1, h2, h3⟩ := S.at ho trivial
    obtain rfl : p = q := by rw [hp] at hq; exact Option.some.inj hq
    have hlen := hv.length
    have hl1 := hl.length
    have hsz : c.size = l1.length + l2.length := by have := congrArg List.length hc; simpa using this
    obtain ⟨es, g1, g2⟩ := SRun_storeCells (P := P) (ι := ι) (b := p.1) (off := off) (T := el) (lo := lo) (hi := hi) as vs 0 w c hv hs hb (by omega) (h3 rfl).1
    obtain ⟨m1, e1, e2⟩ := RVs_wr (c := c) (off := off) (l2 := l2) hv ⟨l1, hc, hl⟩ (by omega)
    refine ⟨ι, _, es, g1, by rw [AH.put_nx]; exact Grow.refl _ _, S.putO hp (AH.obj_live ho trivial) trivial ⟨wr c off vs, lo, hi, rfl, ⟨m1, l2, e1, e2⟩, fun hg => ?_, fun hg => ?_, fun hz => ⟨fun o ho => ?_, (h3 hz).2⟩⟩, Fine.putO _ hb1 hown ?_, AH.put_df⟩
    · rw [wr_size, setAt_length]; exact h1 hg
    · rw [wr_size]; exact h2 hg
    · rw [wr_size] at ho; exact (h3 hz).1 o ho
    · intro e he
      obtain ⟨o, rfl⟩ := g2 e he
      exact ⟨.inl ⟨hb1, hown⟩, hlt⟩
  · cases e
theorem storeA_ok (F : Fits P E) (S : Sat K ι h w) {t : TypeId} {a x v : AV} {h' : AH} (e : storeA E h t a x = some (.val v h')) {u y : Value} (hu : RV ι a u) (hy : RV ι x y) :
    UOk P K ι h w (Instr.storeAt t u y) h' ∧ v = undefA := by
  unfold storeA at e
  split at e
  · rename_i ti id off ht
    obtain ⟨ha, e⟩ := cond_none_some e
    obtain ⟨hs, e⟩ := condO_some e
    cases hc : storeC h id off x.cells with
    | none => rw [hc] at e; cases e
    | some h1 =>
      rw [hc] at e; cases e
      obtain ⟨p, hp, rfl⟩ := ptr_inv hu
      obtain ⟨hcs, hsz⟩ := cells_size hy ha hs
      refine ⟨?_, rfl⟩
      show UOk P K ι h w (Pure.pure (⟨p.1, off, none⟩ : Addr) >>= fun a => storeVar t a y) h'
      refine UOk.bind0 (SRun.pure _) ?_
      unfold storeVar
      refine UOk.bind0 (SRun_sizeOf (tt_of F ht)) ?_
      simp only [hsz, ne_eq, not_true_eq_false, if_false]
      exact storeC_ok S hp hc hcs
  · cases e
end
end Go.Ev
namespace Go.Ev
section
variable {P : Program} {K : Ctx} {ι : Nm} {h : AH} {w : World} {E : Env}
theorem rep_length (n : Nat) (z : List AV) : (rep n z).length = n * z.length := by
  induction n with
  | zero => simp [rep]
  | succ n ih => rw [rep, List.length_append, ih, Nat.add_mul]; omega
theorem rep_get {z : List AV} : ∀ (n i : Nat), i < n * z.length → (rep n z)[i]? = z[i % z.length]?
  | 0, i, h => by simp at h
  | n + 1, i, h => by
    rw [rep]
    by_cases hi : i < z.length
    · rw [List.getElem?_append_left hi, Nat.mod_eq_of_lt hi]
    · rw [List.getElem?_append_right (by omega), rep_get n (i - z.length) (by rw [Nat.succ_mul] at h; omega), Nat.mod_eq_sub_mod (a := i) (by omega)]
theorem RVs_rep {z : List AV} {c : Array Value} (h : RVs ι z c.toList) (n k : Nat) (hk : k = n * z.length) : RVs ι (rep n z) ((Array.range k).map (c[· % c.size]!)).toList := by
  have hlen : z.length = c.size := by rw [h.length]; simp
  refine RVs.of_get (by simp [rep_length, hk]) fun i a v h1 h2 => ?_
  have hi : i < n * z.length := by
    have := h1; rw [List.getElem?_eq_some_iff] at this
    obtain ⟨hlt, _⟩ := this
    rw [rep_length] at hlt; exact hlt
  rw [rep_get n i hi] at h1
  obtain ⟨v', hv', hr⟩ := h.get h1
  have : v = v' := by
    rw [Array.getElem?_toList, Array.getElem?_map] at h2
    rw [Array.getElem?_toList] at hv'
    have hr' : (Array.range k)[i]? = some i := by rw [Array.getElem?_range]; simp [hk, hi]
    rw [hr'] at h2
    simp only [Option.map_some, Option.some.injEq] at h2
    rw [← h2, ← hlen]
    rw [Array.getElem!_eq_getD, Array.getD_eq_getD_getElem?, hv']; rfl
  rw [this]; exact hr
theorem i64_wrap {n : Int} (h1 : 0 ≤ n) (h2 : n < 9223372036854775808) : IntKind.i64.wrap n = n := IntWalk.i64_in n (by omega)
theorem buildSliceA_ok (F : Fits P E) (S : Sat K ι h w) {t : TypeId} {len : Nat} {ps : List (Nat × AV)} {vs : Array (Nat × Value)} {v : AV} {h' : AH} (e : buildSliceA E h t len ps = some (.val v h')) (hv : RVp ι ps vs.toList) :
    LOk P K ι h w (Instr.buildSlice t len vs) v h' := by
  unfold buildSliceA at e
  split at e
  · rename_i el hd
    split at e
    · rename_i ei he
      obtain ⟨hb, e⟩ := cond_none_some e
      have hb : ¬ (65536 < len * ei.size) := fun h => by rw [← Nat.blt_eq, hb] at h; cases h
      cases hf : fillA (fun i => some (i * ei.size, ei.size)) (rep len ei.zero) ps with
      | none => rw [hf] at e; cases e
      | some r =>
        rw [hf] at e; cases e
        obtain ⟨z, hz, _, hzc, hzs, hzl⟩ := zeroV_cells (w := w) (ι := ι) F he
        unfold Instr.buildSlice
        refine LOk.bind0 (SRun.underlying (desc_slice F hd)) ?_
        refine LOk.bind0 (SRun_sizeOf (tt_of F he)) ?_
        have hb' : ¬ (len * ei.size > 2 ^ 24) := by omega
        simp only [hb', if_false]
        have tail : ∀ c : Array Value, RVs ι (rep len ei.zero) ((Array.range (len * ei.size)).map (c[· % c.size]!)).toList → LOk P K ι h w (do
            let some cells := Instr.fill (fun i => some (i * ei.size, ei.size)) ((Array.range (len * ei.size)).map (c[· % c.size]!)) vs.toList | stuck "buildSlice: a part of the wrong size"
            Pure.pure (.slice (some (← newRow el cells)) len len)) (.sl h.nx 0 len (some len)) (h.new (.cells r el false false)) := by
          intro c hc2
          obtain ⟨c', hf', hr⟩ := fillA_ok (place := fun i => some (i * ei.size, ei.size)) (fun i q hq => hq) hf hv hc2
          simp only [hf']
          exact LOk_newRow S hr (fun b => .slice (some ⟨b, 0, none⟩) len len) (fun b w => SRun.pure _) (fun ι' k b hk => by
            unfold RV; exact ⟨_, hk, len, rfl, Nat.le_refl _, fun k hk => by cases hk; rfl, fun hn => by cases hn⟩)
        by_cases h0 : len * ei.size = 0
        · rw [if_pos h0]
          refine LOk.bind0 (SRun.pure _) (tail #[] ?_)
          rw [h0]
          have : rep len ei.zero = [] := List.length_eq_zero_iff.1 (by rw [rep_length, hzl]; exact h0)
          rw [this]; simp; exact RVs_nil
        · rw [if_neg h0]
          exact LOk.bind0 hz (LOk.bind0 (SRun.pure _) (tail z.cells (RVs_rep hzc len _ (by rw [hzl]))))
    · cases e
  · cases e
theorem makeSliceA_ok (F : Fits P E) (S : Sat K ι h w) {t : TypeId} {l c : AV} {vl vc : Value} {v : AV} {h' : AH} (e : makeSliceA E h t l c = some (.val v h')) (hl : RV ι l vl) (hc : RV ι c vc) :
    LOk P K ι h w (Instr.makeSlice t vl vc) v h' := by
  unfold makeSliceA at e
  split at e
  · rename_i el k n k' m hd
    split at e
    · rename_i ei he
      obtain ⟨hb, e⟩ := cond_some e
      cases e
      rw [Bool.and_eq_true, decide_eq_true_eq] at hb
      obtain ⟨⟨hn0, hnm, hm⟩, hbytes⟩ := hb
      have hbytes := Nat.le_of_ble_eq_true hbytes
      obtain rfl := int_inv hl
      obtain rfl := int_inv hc
      obtain ⟨i, z, hi, hs, hby, hz, _, hzc, hzs, hzl⟩ := (tt_of F he).info
      have hzv : SRun P (zeroValue el) w z w [] := SRun.zeroValue hi hz
      unfold Instr.makeSlice
      refine LOk.bind0 (SRun.underlying (desc_slice F hd)) ?_
      refine LOk.bind0 (x := n) (SRun.pure _) ?_
      refine LOk.bind0 (x := m) (SRun.pure _) ?_
      refine LOk.bind0 (SRun.typeInfo hi) ?_
      have wn : IntKind.i64.wrap n = n := i64_wrap (by omega) (by omega)
      have wm : IntKind.i64.wrap m = m := i64_wrap (by omega) (by omega)
      have hlt : (i.bytes : Int) * m ≤ 4096 * 65536 := by
        rw [hby]
        exact Int.mul_le_mul (by omega) hm (by omega) (by omega)
      have hbig : ¬ ((i.bytes : Int) * m > 2 ^ 48) := by omega
      have hn1 : ¬ n < 0 := by omega
      have hm1 : ¬ m < 0 := by omega
      have hnm1 : ¬ n > m := by omega
      simp only [wn, wm, hbig, hn1, hm1, hnm1, decide_false, Bool.or_false, Bool.false_eq_true, if_false]
      have hroom : ¬ (m.toNat * i.bytes > roomBytes) := by
        unfold roomBytes
        have h1 : m.toNat ≤ 65536 := by omega
        have h2 : i.bytes ≤ 4096 := by omega
        have := Nat.mul_le_mul h1 h2
        omega
      refine LOk.bind0 (x := ()) ?_ ?_
      · unfold askRoom; rw [if_neg hroom]; exact SRun.pure _
      refine LOk.bind0 (SRun_sizeOf (tt_of F he)) ?_
      have tail : ∀ c : Array Value, RVs ι (rep m.toNat ei.zero) ((Array.range (m.toNat * ei.size)).map (c[· % c.size]!)).toList → LOk P K ι h w (do
          let a ← newRow el ((Array.range (m.toNat * ei.size)).map (c[· % c.size]!))
          Pure.pure (.slice (some a) n.toNat m.toNat)) (.sl h.nx 0 n.toNat (some m.toNat)) (h.new (.cells (rep m.toNat ei.zero) el false false)) := by
        intro c hc2
        exact LOk_newRow S hc2 (fun b => .slice (some ⟨b, 0, none⟩) n.toNat m.toNat) (fun b w => SRun.pure _) (fun ι' k b hk => by
          unfold RV; exact ⟨_, hk, m.toNat, rfl, by omega, fun k hk => by cases hk; rfl, fun hn => by cases hn⟩)
      by_cases h0 : m.toNat * ei.size = 0
      · rw [if_pos h0]
        refine LOk.bind0 (SRun.pure _) (tail #[] ?_)
        rw [h0]
        have : rep m.toNat ei.zero = [] := List.length_eq_zero_iff.1 (by rw [rep_length, hzl]; exact h0)
        rw [this]; simp; exact RVs_nil
      · rw [if_neg h0]
        exact LOk.bind0 hzv (LOk.bind0 (SRun.pure _) (tail z.cells (RVs_rep (hzc ι) m.toNat _ (by rw [hzl]))))
    · cases e
  · cases e
theorem condDead {b : Bool} {o x : AO} (e : cond b o .dead = x) (hx : x.live) : b = true ∧ o = x := by
  cases b with
  | true => exact ⟨rfl, e⟩
  | false => subst e; exact hx.elim
theorem setObj_ok (S : Sat K ι h w) {id : Nat} {p : Nat × Nat} (hp : ι id = some p) {o0 : AO} (ho : h.obj id = o0) (hl : o0.live) {ob0 : Obj} (hb : w.heap[p.1]? = some ob0) (hc0 : ∀ c e f, ob0 ≠ .cells c e f)
    {o : AO} {ob : Obj} (hr : RO K.P ι p.2 o ob) (hch : ob.isChan = false) : UOk P K ι h w (Go.setObj p.1 ob) (h.put id o) := fun _ => by
  obtain ⟨q, ob', hq, b1, b2, b3, hb', _⟩ := S.at ho hl
  obtain rfl : p = q := by rw [hp] at hq; exact Option.some.inj hq
  refine ⟨ι, _, _, SRun.setObj hb hc0, by rw [AH.put_nx]; exact Grow.refl _ _, S.putO hp (AH.obj_live ho hl) hl hr, Fine.putO _ b1 b2 ?_, AH.put_df⟩
  intro e he
  simp only [List.mem_singleton] at he
  subst he
  exact ⟨b1, b2, b3, hch⟩
theorem newMap_ok (S : Sat K ι h w) {f : Nat → Sem Value} (hf : ∀ b w, SRun P (f b) w (.map (some b)) w []) : LOk P K ι h w (newObj (.map #[] 0) >>= f) (.map h.nx) (h.new (.map [] 0)) := fun hfr => by
  have hf' := free_new hfr
  refine ⟨upd ι h.nx (w.heap.size, 0), { w with heap := w.heap.push (.map #[] 0) }, .map (some w.heap.size), [], ?_, by rw [AH.new_nx]; exact Grow.upd, S.newO hf' ⟨#[], rfl, rfl⟩, ?_, Fine.newO _ K, AH.new_df⟩
  · exact SRun.bind (e1 := []) (e2 := []) (SRun.new _) (hf _ _)
  · unfold RV; exact ⟨_, upd_self _ _ _, rfl⟩
theorem makeMapA_ok (F : Fits P E) (S : Sat K ι h w) {t : TypeId} {r : Option AV} {vr : Option Value} {v : AV} {h' : AH} (e : makeMapA E h t r = some (.val v h')) (hr : RVo ι r vr) :
    LOk P K ι h w (Instr.makeMap t vr) v h' := by
  unfold makeMapA at e
  split at e
  · cases e
    have : vr = none := hr
    subst this
    unfold Instr.makeMap
    exact newMap_ok S (fun b w => SRun.pure _)
  · rename_i k n
    split at e
    · rename_i kt el hd
      cases e
      obtain ⟨u, rfl, hu⟩ := hr
      obtain rfl := int_inv hu
      unfold Instr.makeMap
      refine LOk.bind0 (SRun.underlying (desc_map F hd).1) ?_
      refine LOk.bind0 (x := n) (SRun.pure _) ?_
      exact newMap_ok S (fun b w => SRun.pure _)
    · cases e
  · cases e
theorem eqS_same {x y : AV} {v u : Value} (e : eqS x y = some true) (hv : RV ι x v) (hu : RV ι y u) : v = u ∧ ∀ n, Instr.sameBits n v v = true := by
  cases x <;> cases y <;> try (cases e; done)
  · rename_i a b
    simp only [eqS, Option.some.injEq, beq_iff_eq] at e
    subst e
    rw [bool_inv hv, bool_inv hu]
    exact ⟨rfl, fun n => by cases n <;> simp [Instr.sameBits]⟩
  · rename_i k a k' b
    simp only [eqS] at e
    obtain ⟨h1, h2⟩ := cond_some e
    rw [ikEq_true h1] at hv
    simp only [beq_iff_eq] at h2
    subst h2
    rw [int_inv hv, int_inv hu]
    exact ⟨rfl, fun n => by cases n <;> simp [Instr.sameBits]⟩
  · rename_i a b
    simp only [eqS, Option.some.injEq, beq_iff_eq] at e
    subst e
    rw [str_inv hv, str_inv hu]
    refine ⟨rfl, fun n => ?_⟩
    have : ((⟨a.toArray⟩ : ByteArray) == ⟨a.toArray⟩) = true := by rw [bytes_beq]; simp
    cases n <;> simpa [Instr.sameBits] using this
theorem eqL_same : ∀ {l m : List AV} {vs us : List Value}, eqL l m = some true → RVs ι l vs → RVs ι m us → vs = us ∧ ∀ n, (vs.zip vs).all (fun (x, y) => Instr.sameBits n x y) = true
  | [], [], vs, us, _, h1, h2 => by rw [RVs_nil_inv h1, RVs_nil_inv h2]; exact ⟨rfl, fun _ => rfl⟩
  | [], _ :: _, _, _, e, _, _ => by cases e
  | _ :: _, [], _, _, e, _, _ => by cases e
  | a :: l, b :: m, vs, us, e, h1, h2 => by
    obtain ⟨v, r, rfl, g1, g2⟩ := RVs_cons_inv h1
    obtain ⟨u, s, rfl, g3, g4⟩ := RVs_cons_inv h2
    simp only [eqL] at e
    split at e
    · cases e
    · split at e <;> cases e
    · rename_i hb
      obtain ⟨i1, i2⟩ := eqS_same hb g1 g3
      obtain ⟨i3, i4⟩ := eqL_same e g2 g4
      subst i1; subst i3
      exact ⟨rfl, fun n => by simp only [List.zip_cons_cons, List.all_cons, i2 n, i4 n, Bool.and_self]⟩
theorem eqK_same {x y : AV} {v u : Value} (e : eqK x y = some true) (hv : RV ι x v) (hu : RV ι y u) : v = u ∧ Instr.sameBits 10000 v v = true := by
  unfold eqK at e
  split at e
  · obtain ⟨c, rfl, hc⟩ := agg_inv hv
    obtain ⟨d, rfl, hd⟩ := agg_inv hu
    obtain ⟨h1, h2⟩ := eqL_same e hc hd
    have hcd : c = d := Array.toList_inj.1 h1
    subst hcd
    refine ⟨rfl, ?_⟩
    show Instr.sameBits (9999 + 1) _ _ = true
    rw [Instr.sameBits]
    simp only [beq_self_eq_true, Bool.true_and]
    exact h2 9999
  · obtain ⟨h1, h2⟩ := eqS_same e hv hu
    exact ⟨h1, h2 10000⟩
theorem keyStays {v : Value} (hs : Instr.sameBits 10000 v v = true) : SRun P (Instr.keyThatStays v v) w v w [] := by
  unfold Instr.keyThatStays; rw [if_pos hs]; exact SRun.pure _
theorem findK_at {k : AV} : ∀ {es : List AE} {j i : Nat} {v : AV}, findK k es j = some (some (i, v)) → ∃ a, es[i - j]? = some a ∧ eqK k a.key = some true ∧ v = a.val ∧ j ≤ i
  | [], _, _, _, e => by cases e
  | a :: es, j, i, v, e => by
    simp only [findK] at e
    split at e
    · cases e
    · rename_i hb
      cases e
      exact ⟨a, by simp, hb, rfl, Nat.le_refl _⟩
    · obtain ⟨b, h1, h2, h3, h4⟩ := findK_at e
      refine ⟨b, ?_, h2, h3, by omega⟩
      have : i - j = (i - (j + 1)) + 1 := by omega
      rw [this]; simpa using h1
theorem REs.get {l : List AE} {es : List MapEntry} (hr : REs ι l es) {i : Nat} {a : AE} (hi : l[i]? = some a) : ∃ e, es[i]? = some e ∧ RV ι a.key e.key ∧ RV ι a.val e.val ∧ e.born = a.born := by
  induction l generalizing es i with
  | nil => simp at hi
  | cons x l ih =>
    obtain ⟨e, r, rfl, h1, h2, h3, h4⟩ := hr
    cases i with
    | zero => simp at hi; subst hi; exact ⟨e, rfl, h1, h2, h3⟩
    | succ i => simp at hi; simpa using ih h4 hi
theorem REs.modify {l : List AE} {es : List MapEntry} (hr : REs ι l es) (i : Nat) {f : AE → AE} {g : MapEntry → MapEntry}
    (hf : ∀ a e, l[i]? = some a → es[i]? = some e → RV ι a.key e.key → RV ι a.val e.val → e.born = a.born → RV ι (f a).key (g e).key ∧ RV ι (f a).val (g e).val ∧ (g e).born = (f a).born) :
    REs ι (l.modify i f) (es.modify i g) := by
  induction l generalizing es i with
  | nil =>
    have : es = [] := hr
    subst this
    simp; rfl
  | cons x l ih =>
    obtain ⟨e, r, rfl, h1, h2, h3, h4⟩ := hr
    cases i with
    | zero =>
      obtain ⟨g1, g2, g3⟩ := hf x e rfl rfl h1 h2 h3
      rw [List.modify_zero_cons, List.modify_zero_cons]
      exact ⟨_, _, rfl, g1, g2, g3, h4⟩
    | succ i =>
      rw [List.modify_succ_cons, List.modify_succ_cons]
      exact ⟨e, _, rfl, h1, h2, h3, ih h4 i fun a e' ha he => hf a e' (by simpa using ha) (by simpa using he)⟩
theorem REs.append {l m : List AE} {es fs : List MapEntry} (hr : REs ι l es) (hr' : REs ι m fs) : REs ι (l ++ m) (es ++ fs) := by
  induction l generalizing es with
  | nil =>
    have : es = [] := hr
    subst this; exact hr'
  | cons x l ih =>
    obtain ⟨e, r, rfl, h1, h2, h3, h4⟩ := hr
    exact ⟨e, _, rfl, h1, h2, h3, ih h4⟩
theorem REs.erase {l : List AE} {es : List MapEntry} (hr : REs ι l es) (i : Nat) : REs ι (l.eraseIdx i) (es.eraseIdx i) := by
  induction l generalizing es i with
  | nil =>
    have : es = [] := hr
    subst this; simp; rfl
  | cons x l ih =>
    obtain ⟨e, r, rfl, h1, h2, h3, h4⟩ := hr
    cases i with
    | zero => simpa using h4
    | succ i => simp only [List.eraseIdx_cons_succ]; exact ⟨e, _, rfl, h1, h2, h3, ih h4 i⟩
theorem mapUpdateA_ok (F : Fits P E) (S : Sat K ι h w) {t : TypeId} {m k x : AV} {vm vk vx : Value} {v : AV} {h' : AH} (e : mapUpdateA E h t m k x = some (.val v h')) (hm : RV ι m vm) (hk : RV ι k vk) (hx : RV ι x vx) :
    UOk P K ι h w (Instr.mapUpdate t vm vk vx) h' ∧ v = undefA := by
  unfold mapUpdateA at e
  split at e
  · rename_i kt el id hd
    split at e
    · rename_i es ck ho
      obtain ⟨hok, ho⟩ := condDead ho trivial
      obtain ⟨p, hp, rfl⟩ := map_inv hm
      obtain ⟨q, ob, hq, b1, b2, b3, hb, es', rfl, hr⟩ := S.at ho trivial
      obtain rfl : p = q := by rw [hp] at hq; exact Option.some.inj hq
      obtain ⟨g1, g2⟩ := SRun.getObjE (P := P) (K := K) hb (by simp) rfl b1 b2
      split at e
      · cases e
      · rename_i i v' hf
        cases e
        refine ⟨?_, rfl⟩
        obtain ⟨hck, r', hr', hfr⟩ := findK_ok (w := w) F hok hk hf hr
        cases r' with
        | none => exact hfr.elim
        | some q' =>
          obtain ⟨i', u'⟩ := q'
          obtain ⟨hi, _⟩ := hfr
          simp only at hi; subst hi
          obtain ⟨a, ha, hka, _⟩ := findK_at hf
          simp only [Nat.sub_zero] at ha
          obtain ⟨en, hen, hkn, hvn, hbn⟩ := hr.get ha
          obtain ⟨hsame, hbits⟩ := eqK_same hka hk hkn
          have hold : ((es'[i]?).map (·.key)).getD vk = vk := by
            rw [← Array.getElem?_toList, hen]; simp [hsame]
          unfold Instr.mapUpdate
          refine UOk.bind0 (SRun.underlying (desc_map F hd).1) ?_
          refine UOk.bindE g1 g2 ?_
          refine UOk.bind0 (hck _) ?_
          refine UOk.bind0 hr' ?_
          simp only [hold]
          refine UOk.bind0 (keyStays hbits) ?_
          refine setObj_ok S hp ho trivial hb (by simp) ⟨_, rfl, ?_⟩ rfl
          rw [Array.toList_modify]
          exact hr.modify i fun a e _ _ _ _ h3 => ⟨hk, hx, h3⟩
      · rename_i hf
        cases e
        refine ⟨?_, rfl⟩
        obtain ⟨hck, r', hr', hfr⟩ := findK_ok (w := w) F hok hk hf hr
        cases r' with
        | some q' => exact hfr.elim
        | none =>
          unfold Instr.mapUpdate
          refine UOk.bind0 (SRun.underlying (desc_map F hd).1) ?_
          refine UOk.bindE g1 g2 ?_
          refine UOk.bind0 (hck _) ?_
          refine UOk.bind0 hr' ?_
          refine setObj_ok S hp ho trivial hb (by simp) ⟨_, rfl, ?_⟩ rfl
          rw [Array.toList_push]
          exact hr.append ⟨_, [], rfl, hk, hx, rfl, rfl⟩
    · cases e
  · cases e
theorem int64_inv {n : Int} {v : Value} (h : RV ι (int64 n) v) : v = .int .i64 n := int_inv h
theorem mapEntryA_ok (F : Fits P E) (S : Sat K ι h w) {t : TypeId} {m k : AV} {vm vk : Value} {v : AV} {h' : AH} (e : mapEntryA E h t m k = some (.val v h')) (hm : RV ι m vm) (hk : RV ι k vk) :
    LOk P K ι h w (Instr.mapEntry t vm vk) v h' := by
  unfold mapEntryA at e
  split at e
  · rename_i kt el id hd
    split at e
    · rename_i es ck ei ho he
      obtain ⟨hok, ho⟩ := condDead ho trivial
      obtain ⟨p, hp, rfl⟩ := map_inv hm
      obtain ⟨q, ob, hq, b1, b2, b3, hb, es', rfl, hr⟩ := S.at ho trivial
      obtain rfl : p = q := by rw [hp] at hq; exact Option.some.inj hq
      obtain ⟨g1, g2⟩ := SRun.getObjE (P := P) (K := K) hb (by simp) rfl b1 b2
      split at e
      · cases e
      · rename_i i v' hf
        split at e
        · rename_i en0 hen0
          cases e
          obtain ⟨hck, r', hr', hfr⟩ := findK_ok (w := w) F hok hk hf hr
          cases r' with
          | none => exact hfr.elim
          | some q' =>
            obtain ⟨i', u'⟩ := q'
            obtain ⟨hi, hu'⟩ := hfr
            simp only at hi; subst hi
            obtain ⟨a, ha, hka, _⟩ := findK_at hf
            simp only [Nat.sub_zero] at ha
            rw [hen0] at ha; cases ha
            obtain ⟨en, hen, hkn, hvn, hbn⟩ := hr.get hen0
            obtain ⟨hsame, hbits⟩ := eqK_same hka hk hkn
            have hold : ((es'[i]?).map (·.key)).getD vk = vk := by
              rw [← Array.getElem?_toList, hen]; simp [hsame]
            have hborn : ((es'[i]?).map (fun x => (x.born : Int))).getD 0 = en0.born := by
              rw [← Array.getElem?_toList, hen]; simp [hbn]
            unfold Instr.mapEntry
            refine LOk.bind0 (SRun.underlying (desc_map F hd).1) ?_
            refine LOk.bindE g1 g2 ?_
            refine LOk.bind0 (hck _) ?_
            refine LOk.bind0 hr' ?_
            simp only [hold, hborn]
            refine LOk.bind0 (keyStays hbits) ?_
            refine UOk.val (setObj_ok S hp ho trivial hb (by simp) ⟨_, rfl, ?_⟩ rfl) (fun ι' hE => RV_tup (RVs_cons (hu'.mono hE) (RVs_cons RV_int RVs_nil))) (fun w => SRun.pure _)
            rw [Array.toList_modify]
            exact hr.modify i fun a e _ _ _ h2 h3 => ⟨hk, h2, h3⟩
        · cases e
      · rename_i hf
        cases e
        obtain ⟨z, hz, hz1, _⟩ := zeroV_cells (w := w) (ι := ι) F he
        obtain ⟨hck, r', hr', hfr⟩ := findK_ok (w := w) F hok hk hf hr
        cases r' with
        | some q' => exact hfr.elim
        | none =>
          unfold Instr.mapEntry
          refine LOk.bind0 (SRun.underlying (desc_map F hd).1) ?_
          refine LOk.bindE g1 g2 ?_
          refine LOk.bind0 (hck _) ?_
          refine LOk.bind0 hr' ?_
          refine LOk.bind0 hz ?_
          refine UOk.val (setObj_ok S hp ho trivial hb (by simp) ⟨_, rfl, ?_⟩ rfl) (fun ι' hE => RV_tup (RVs_cons (hz1.mono hE) (RVs_cons RV_int RVs_nil))) (fun w => SRun.pure _)
          rw [Array.toList_push]
          exact hr.append ⟨_, [], rfl, hk, hz1, rfl, rfl⟩
    · cases e
  · cases e
theorem REs.findIdx {q : AE → Bool} {q' : MapEntry → Bool} (hq : ∀ a e, e.born = a.born → q a = q' e) {l : List AE} {es : List MapEntry} (hr : REs ι l es) : l.findIdx? q = es.findIdx? q' := by
  induction l generalizing es with
  | nil =>
    have : es = [] := hr
    subst this; rfl
  | cons x l ih =>
    obtain ⟨e, r, rfl, h1, h2, h3, h4⟩ := hr
    rw [List.findIdx?_cons, List.findIdx?_cons, hq x e h3, ih h4]
theorem entryStoreA_ok (S : Sat K ι h w) {t : TypeId} {m s x : AV} {vm vs vx : Value} {v : AV} {h' : AH} (e : entryStoreA h m s x = some (.val v h')) (hm : RV ι m vm) (hs : RV ι s vs) (hx : RV ι x vx) :
    UOk P K ι h w (Instr.entryStore t vm vs vx) h' ∧ v = undefA := by
  unfold entryStoreA at e
  split at e
  · rename_i id k st
    split at e
    · rename_i es ck ho
      split at e
      · rename_i i hf
        cases e
        refine ⟨?_, rfl⟩
        obtain ⟨p, hp, rfl⟩ := map_inv hm
        obtain rfl := int_inv hs
        obtain ⟨q, ob, hq, b1, b2, b3, hb, es', rfl, hr⟩ := S.at ho trivial
        obtain rfl : p = q := by rw [hp] at hq; exact Option.some.inj hq
        obtain ⟨g1, g2⟩ := SRun.getObjE (P := P) (K := K) hb (by simp) rfl b1 b2
        unfold Instr.entryStore
        refine UOk.bindE g1 g2 ?_
        refine UOk.bind0 (x := st) (SRun.pure _) ?_
        have hfi : es'.findIdx? (fun e => (e.born : Int) == st) = some i := by
          have := hr.findIdx (q := fun e => (e.born : Int) == st) (q' := fun e => (e.born : Int) == st) (fun a e h => by rw [h])
          rw [hf] at this
          have h2 : es'.findIdx? (fun e => (e.born : Int) == st) = es'.toList.findIdx? (fun e => (e.born : Int) == st) := by
            rcases es' with ⟨l⟩; simp
          rw [h2, ← this]
        simp only [hfi]
        refine setObj_ok S hp ho trivial hb (by simp) ⟨_, rfl, ?_⟩ rfl
        rw [Array.toList_modify]
        exact hr.modify i fun a e _ _ h1 _ h3 => ⟨h1, hx, h3⟩
      · cases e
    · cases e
  · cases e
theorem deleteA_ok (F : Fits P E) (S : Sat K ι h w) {t ty : TypeId} {m k : AV} {vm vk : Value} {v : AV} {h' : AH} (e : deleteA E h t m k = some (.val v h')) (hm : RV ι m vm) (hk : RV ι k vk) :
    LOk P K ι h w (Builtin.delete_ #[t] ty #[vm, vk]) v h' := by
  unfold deleteA at e
  split at e
  · rename_i kt el hd
    obtain ⟨hok, e⟩ := cond_some e
    cases e
    have hm : vm = .map none := by unfold RV at hm; exact hm
    subst hm
    have hck := (findK_ok (w := w) F hok hk (es := []) (vs := []) (r := none) rfl rfl).1
    unfold Builtin.delete_
    refine LOk.bind0 (SRun.underlying (desc_map F hd).1) ?_
    refine LOk.bind0 (hck _) ?_
    exact fun _ => ⟨ι, w, _, [], SRun.pure _, Grow.refl _ _, S, RV_undef, Fine.refl K w (by simp), rfl⟩
  · rename_i kt el id hd
    split at e
    · rename_i es ck ho
      obtain ⟨hok, ho⟩ := condDead ho trivial
      obtain ⟨p, hp, rfl⟩ := map_inv hm
      obtain ⟨q, ob, hq, b1, b2, b3, hb, es', rfl, hr⟩ := S.at ho trivial
      obtain rfl : p = q := by rw [hp] at hq; exact Option.some.inj hq
      obtain ⟨g1, g2⟩ := SRun.getObjE (P := P) (K := K) hb (by simp) rfl b1 b2
      split at e
      · cases e
      · rename_i i v' hf
        cases e
        obtain ⟨hck, r', hr', hfr⟩ := findK_ok (w := w) F hok hk hf hr
        cases r' with
        | none => exact hfr.elim
        | some q' =>
          obtain ⟨i', u'⟩ := q'
          obtain ⟨hi, _⟩ := hfr
          simp only at hi; subst hi
          unfold Builtin.delete_
          refine LOk.bind0 (SRun.underlying (desc_map F hd).1) ?_
          refine LOk.bindE g1 g2 ?_
          refine LOk.bind0 (hck _) ?_
          refine LOk.bind0 hr' ?_
          refine UOk.val (setObj_ok S hp ho trivial hb (by simp) ⟨_, rfl, ?_⟩ rfl) (fun ι' hE => RV_undef) (fun w => SRun.pure _)
          have : (es'.eraseIdxIfInBounds i).toList = es'.toList.eraseIdx i := by simp
          rw [this]
          exact hr.erase i
      · rename_i hf
        cases e
        obtain ⟨hck, r', hr', hfr⟩ := findK_ok (w := w) F hok hk hf hr
        cases r' with
        | some q' => exact hfr.elim
        | none =>
          unfold Builtin.delete_
          refine LOk.bind0 (SRun.underlying (desc_map F hd).1) ?_
          refine LOk.bindE g1 g2 ?_
          refine LOk.bind0 (hck _) ?_
          refine LOk.bind0 hr' ?_
          exact UOk.val (setObj_ok S hp ho trivial hb (by simp) ⟨_, rfl, hr⟩ rfl) (fun ι' hE => RV_undef) (fun w => SRun.pure _)
    · cases e
  · cases e
theorem clearA_ok (F : Fits P E) (S : Sat K ι h w) {t ty : TypeId} {m : AV} {vm : Value} {v : AV} {h' : AH} (e : clearA E h t m = some (.val v h')) (hm : RV ι m vm) :
    LOk P K ι h w (Builtin.clear_ #[t] ty #[vm]) v h' := by
  unfold clearA at e
  split at e
  · rename_i kt el id hd
    split at e
    · rename_i es ck ho
      cases e
      obtain ⟨p, hp, rfl⟩ := map_inv hm
      obtain ⟨q, ob, hq, b1, b2, b3, hb, es', rfl, hr⟩ := S.at ho trivial
      obtain rfl : p = q := by rw [hp] at hq; exact Option.some.inj hq
      obtain ⟨g1, g2⟩ := SRun.getObjE (P := P) (K := K) hb (by simp) rfl b1 b2
      unfold Builtin.clear_
      refine LOk.bind0 (SRun.underlying (desc_map F hd).1) ?_
      refine LOk.bindE g1 g2 ?_
      exact UOk.val (setObj_ok S hp ho trivial hb (by simp) ⟨#[], rfl, rfl⟩ rfl) (fun ι' hE => RV_undef) (fun w => SRun.pure _)
    · cases e
  · cases e
end
end Go.Ev
namespace Go.Ev
section
variable {P : Program} {K : Ctx} {ι : Nm} {h : AH} {w : World} {E : Env}
theorem LOk_newObj (S : Sat K ι h w) {o : AO} {ob : Obj} {cap : Nat} (hr : RO K.P ι cap o ob) {f : Nat → Sem Value} {a : AV} (g : Nat → Value) (hf : ∀ b w, SRun P (f b) w (g b) w [])
    (ha : ∀ ι' b, ι' h.nx = some (b, cap) → Ext ι ι' → RV ι' a (g b)) : LOk P K ι h w (newObj ob >>= f) a (h.new o) := fun hfr => by
  have hf' := free_new hfr
  have hE : Ext ι (upd ι h.nx (w.heap.size, cap)) := ext_upd hf'
  exact ⟨upd ι h.nx (w.heap.size, cap), { w with heap := w.heap.push ob }, g w.heap.size, [], SRun.bind (e1 := []) (e2 := []) (SRun.new _) (hf _ _), by rw [AH.new_nx]; exact Grow.upd, S.newO hf' (hr.mono hE), ha _ _ (upd_self _ _ _) hE, Fine.newO _ K, AH.new_df⟩
theorem rangeA_ok (F : Fits P E) (S : Sat K ι h w) {t : TypeId} {x : AV} {vx : Value} {v : AV} {h' : AH} (e : rangeA E h t x = some (.val v h')) (hx : RV ι x vx) : LOk P K ι h w (Instr.range t vx) v h' := by
  unfold rangeA at e
  have ptr : ∀ {ι' : Nm} {i b k : Nat}, ι' i = some (b, k) → RV ι' (.ptr i 0) (.pointer (some ⟨b, 0, none⟩)) := fun hi => RV_ptr hi
  split at e
  · rename_i s hd
    cases e
    obtain rfl := str_inv hx
    unfold Instr.range
    refine LOk.bind0 (SRun.underlying (desc_str F hd)) ?_
    refine LOk.bind0 (SRun.pure _) ?_
    exact LOk_newObj S (cap := 0) (o := .sit s 0) (ob := .stringIter ⟨s.toArray⟩ 0) rfl (fun b => .pointer (some ⟨b, 0, none⟩)) (fun b w => SRun.pure _) (fun ι' b hb _ => ptr hb)
  · rename_i k el hd
    cases e
    unfold RV at hx; subst hx
    unfold Instr.range
    refine LOk.bind0 (SRun.underlying (desc_map F hd).1) ?_
    refine LOk.bind0 (SRun.pure _) ?_
    exact LOk_newObj S (cap := 0) (o := .mit none 0 [] 0) (ob := .mapIter none 0 #[] 0) ⟨none, fun j hj => (by cases hj), fun _ => rfl, rfl⟩ (fun b => .pointer (some ⟨b, 0, none⟩)) (fun b w => SRun.pure _) (fun ι' b hb _ => ptr hb)
  · rename_i k el id hd
    split at e
    · rename_i es ck ho
      cases e
      obtain ⟨p, hp, rfl⟩ := map_inv hx
      obtain ⟨q, ob, hq, b1, b2, b3, hb, es', rfl, hr⟩ := S.at ho trivial
      obtain rfl : p = q := by rw [hp] at hq; exact Option.some.inj hq
      obtain ⟨g1, g2⟩ := SRun.getObjE (P := P) (K := K) hb (by simp) rfl b1 b2
      unfold Instr.range
      refine LOk.bind0 (SRun.underlying (desc_map F hd).1) ?_
      refine LOk.bindE g1 g2 ?_
      refine LOk.bind0 (SRun.pure _) ?_
      exact LOk_newObj S (cap := 0) (o := .mit (some id) ck [] ck) (ob := .mapIter (some p.1) ck #[] ck) ⟨some p.1, fun j hj => (by cases hj; exact ⟨p, hp, rfl⟩), fun h => (by cases h), rfl⟩ (fun b => .pointer (some ⟨b, 0, none⟩)) (fun b w => SRun.pure _) (fun ι' b hb _ => ptr hb)
    · cases e
  · cases e
def AOk (P : Program) (K : Ctx) (ι : Nm) (h : AH) (w : World) (s : Sem Value) (l : List (AV × AH)) : Prop := ∃ p ∈ l, LOk P K ι h w s p.1 p.2
theorem LOk.after {s : Sem Nat} {f : Nat → Sem Value} {k d : Nat} {a : AV} {h' : AH} (h1 : SRun P s w k { w with drawn := d } []) (h2 : LOk P K ι h { w with drawn := d } (f k) a h') : LOk P K ι h w (s >>= f) a h' := fun hf => by
  obtain ⟨ι', w', nv, es, h3, h4, h5, h6, h7, h8⟩ := h2 hf
  exact ⟨ι', w', nv, es, SRun.bind0 h1 h3, h4, h5, h6, by simpa using (Fine.drawn K w d).trans h7, h8⟩
theorem LOk.choose {q : Question} {f : Nat → Sem Value} {a : AV} {h' : AH} (h2 : ∀ k d, (∃ t, k = q.cut t ∨ k = 0 ∧ q.forced = true) → LOk P K ι h { w with drawn := d } (f k) a h') : LOk P K ι h w (Go.choose q >>= f) a h' := by
  obtain ⟨k, w', h1, ⟨d, rfl⟩, hk⟩ := SRun.choose (P := P) (w := w) q
  exact LOk.after h1 (h2 k d hk)
theorem REs.all {q : AE → Bool} {q' : MapEntry → Bool} (hq : ∀ a e, e.born = a.born → q a = q' e) {l : List AE} {es : List MapEntry} (hr : REs ι l es) : l.all q = es.all q' := by
  induction l generalizing es with
  | nil =>
    have : es = [] := hr
    subst this; rfl
  | cons x l ih =>
    obtain ⟨e, r, rfl, h1, h2, h3, h4⟩ := hr
    rw [List.all_cons, List.all_cons, hq x e h3, ih h4]
theorem REs.filter {q : AE → Bool} {q' : MapEntry → Bool} (hq : ∀ a e, e.born = a.born → q a = q' e) {l : List AE} {es : List MapEntry} (hr : REs ι l es) : REs ι (l.filter q) (es.filter q') := by
  induction l generalizing es with
  | nil =>
    have : es = [] := hr
    subst this; exact rfl
  | cons x l ih =>
    obtain ⟨e, r, rfl, h1, h2, h3, h4⟩ := hr
    rw [List.filter_cons, List.filter_cons, hq x e h3]
    split
    · exact ⟨e, _, rfl, h1, h2, h3, ih h4⟩
    · exact ih h4
theorem decode_ascii {s : List UInt8} {pos : Nat} {b : UInt8} (hb : s[pos]? = some b) (hlt : b.toNat < 128) : Utf8.decode ⟨s.toArray⟩ pos = (b.toNat, 1) := by
  have hp : pos < s.length := by rw [List.getElem?_eq_some_iff] at hb; exact hb.1
  have h0 : (⟨s.toArray⟩ : ByteArray).get! (pos + 0) = b := by
    have : (⟨s.toArray⟩ : ByteArray).get! (pos + 0) = s.toArray[pos]! := rfl
    rw [this, Array.getElem!_eq_getD, Array.getD_eq_getD_getElem?, List.getElem?_toArray, hb]; rfl
  unfold Utf8.decode
  simp only [h0]
  rw [if_pos (by omega)]
def XOk (P : Program) (K : Ctx) (ι : Nm) (h : AH) (w : World) (s : Sem Value) : OR → Prop
  | .val v h' => LOk P K ι h w s v h'
  | .alts l => AOk P K ι h w s l
  | _ => False
theorem nextA_ok (S : Sat K ι h w) {it : AV} {vi : Value} {isS : Bool} {ty : TypeId} {r : OR} (e : nextA h it isS = some r) (hi : RV ι it vi) : XOk P K ι h w (Instr.next vi isS ty) r := by
  unfold nextA at e
  split at e
  · rename_i id
    obtain ⟨p, hp, rfl⟩ := ptr_inv hi
    split at e
    · rename_i s pos ho
      obtain ⟨q, ob, hq, b1, b2, b3, hb, hob⟩ := S.at ho trivial
      obtain rfl : p = q := by rw [hp] at hq; exact Option.some.inj hq
      obtain rfl : ob = .stringIter ⟨s.toArray⟩ pos := hob
      obtain ⟨g1, g2⟩ := SRun.getObjE (P := P) (K := K) hb (by simp) rfl b1 b2
      split at e
      · rename_i hn
        cases e
        show LOk P K ι h w _ _ _
        unfold Instr.next
        refine LOk.bindE g1 g2 ?_
        have : ¬ pos < (⟨s.toArray⟩ : ByteArray).size := by rw [size_mk]; rw [List.getElem?_eq_none_iff] at hn; omega
        simp only [this, if_false]
        exact fun _ => ⟨ι, w, _, [], SRun.pure _, Grow.refl _ _, S, RV_tup (RVs_cons RV_bool RVs_nil), Fine.refl K w (by simp), rfl⟩
      · rename_i b hbb
        obtain ⟨hlt, e⟩ := cond_some e
        rw [decide_eq_true_eq] at hlt
        subst e
        show LOk P K ι h w _ _ _
        unfold Instr.next
        refine LOk.bindE g1 g2 ?_
        have hsz : pos < (⟨s.toArray⟩ : ByteArray).size := by rw [size_mk]; rw [List.getElem?_eq_some_iff] at hbb; exact hbb.1
        simp only [hsz, if_true, decode_ascii hbb hlt]
        exact UOk.val (setObj_ok S hp ho trivial hb (by simp) rfl rfl) (fun ι' hE => RV_tup (RVs_cons RV_bool (RVs_cons RV_int (RVs_cons RV_int RVs_nil)))) (fun w => SRun.pure _)
    · rename_i since seen st ho
      cases e
      obtain ⟨q, ob, hq, b1, b2, b3, hb, b, k1, k2, rfl⟩ := S.at ho trivial
      obtain rfl : p = q := by rw [hp] at hq; exact Option.some.inj hq
      obtain rfl := k2 rfl
      obtain ⟨g1, g2⟩ := SRun.getObjE (P := P) (K := K) hb (by simp) rfl b1 b2
      show LOk P K ι h w _ _ _
      unfold Instr.next
      refine LOk.bindE g1 g2 ?_
      exact fun _ => ⟨ι, w, _, [], SRun.pure _, Grow.refl _ _, S, RV_tup (RVs_cons RV_bool RVs_nil), Fine.refl K w (by simp), rfl⟩
    · rename_i m since seen last ho
      obtain ⟨q, ob, hq, b1, b2, b3, hb, b, k1, k2, rfl⟩ := S.at ho trivial
      obtain rfl : p = q := by rw [hp] at hq; exact Option.some.inj hq
      obtain ⟨pm, hpm, rfl⟩ := k1 m rfl
      obtain ⟨g1, g2⟩ := SRun.getObjE (P := P) (K := K) hb (by simp) rfl b1 b2
      unfold nextMap at e
      split at e
      · rename_i es ck hm
        obtain ⟨qm, obm, hqm, c1, c2, c3, hbm, es', rfl, hr⟩ := S.at hm trivial
        obtain rfl : pm = qm := by rw [hpm] at hqm; exact Option.some.inj hqm
        obtain ⟨f1, f2⟩ := SRun.getObjE (P := P) (K := K) hbm (by simp) rfl c1 c2
        obtain ⟨e1, e⟩ := cond_none_some e
        obtain ⟨e2, e⟩ := condO_some e
        have hcond : (!seen.toArray.isEmpty && !es'.isEmpty && es'.all (fun x => decide (x.born ≥ last))) = false := by
          rw [← e1]
          have a1 : seen.toArray.isEmpty = seen.isEmpty := by cases seen <;> simp
          have a2 : es'.isEmpty = es.isEmpty := by
            have := hr.length
            rw [Bool.eq_iff_iff, Array.isEmpty_iff, List.isEmpty_iff]
            constructor
            · intro h; rw [h] at this; simpa using this
            · intro h; rw [h] at this; exact Array.eq_empty_of_size_eq_zero (by simpa using this.symm)
          have a3 : es'.all (fun x => decide (x.born ≥ last)) = es.all (fun e => Nat.ble last e.born) := by
            rw [hr.all (q' := fun x => decide (x.born ≥ last)) (fun a e he => by rw [he, Bool.eq_iff_iff, Nat.ble_eq, decide_eq_true_eq])]
            simp
          rw [a1, a2, a3]
        have hfil : REs ι (es.filter fun e => !seen.contains e.born) (es'.filter fun e => !seen.toArray.contains e.born).toList := by
          rw [Array.toList_filter]
          exact hr.filter fun a e he => by rw [he]; simp
        obtain ⟨left, hleft⟩ : ∃ left, left = es'.filter fun e => !seen.toArray.contains e.born := ⟨_, rfl⟩
        rw [← hleft] at hfil
        have hold : left.filter (fun x => decide (x.born < since)) = left := by
          apply Array.toList_inj.1
          rw [Array.toList_filter]
          apply List.filter_eq_self.2
          have := hfil.all (q := fun e => Nat.blt e.born since) (q' := fun x => decide (x.born < since)) (fun a e he => by rw [he, Bool.eq_iff_iff, Nat.blt_eq, decide_eq_true_eq])
          rw [e2] at this
          exact fun a ha => List.all_eq_true.1 this.symm a ha
        have hnew : left.filter (fun x => decide (x.born ≥ since)) = #[] := by
          apply Array.toList_inj.1
          rw [Array.toList_filter]
          apply List.filter_eq_nil_iff.2
          have := hfil.all (q := fun e => Nat.blt e.born since) (q' := fun x => decide (x.born < since)) (fun a e he => by rw [he, Bool.eq_iff_iff, Nat.blt_eq, decide_eq_true_eq])
          rw [e2] at this
          intro a ha hx
          have h1 := List.all_eq_true.1 this.symm a ha
          simp only [decide_eq_true_eq] at h1 hx
          omega
        split at e
        · rename_i hnil
          cases e
          rw [hnil] at hfil
          have hl0 : left = #[] := by
            apply Array.toList_inj.1
            exact hfil
          show LOk P K ι h w _ _ _
          unfold Instr.next
          refine LOk.bindE g1 g2 ?_
          refine LOk.bindE f1 f2 ?_
          rw [hl0] at hleft hold hnew
          simp only [hcond, Bool.false_eq_true, if_false, ← hleft, hold, hnew]
          refine LOk.choose fun k d hk => ?_
          have hk0 : k = 0 := by
            obtain ⟨t, hk | hk⟩ := hk
            · rw [hk]; simp [Question.cut, Nat.mod_one]
            · exact hk.1
          subst hk0
          have hc : ((if (#[] : Array MapEntry).isEmpty = true then #[none] else #[]) ++ Array.map some ((#[] : Array MapEntry) ++ #[]))[0]? = some none := by simp
          simp only [hc]
          exact fun _ => ⟨ι, _, _, [], SRun.pure _, Grow.refl _ _, S.drawn d, RV_tup (RVs_cons RV_bool RVs_nil), Fine.refl K _ (by simp), rfl⟩
        · rename_i l hne
          cases e
          show AOk P K ι h w _ _
          have hlen := hfil.length
          have hpos : left.size ≠ 0 := by
            intro h0
            have : (es.filter fun e => !seen.contains e.born).length = 0 := by rw [hlen]; simpa using h0
            exact hne (List.length_eq_zero_iff.1 this)
          have hne' : left.isEmpty = false := by
            rw [Bool.eq_false_iff]; intro h; rw [Array.isEmpty_iff] at h; rw [h] at hpos; exact hpos rfl
          obtain ⟨k, w', hch, ⟨d, rfl⟩, hk⟩ := SRun.choose (P := P) (w := w) (.mapNext (left.map some).size)
          have hklt : k < left.size := by
            obtain ⟨t, hk | hk⟩ := hk
            · rw [hk]
              simp only [Question.cut, Array.size_map]
              exact Nat.mod_lt _ (by omega)
            · rw [hk.1]; omega
          have hkl : k < (es.filter fun e => !seen.contains e.born).length := by rw [hlen]; simpa using hklt
          obtain ⟨en, hen, r1, r2, r3⟩ := hfil.get (List.getElem?_eq_getElem hkl)
          refine ⟨_, List.mem_map.2 ⟨_, List.getElem_mem hkl, rfl⟩, ?_⟩
          unfold Instr.next
          refine LOk.bindE g1 g2 ?_
          refine LOk.bindE f1 f2 ?_
          simp only [hcond, Bool.false_eq_true, if_false, ← hleft, hold, hnew, hne', Array.empty_append, Array.append_empty]
          refine LOk.after hch ?_
          have hcand : (left.map some)[k]? = some (some en) := by
            rw [Array.getElem?_map, ← Array.getElem?_toList, hen]; rfl
          simp only [hcand]
          have S' := S.drawn d
          refine UOk.val (setObj_ok S' hp ho trivial hb (by simp) ⟨some pm.1, fun j hj => (by cases hj; exact ⟨pm, hpm, rfl⟩), fun h => (by cases h), ?_⟩ rfl) (fun ι' hE => RV_tup (RVs_cons RV_bool (RVs_cons (r1.mono hE) (RVs_cons (r2.mono hE) RVs_nil)))) (fun w => SRun.pure _)
          rw [r3]; simp
      · cases e
    · cases e
  · cases e
end
end Go.Ev
namespace Go.Ev
section
variable {P : Program} {K : Ctx} {ι : Nm} {h : AH} {w : World} {E : Env}
theorem bytesOf_ok (s : List UInt8) : RVs ι (bytesOf s) ((⟨s.toArray⟩ : ByteArray).data.map fun b => Value.int .u8 b.toNat).toList := by
  unfold bytesOf
  rw [Array.toList_map]
  exact RVs.map fun x _ => RV_int
theorem bytesOf_length (s : List UInt8) : (bytesOf s).length = s.length := by unfold bytesOf; simp
theorem takeN_length {l r : List AV} {off n : Nat} (e : takeN l off n = some r) : r.length = n := (takeN_some e).2
theorem loadC_length {id off n : Nat} {r : List AV} (e : loadC E h id off n = some r) : r.length = n := by
  unfold loadC at e
  cases hb : Nat.ble OLD id with
  | true => rw [hb, cond_true] at e; exact (oldC_some _ _ e).1
  | false =>
    rw [hb, cond_false] at e
    split at e
    · exact takeN_length e
    · cases e
theorem srcC_ok (hP : Of K P E) (S : Sat K ι h w) {size n : Nat} {x : AV} {c : List AV} {vx : Value} (e : srcC E h size x = some (n, c)) (hx : RV ι x vx) :
    SRun P (Builtin.lenOf vx) w n w [] ∧ c.length = n * size ∧
    ∀ d, ∃ (cs : Array Value) (es : List Event), SRun P (Builtin.firstCells size n vx) { w with drawn := d } cs { w with drawn := d } es ∧ RVs ι c cs.toList ∧ ∀ e ∈ es, EvF K w.heap.size e := by
  unfold srcC at e
  split at e
  · cases e
    unfold RV at hx; subst hx
    exact ⟨SRun.pure _, by simp, fun d => ⟨#[], [], SRun.pure _, RVs_nil, by simp⟩⟩
  · cases e
    unfold RV at hx
    obtain ⟨a, c, rfl⟩ := hx
    refine ⟨SRun.pure _, by simp, fun d => ⟨#[], [], ?_, RVs_nil, by simp⟩⟩
    cases a with
    | none => exact SRun.pure _
    | some a =>
      show SRun P (loadCellsFrom a 0 (0 * size) #[]) _ _ _ _
      rw [Nat.zero_mul]
      exact SRun.pure _
  · rename_i id off len cp
    cases hl : loadC E h id off (len * size) with
    | none => rw [hl] at e; cases e
    | some r =>
      rw [hl] at e; cases e
      obtain ⟨p, hp, cap, rfl, _⟩ := sl_inv hx
      refine ⟨SRun.pure _, loadC_length hl, fun d => ?_⟩
      obtain ⟨vs, es, h1, h2, h3, h4⟩ := SRun_loadCells (P := P) (S.drawn d) hP hp hl
      exact ⟨vs, es, h1, h2, h4⟩
  · rename_i s
    obtain ⟨h1, e⟩ := cond_some e
    cases e
    obtain rfl := str_inv hx
    have hs : size = 1 := Nat.eq_of_beq_eq_true h1
    refine ⟨?_, by rw [bytesOf_length, hs]; simp, fun d => ⟨_, [], SRun.pure _, ?_, by simp⟩⟩
    · have : (⟨s.toArray⟩ : ByteArray).size = s.length := size_mk s
      show SRun P (Pure.pure (⟨s.toArray⟩ : ByteArray).size) w _ w []
      rw [this]; exact SRun.pure _
    · have : (⟨s.toArray⟩ : ByteArray).extract 0 s.length = ⟨s.toArray⟩ := by rw [extract_mk]; simp
      rw [this]
      exact bytesOf_ok s
  · cases e
theorem growBy_le (newLen : Nat) : ∀ (k c : Nat), Builtin.growBy newLen k c ≤ 2 ^ k * (c + 768)
  | 0, c => by simp [Builtin.growBy]
  | k + 1, c => by
    rw [Builtin.growBy]
    split
    · have : 1 ≤ 2 ^ (k + 1) := Nat.one_le_two_pow
      calc c ≤ 1 * (c + 768) := by omega
        _ ≤ _ := Nat.mul_le_mul_right _ this
    · have h1 := growBy_le newLen k (c + (c + 768) / 4)
      have h2 : 2 ^ (k + 1) * (c + 768) = 2 ^ k * (2 * (c + 768)) := by rw [Nat.pow_succ, Nat.mul_assoc]
      rw [h2]
      refine Nat.le_trans h1 (Nat.mul_le_mul_left _ ?_)
      omega
theorem nextcap_le {need cap : Nat} (h1 : need ≤ 1073741824) (h2 : cap ≤ 1073741824) : Builtin.nextslicecap need cap ≤ 17179881472 := by
  unfold Builtin.nextslicecap
  split
  · omega
  · split
    · omega
    · refine Nat.le_trans (growBy_le need 4 cap) ?_
      have : 2 ^ 4 * (cap + 768) = 16 * (cap + 768) := by rw [show (2 : Nat) ^ 4 = 16 from rfl]
      rw [this]; omega
theorem zeroCells_size (z : Array Value) (n : Nat) : (Builtin.zeroCells z n).size = n * z.size := by unfold Builtin.zeroCells; simp
theorem LOk.room {b : Nat} {f : Unit → Sem Value} {a : AV} {h' : AH} (h2 : LOk P K ι h w (f ()) a h') : LOk P K ι h w (askRoom b >>= f) a h' := by
  unfold askRoom
  by_cases hb : b > roomBytes
  · rw [if_pos hb]
    exact LOk.bindE (SRun.mark _) (by intro e he; simp at he; subst he; trivial) h2
  · rw [if_neg hb]
    exact LOk.bind0 (SRun.pure _) h2
theorem appendNew_ok (F : Fits P E) (hP : K.P = P) (S : Sat K ι h w) {e : TypeId} {ei : TI} (he : E.tt.get e = some ei) {old new : Array Value} {co cn : List AV} {len n newCap : Nat} (ho : RVs ι co old.toList) (hn : RVs ι cn new.toList)
    (hlo : co.length = len * ei.size) (hln : cn.length = n * ei.size) (hc : len + n ≤ newCap) :
    LOk P K ι h w (do
      let rest := Builtin.zeroCells (← zeroValue e).cells (newCap - (len + n))
      Pure.pure (.slice (some (← newRow e (old ++ new ++ rest))) (len + n) newCap)) (.sl h.nx 0 (len + n) none) (h.new (.cells (co ++ cn) e true false)) := by
  obtain ⟨z, hz, _, hzc, hzs, hzl⟩ := zeroV_cells (w := w) (ι := ι) F he
  refine LOk.bind0 hz ?_
  have hsz : P.cellsOf e = ei.size := by
    obtain ⟨i, _, hi, hs, _⟩ := (tt_of F he).info
    unfold Program.cellsOf; rw [hi]; exact hs
  have l1 := ho.length
  have l2 := hn.length
  have hsize : (old ++ new ++ Builtin.zeroCells z.cells (newCap - (len + n))).size = newCap * ei.size := by
    simp only [Array.size_append, zeroCells_size, hzs]
    have a1 : old.size = len * ei.size := by rw [← hlo, l1]; simp
    have a2 : new.size = n * ei.size := by rw [← hln, l2]; simp
    rw [a1, a2, ← Nat.add_mul, ← Nat.add_mul]
    congr 1; omega
  refine LOk_newObj S (cap := newCap) (o := .cells (co ++ cn) e true false) ?_ (fun b => .slice (some ⟨b, 0, none⟩) (len + n) newCap) (fun b w => by
    show SRun P (Pure.pure (⟨b, 0, none⟩ : Addr) >>= fun a => Pure.pure (Value.slice (some a) (len + n) newCap)) w _ w []
    exact SRun.bind0 (SRun.pure _) (SRun.pure _)) (fun ι' b hb _ => ?_)
  · refine ⟨_, 0, 0, rfl, ⟨old.toList ++ new.toList, (Builtin.zeroCells z.cells (newCap - (len + n))).toList, by simp, ho.append hn⟩, fun h => (by cases h), fun _ => ?_, fun _ => ⟨fun o _ => by omega, fun _ => ⟨rfl, rfl⟩⟩⟩
    rw [hsize, hP, hsz]
  · unfold RV
    exact ⟨_, hb, newCap, rfl, hc, fun k hk => (by cases hk), fun _ _ => Nat.le_refl _⟩
theorem Sat.setOff (S : Sat K ι h w) {b : Nat} (ob : Obj) (hb : K.base ≤ b) (hn : ∀ j x q, h.tr.get j = some x → x.live → ι j = some q → q.1 ≠ b) : Sat K ι h { w with heap := w.heap.setIfInBounds b ob } := by
  refine ⟨fun i o hi hl => ?_, S.inj, by simpa using S.lo, by simpa using S.bs, fun c hc => ?_, S.os, S.tape, S.output, S.oldn⟩
  · obtain ⟨p, ob', h1, h2, h3, h4, h5⟩ := S.objs i o hi hl
    refine ⟨p, ob', h1, h2, h3, ?_, h5⟩
    simp only
    rw [Array.getElem?_setIfInBounds_ne (Ne.symm (hn i o p hi hl h1))]; exact h4
  · simp only
    rw [Array.getElem?_setIfInBounds_ne (by omega)]; exact S.old c hc
theorem RVs_wr_beyond {as : List AV} {vs : List Value} {c : Array Value} {l : List AV} {k : Nat} (h : RVs ι as vs) (hl : ∃ l1 l2, c.toList = l1 ++ l2 ∧ RVs ι l l1) (hk : k ≤ l.length) (hle : k + vs.length ≤ c.size) :
    ∃ l1 l2, (wr c k vs).toList = l1 ++ l2 ∧ RVs ι (l.take k ++ as) l1 := by
  induction as generalizing vs c l k with
  | nil =>
    rw [RVs_nil_inv h]
    obtain ⟨l1, l2, e1, e2⟩ := hl
    have := e2.length
    refine ⟨l1.take k, l1.drop k ++ l2, ?_, by simpa using e2.take k⟩
    show c.toList = _
    rw [e1, ← List.append_assoc, List.take_append_drop]
  | cons a as ih =>
    obtain ⟨v, r, rfl, g1, g2⟩ := RVs_cons_inv h
    obtain ⟨l1, l2, e1, e2⟩ := hl
    have hlen := e2.length
    simp only [List.length_cons] at hle
    obtain ⟨m1, m2, f1, f2⟩ := ih (vs := r) (c := c.setIfInBounds k v) (l := l.take k ++ [a]) (k := k + 1) g2 (by
      have hsz : c.size = l1.length + l2.length := by have := congrArg List.length e1; simpa using this
      refine ⟨l1.take k ++ [v], (l1.drop k ++ l2).drop 1, ?_, (e2.take k).append (RVs_cons g1 RVs_nil)⟩
      rw [Array.toList_setIfInBounds, e1]
      have hk' : k < (l1 ++ l2).length := by simp; omega
      rw [List.set_eq_take_append_cons_drop, if_pos hk']
      have t1 : (l1 ++ l2).take k = l1.take k := by rw [List.take_append_of_le_length (by omega)]
      have t2 : (l1 ++ l2).drop (k + 1) = (l1.drop k ++ l2).drop 1 := by
        rw [← List.drop_append_of_le_length (by omega), List.drop_drop]
      rw [t1, t2]; simp) (by simp; omega) (by simp; omega)
    refine ⟨m1, m2, f1, ?_⟩
    have : (l.take k ++ [a]).take (k + 1) ++ as = l.take k ++ a :: as := by
      have hl : (l.take k ++ [a]).length = k + 1 := by simp; omega
      rw [List.take_of_length_le (by omega)]; simp
    rw [this] at f2
    exact f2
end
end Go.Ev
namespace Go.Ev
section
variable {P : Program} {K : Ctx} {ι : Nm} {h : AH} {w : World} {E : Env}
theorem LOk.bindD {α : Type} {s : Sem α} {f : α → Sem Value} {x : α} {a : AV} {h' : AH} {d : Nat} {e1 : List Event} (h1 : SRun P s { w with drawn := d } x { w with drawn := d } e1) (he : ∀ e ∈ e1, EvF K w.heap.size e) (h2 : LOk P K ι h { w with drawn := d } (f x) a h') :
    LOk P K ι h { w with drawn := d } (s >>= f) a h' := LOk.bindE h1 he h2
theorem LOk.still (S : Sat K ι h w) {s : Sem Value} {a : AV} {v : Value} (h1 : SRun P s w v w []) (hv : RV ι a v) : LOk P K ι h w s a h := fun _ =>
  ⟨ι, w, v, [], h1, Grow.refl _ _, S, hv, Fine.refl K w (by simp), rfl⟩
def isIntD : TypeDesc → Bool | .int _ => true | _ => false
theorem appendA_ok (F : Fits P E) (hP : Of K P E) (S : Sat K ι h w) {ts tx ty : TypeId} {s x v : AV} {h' : AH} {vs vx : Value} (e : appendA E h ts tx s x = some (v, h')) (hs : RV ι s vs) (hx : RV ι x vx) :
    LOk P K ι h w (Builtin.append_ #[ts, tx] ty #[vs, vx]) v h' := by
  unfold appendA at e
  split at e
  · rename_i el tsz tby tzr xi hts htx
    have hd : E.d ts = some (.slice el) := by unfold Env.d; rw [hts]; rfl
    split at e
    · cases e
    · rename_i ei he
      obtain ⟨hni, e⟩ := cond_none_some e
      split at e
      · cases e
      · rename_i n c hsrc
        obtain ⟨hnb, e⟩ := cond_none_some e
        have hnb : n ≤ 268435456 := by
          rcases Nat.lt_or_ge 268435456 n with h1 | h1
          · rw [← Nat.blt_eq, hnb] at h1; cases h1
          · exact h1
        obtain ⟨hlen, hcl, hcells⟩ := srcC_ok (P := P) hP S hsrc hx
        obtain ⟨dx, hdx, hmx⟩ := (tt_of F htx).desc
        have hni' : isIntD dx = false := by
          cases dx <;> try rfl
          rename_i k
          cases hk : xi.d <;> rw [hk] at hmx hni <;> first
            | exact hmx.elim
            | (simp at hni; done)
            | exact absurd hni (by decide)
        have hby : ei.bytes ≤ 4096 := by
          cases hk : xi.d <;> rw [hk] at hni <;> simp only [Bool.or_eq_false_iff] at hni <;> first
            | (cases hni; done)
            | (rcases Nat.lt_or_ge 4096 ei.bytes with h1 | h1
               · rw [← Nat.blt_eq, hni.2] at h1; cases h1
               · exact h1)
        have hby0 : ei.bytes ≠ 0 := by
          cases hk : xi.d <;> rw [hk] at hni <;> simp only [Bool.or_eq_false_iff] at hni <;> first
            | (cases hni; done)
            | (intro h0; have := hni.1.1; rw [h0] at this; cases this)
        obtain ⟨ii, z, hii, his, hib, hiz, _, _, hzs, hzl⟩ := (tt_of F he).info
        have pre : ∀ (h0 : AH) (base : Option Addr) (sLen sCap : Nat) (a : AV) (h1 : AH),
            LOk P K ι h0 w (if sLen + n ≤ sCap then do
                let new ← Builtin.firstCells ei.size n vx
                match base with
                  | some a => do
                    storeCells (a.add (sLen * ei.size)) new.toList
                    Pure.pure (Value.slice base (sLen + n) sCap)
                  | _ => Pure.pure (Value.slice base (sLen + n) sCap)
              else do
                let newCap ← choose (.appendCap (sLen + n) sCap el)
                askRoom (newCap * ii.bytes)
                let old ← Builtin.firstCells ei.size sLen (.slice base sLen sCap)
                let new ← Builtin.firstCells ei.size n vx
                let z ← zeroValue el
                let b ← newRow el (old ++ new ++ Builtin.zeroCells z.cells (newCap - (sLen + n)))
                Pure.pure (.slice (some b) (sLen + n) newCap)) a h1 →
            (¬ (sLen + n ≤ sCap) → sLen ≤ 268435456 ∧ sCap ≤ 1073741824) → LOk P K ι h0 w (Builtin.append_ #[ts, tx] ty #[.slice base sLen sCap, vx]) a h1 := by
          intro h0 base sLen sCap a h1 hmain hb
          unfold Builtin.append_
          refine LOk.bind0 (SRun.underlying (desc_slice F hd)) ?_
          refine LOk.bind0 (SRun_sizeOf (tt_of F he)) ?_
          have i1 : (#[ts, tx] : Array TypeId)[1]? = some tx := rfl
          have i2 : (#[Value.slice base sLen sCap, vx] : Array Value)[1] = vx := rfl
          have i3 : (#[Value.slice base sLen sCap, vx] : Array Value)[0] = .slice base sLen sCap := rfl
          simp only [i1, i2, i3]
          refine LOk.bind0 (SRun.underlying hdx) ?_
          refine LOk.bind0 (x := false) ?_ ?_
          · cases dx <;> first
              | exact SRun.pure _
              | (cases hni'; done)
          simp only [Bool.false_eq_true, if_false, Bool.not_false, if_true]
          refine LOk.bind0 hlen ?_
          by_cases hle : sLen + n ≤ sCap
          · simp only [hle, if_true] at hmain ⊢
            exact hmain
          · obtain ⟨b1, b2⟩ := hb hle
            simp only [hle, if_false] at hmain ⊢
            refine LOk.bind0 (SRun.typeInfo hii) ?_
            have hne : ¬ (((sLen + n : Nat) : Int) > IntKind.i64.max ∧ (False ∨ ii.bytes = 0)) := by
              rintro ⟨_, h | h⟩
              · exact h
              · rw [hib] at h; exact hby0 h
            simp only [hne, if_false]
            refine LOk.bind0 (SRun.typeInfo hii) ?_
            have hroom : ¬ (Builtin.nextslicecap (sLen + n) sCap * ii.bytes > 2 ^ 48) := by
              rw [hib]
              have h1 := nextcap_le (need := sLen + n) (cap := sCap) (by omega) (by omega)
              have h2 := Nat.mul_le_mul h1 hby
              omega
            simp only [hroom, if_false]
            obtain ⟨k, w', hch, ⟨d, rfl⟩, hk⟩ := SRun.choose (P := P) (w := w) (.appendCap (sLen + n) sCap el)
            intro hfr
            obtain ⟨ι', w', nv, es, h3, h4⟩ := hmain hfr
            refine ⟨ι', w', nv, es, ?_, h4⟩
            intro e0
            have h5 := h3 e0
            rw [runT_bind, hch e0] at h5 ⊢
            simp only at h5 ⊢
            rw [runT_bind, SRun.typeInfo hii]
            simp only at h5 ⊢
            simpa using h5
        have grow : ∀ (base : Option Addr) (sLen sCap : Nat) (co : List AV) (h0 : AH) (S0 : Sat K ι h0 w), ¬ (sLen + n ≤ sCap) → sCap ≤ 1073741824 → sLen ≤ 268435456 → co.length = sLen * ei.size →
            (∀ d, ∃ (cs : Array Value) (es : List Event), SRun P (Builtin.firstCells ei.size sLen (.slice base sLen sCap)) { w with drawn := d } cs { w with drawn := d } es ∧ RVs ι co cs.toList ∧ ∀ e ∈ es, EvF K w.heap.size e) →
            LOk P K ι h0 w (Builtin.append_ #[ts, tx] ty #[.slice base sLen sCap, vx]) (.sl h0.nx 0 (sLen + n) none) (h0.new (.cells (co ++ c) el true false)) := by
          intro base sLen sCap co h0 S0 hgt hcap hsl hco hold
          refine pre _ _ _ _ _ _ ?_ (fun _ => ⟨hsl, hcap⟩)
          rw [if_neg hgt]
          refine LOk.choose fun k d hk => ?_
          refine LOk.room ?_
          obtain ⟨cs, es, r1, r2, r3⟩ := hold d
          refine LOk.bindE r1 r3 ?_
          obtain ⟨cs2, es2, q1, q2, q3⟩ := hcells d
          refine LOk.bindE q1 q3 ?_
          refine appendNew_ok F hP.P (S0.drawn d) he r2 q2 hco hcl ?_
          obtain ⟨t, hk | hk⟩ := hk
          · rw [hk]; simp only [Question.cut]; omega
          · exact absurd hk.2 (by simp [Question.forced])
        split at e
        ·
          unfold RV at hs; subst hs
          cases hn0 : Nat.beq n 0 with
          | true =>
            rw [hn0] at e; simp only [cond_true, Option.some.injEq, Prod.mk.injEq] at e
            obtain ⟨rfl, rfl⟩ := e
            obtain rfl : n = 0 := Nat.eq_of_beq_eq_true hn0
            refine pre _ _ _ _ _ _ ?_ (fun hh => absurd (Nat.le_refl _) hh)
            rw [if_pos (Nat.le_refl _)]
            obtain ⟨cs2, es2, q1, q2, q3⟩ := hcells w.drawn
            refine LOk.bindE q1 q3 ?_
            exact LOk.still S (SRun.pure _) (by unfold RV; rfl)
          | false =>
            rw [hn0] at e; simp only [cond_false, Option.some.injEq, Prod.mk.injEq] at e
            obtain ⟨rfl, rfl⟩ := e
            have hn1 : n ≠ 0 := by intro h0; rw [h0] at hn0; cases hn0
            have := grow none 0 0 [] h S (by omega) (by omega) (by omega) (by simp) (fun d => ⟨#[], [], SRun.pure _, RVs_nil, by simp⟩)
            simpa using this
        ·
          rename_i id off len cap _ _
          obtain ⟨p, hp, cap', rfl, hle, hcap, _⟩ := sl_inv hs
          obtain rfl := hcap cap rfl
          cases hb : Nat.ble (len + n) cap' with
          | true =>
            rw [hb] at e; simp only [cond_true] at e
            have hle' := Nat.le_of_ble_eq_true hb
            cases hst : storeC h id (off + len * ei.size) c with
            | none => rw [hst] at e; cases e
            | some h1 =>
              rw [hst] at e; cases e
              refine pre _ _ _ _ _ _ ?_ (fun hh => absurd hle' hh)
              rw [if_pos hle']
              obtain ⟨cs2, es2, q1, q2, q3⟩ := hcells w.drawn
              refine LOk.bindE q1 q3 ?_
              simp only [add_none]
              refine UOk.val (storeC_ok S hp hst q2) (fun ι' hE => ?_) (fun w => SRun.pure _)
              unfold RV
              exact ⟨p, hE _ _ hp, cap', rfl, hle', fun k hk => by cases hk; rfl, fun hn => by cases hn⟩
          | false =>
            rw [hb] at e; simp only [cond_false] at e
            have hgt : ¬ (len + n ≤ cap') := fun hh => by rw [← Nat.ble_eq, hb] at hh; cases hh
            obtain ⟨hbig, e⟩ := cond_none_some e
            have hbig : len + cap' ≤ 268435456 := by
              rcases Nat.lt_or_ge 268435456 (len + cap') with h1 | h1
              · rw [← Nat.blt_eq, hbig] at h1; cases h1
              · exact h1
            cases hl : loadC E h id off (len * ei.size) with
            | none => rw [hl] at e; cases e
            | some old =>
              rw [hl] at e; cases e
              exact grow (some ⟨p.1, off, none⟩) len cap' old h S hgt (by omega) (by omega) (loadC_length hl) (fun d => by
                obtain ⟨vs, es, h1, h2, h3, h4⟩ := SRun_loadCells (P := P) (S.drawn d) hP hp hl
                exact ⟨vs, es, h1, h2, h4⟩)
        ·
          rename_i id len _ _
          obtain ⟨hbig, e⟩ := cond_none_some e
          have hbig : len ≤ 268435456 := by
            rcases Nat.lt_or_ge 268435456 len with h1 | h1
            · rw [← Nat.blt_eq, hbig] at h1; cases h1
            · exact h1
          obtain ⟨p, hp, cap', rfl, hle, _, hroom⟩ := sl_inv hs
          have hroom := hroom rfl rfl
          split at e
          · rename_i vs0 el' ho
            obtain ⟨hc, e⟩ := cond_some e
            cases e
            simp only [Bool.and_eq_true] at hc
            obtain ⟨⟨⟨hel, hlv⟩, hscal⟩, _⟩ := hc
            obtain rfl : el' = el := Nat.eq_of_beq_eq_true hel
            have hlv := Nat.le_of_ble_eq_true hlv
            obtain ⟨q, ob, hq, b1, b2, b3, hb, cc, lo, hi, rfl, ⟨l1, l2, hcc, hlr⟩, _, hgs, hfz⟩ := S.at ho trivial
            obtain rfl : p = q := by rw [hp] at hq; exact Option.some.inj hq
            have hsz : P.cellsOf el' = ei.size := by unfold Program.cellsOf; rw [hii]; exact his
            have hcsz : cc.size = p.2 * ei.size := by rw [hgs rfl, hP.P, hsz]
            have hdead : ∀ j x q, (h.put id .dead).tr.get j = some x → x.live → ι j = some q → q.1 ≠ p.1 := by
              intro j x q hj hl hjq hqp
              rcases AH.put_get hj with ⟨_, rfl⟩ | ⟨hne, hj'⟩
              · exact hl.elim
              · exact hne (S.inj j id x _ q p hj' (AH.obj_live ho trivial) hl trivial hjq hp hqp)
            by_cases hfit : len + n ≤ cap'
            · refine pre _ _ _ _ _ _ ?_ (fun hh => absurd hfit hh)
              rw [if_pos hfit]
              obtain ⟨cs2, es2, q1, q2, q3⟩ := hcells w.drawn
              refine LOk.bindE q1 q3 ?_
              simp only [add_none, Nat.zero_add]
              intro hfr
              have hfn : ι h.nx = none := hfr _ (Nat.le_refl _) (by rw [AH.new_nx, AH.put_nx]; omega)
              have hq2 := q2.length
              have hmul : (len + n) * ei.size ≤ cc.size := by rw [hcsz]; exact Nat.mul_le_mul_right _ (by omega)
              rw [Nat.add_mul] at hmul
              have hlen2 : len * ei.size + cs2.toList.length ≤ cc.size := by rw [← hq2, hcl]; exact hmul
              obtain ⟨es3, g1, g2⟩ := SRun_storeCells (P := P) (ι := ι) (b := p.1) (off := len * ei.size) (T := el') (lo := lo) (hi := hi) c cs2.toList 0 w cc q2 hscal hb (by omega) (hfz rfl).1
              obtain ⟨m1, m2, k1, k2⟩ := RVs_wr_beyond (c := cc) (k := len * ei.size) q2 ⟨l1, l2, hcc, hlr⟩ hlv hlen2
              have hE : Ext ι (upd ι h.nx p) := ext_upd hfn
              refine ⟨upd ι h.nx p, _, .slice (some ⟨p.1, 0, none⟩) (len + n) cap', es3, by
                have := SRun.bind (f := fun _ => (Pure.pure (Value.slice (some ⟨p.1, 0, none⟩) (len + n) cap') : Sem Value)) g1 (SRun.pure _)
                rw [List.append_nil] at this
                exact this, ?_, ?_, ?_, Fine.putO _ b1 b2 ?_, by rw [AH.new_df, AH.put_df]⟩
              · rw [AH.new_nx, AH.put_nx]; exact Grow.upd
              · have S1 := (((S.forget id).setOff (.cells (wr cc (len * ei.size + 0) cs2.toList) el' (lo, hi)) b1 hdead).mono hE)
                refine (S1.place (i := h.nx) (p := p) (ob := .cells (wr cc (len * ei.size + 0) cs2.toList) el' (lo, hi)) (o := .cells (vs0.take (len * ei.size) ++ c) el' true false) (upd_self _ _ _) (by simp [b3]) b1 b2 (fun j x q hj hl hjq hqp => ?_) ?_).ofTr ?_
                · by_cases hji : j = h.nx
                  · exact hji
                  · rw [upd_ne hji] at hjq
                    exact absurd hqp (hdead j x q hj hl hjq)
                · refine ⟨_, lo, hi, rfl, ⟨m1, m2, k1, k2.mono hE⟩, fun h => (by cases h), fun _ => ?_, fun _ => ⟨fun o hlt => ?_, fun h => by cases h⟩⟩
                  · rw [wr_size]; exact hgs rfl
                  · rw [wr_size] at hlt; exact (hfz rfl).1 o hlt
                · rw [AH.new_tr, AH.put_nx]
              · unfold RV
                exact ⟨p, upd_self _ _ _, cap', rfl, hfit, fun k hk => (by cases hk), fun _ _ => hroom⟩
              · intro e' he'
                obtain ⟨o, rfl⟩ := g2 e' he'
                exact ⟨.inl ⟨b1, b2⟩, b3⟩
            · have := grow (some ⟨p.1, 0, none⟩) len cap' (vs0.take (len * ei.size)) (h.put id .dead) (S.forget id) hfit (by omega) hbig (by simp; omega) (fun d => by
                have hl : takeN vs0 0 (len * ei.size) = some (vs0.take (len * ei.size)) := by
                  simp only [takeN, List.drop_zero]
                  rw [show Nat.beq (vs0.take (len * ei.size)).length (len * ei.size) = true by rw [nat_beq]; simp; omega]; rfl
                obtain ⟨vs, es, h1, h2, h3, h4⟩ := SRun_loadCellsO (P := P) (S.drawn d) hp ho hl
                exact ⟨vs, es, h1, h2, h4⟩)
              rw [AH.put_nx] at this
              exact this
          · cases e
        · cases e
  · cases e
theorem lenOf_slice {a : Option Addr} {n c : Nat} : SRun P (Builtin.lenOf (.slice a n c)) w n w [] := SRun.pure _
theorem copyA_ok (F : Fits P E) (hP : Of K P E) (S : Sat K ι h w) {td tx ty : TypeId} {d s v : AV} {h' : AH} {vd vs : Value} (e : copyA E h td d s = some (v, h')) (hd : RV ι d vd) (hs : RV ι s vs) :
    LOk P K ι h w (Builtin.copy_ #[td, tx] ty #[vd, vs]) v h' := by
  unfold copyA at e
  split at e
  · rename_i el tsz tby tzr htd
    have hdt : E.d td = some (.slice el) := by unfold Env.d; rw [htd]; rfl
    split at e
    · cases e
    · rename_i ei he
      split at e
      · rename_i id off len cp id' off' len' cp'
        simp only at e
        split at e
        · rename_i c hl
          cases hst : storeC h id off c with
          | none => rw [hst] at e; cases e
          | some h1 =>
            rw [hst] at e; cases e
            obtain ⟨p, hp, cap, rfl, _⟩ := sl_inv hd
            obtain ⟨p', hp', cap', rfl, _⟩ := sl_inv hs
            obtain ⟨cs, es, r1, r2, _, r3⟩ := SRun_loadCells (P := P) S hP hp' hl
            unfold Builtin.copy_
            refine LOk.bind0 (SRun.underlying (desc_slice F hdt)) ?_
            refine LOk.bind0 lenOf_slice ?_
            refine LOk.bind0 (SRun_sizeOf (tt_of F he)) ?_
            refine LOk.bindE (x := cs) r1 r3 ?_
            exact UOk.val (storeC_ok S hp hst r2) (fun ι' hE => RV_int) (fun w => SRun.pure _)
        · cases e
      · rename_i id off len cp s'
        dsimp only at e
        cases hst : storeC h id off (bytesOf (s'.take (Nat.min s'.length len))) with
        | none => rw [hst] at e; cases e
        | some h1 =>
          rw [hst] at e
          cases e
          obtain ⟨p, hp, cap, rfl, _⟩ := sl_inv hd
          obtain rfl := str_inv hs
          unfold Builtin.copy_
          refine LOk.bind0 (SRun.underlying (desc_slice F hdt)) ?_
          refine LOk.bind0 (x := s'.length) (by
            have : (⟨s'.toArray⟩ : ByteArray).size = s'.length := size_mk s'
            show SRun P (Pure.pure (⟨s'.toArray⟩ : ByteArray).size) w _ w []
            rw [this]; exact SRun.pure _) ?_
          refine LOk.bind0 (SRun_sizeOf (tt_of F he)) ?_
          refine LOk.bind0 (SRun.pure _) ?_
          refine UOk.val (storeC_ok S hp hst ?_) (fun ι' hE => RV_int) (fun w => SRun.pure _)
          have := bytesOf_ok (ι := ι) (s'.take (Nat.min s'.length len))
          have e2 : (⟨s'.toArray⟩ : ByteArray).extract 0 (Nat.min s'.length len) = ⟨(s'.take (Nat.min s'.length len)).toArray⟩ := by rw [extract_mk]; simp
          rw [e2]
          exact this
      · rename_i id off len cp
        cases e
        obtain ⟨p, hp, cap, rfl, _⟩ := sl_inv hd
        unfold RV at hs; subst hs
        unfold Builtin.copy_
        refine LOk.bind0 (SRun.underlying (desc_slice F hdt)) ?_
        refine LOk.bind0 lenOf_slice ?_
        refine LOk.bind0 (SRun_sizeOf (tt_of F he)) ?_
        refine LOk.bind0 (x := #[]) (SRun.pure _) ?_
        have h0 : Nat.min 0 len = 0 := Nat.zero_min _
        refine LOk.bind0 (x := ()) (SRun.pure _) ?_
        rw [h0]
        exact LOk.still S (SRun.pure _) RV_int
      · cases e
        unfold RV at hd hs; subst hs; subst hd
        unfold Builtin.copy_
        refine LOk.bind0 (SRun.underlying (desc_slice F hdt)) ?_
        refine LOk.bind0 lenOf_slice ?_
        refine LOk.bind0 (SRun_sizeOf (tt_of F he)) ?_
        refine LOk.bind0 (x := #[]) (SRun.pure _) ?_
        exact LOk.still S (SRun.pure _) RV_int
      · rename_i id off len cp
        cases e
        obtain ⟨p, hp, cap, rfl, _⟩ := sl_inv hs
        unfold RV at hd; subst hd
        unfold Builtin.copy_
        refine LOk.bind0 (SRun.underlying (desc_slice F hdt)) ?_
        refine LOk.bind0 lenOf_slice ?_
        refine LOk.bind0 (SRun_sizeOf (tt_of F he)) ?_
        have h0 : Nat.min len 0 = 0 := Nat.min_zero _
        refine LOk.bind0 (x := #[]) ?_ ?_
        · rw [h0]
          show SRun P (loadCellsFrom _ 0 (0 * ei.size) #[]) _ _ _ _
          rw [Nat.zero_mul]; exact SRun.pure _
        rw [h0]
        exact LOk.still S (SRun.pure _) RV_int
      · cases e
  · cases e
end
end Go.Ev
