/- A part of the proof that the law WatchNil returns true for every input (its card: YtoiihnenoedbmaaGreatDoorMyCard): EvLoud2, EvLoud3, EvLoud4, EvLoud5, EvLoud6, EvSim, EvLoud7. Conditions: those of the given row alone. -/
import Derived.Test.YtoiihnenoedbmaaGreatDoorEv2
import Derived.IntWalk
import Derived.Conc.Own
import Derived.Conc.Listed
import GoSem.ClaimLeaving
/- Slices of zeros, maps: what changes. -/
namespace Go.Ev
section
variable {P : Program} {K : Ctx} {ι : Nm} {h : AH} {w : World} {E : Env}

theorem rep_length (n : Nat) (z : List AV) : (rep n z).length = n * z.length := by
  induction n with
  | zero => simp [rep]
  | succ n ih => rw [rep, List.length_append, ih, Nat.add_mul]; omega
theorem rep_get {z : List AV} : ∀ (n i : Nat), i < n * z.length → (rep n z)[i]? = z[i % z.length]?
  | 0, i, h => by simp at h
  | n + 1, i, h => by
    rw [rep]
    by_cases hi : i < z.length
    · rw [List.getElem?_append_left hi, Nat.mod_eq_of_lt hi]
    · rw [List.getElem?_append_right (by omega), rep_get n (i - z.length) (by rw [Nat.succ_mul] at h; omega), Nat.mod_eq_sub_mod (a := i) (by omega)]

theorem RVs_rep {z : List AV} {c : Array Value} (h : RVs ι z c.toList) (n k : Nat) (hk : k = n * z.length) : RVs ι (rep n z) ((Array.range k).map (c[· % c.size]!)).toList := by
  have hlen : z.length = c.size := by rw [h.length]; simp
  refine RVs.of_get (by simp [rep_length, hk]) fun i a v h1 h2 => ?_
  have hi : i < n * z.length := by
    have := h1; rw [List.getElem?_eq_some_iff] at this
    obtain ⟨hlt, _⟩ := this
    rw [rep_length] at hlt; exact hlt
  rw [rep_get n i hi] at h1
  obtain ⟨v', hv', hr⟩ := h.get h1
  have : v = v' := by
    rw [Array.getElem?_toList, Array.getElem?_map] at h2
    rw [Array.getElem?_toList] at hv'
    have hr' : (Array.range k)[i]? = some i := by rw [Array.getElem?_range]; simp [hk, hi]
    rw [hr'] at h2
    simp only [Option.map_some, Option.some.injEq] at h2
    rw [← h2, ← hlen]
    rw [Array.getElem!_eq_getD, Array.getD_eq_getD_getElem?, hv']; rfl
  rw [this]; exact hr

theorem i64_wrap {n : Int} (h1 : 0 ≤ n) (h2 : n < 9223372036854775808) : IntKind.i64.wrap n = n := IntWalk.i64_in n (by omega)

theorem buildSliceA_ok (F : Fits P E) (S : Sat K ι h w) {t : TypeId} {len : Nat} {ps : List (Nat × AV)} {vs : Array (Nat × Value)} {v : AV} {h' : AH} (e : buildSliceA E h t len ps = some (.val v h')) (hv : RVp ι ps vs.toList) :
    LOk P K ι h w (Instr.buildSlice t len vs) v h' := by
  unfold buildSliceA at e
  split at e
  · rename_i el hd
    split at e
    · rename_i ei he
      obtain ⟨hb, e⟩ := cond_none_some e
      have hb : ¬ (65536 < len * ei.size) := fun h => by rw [← Nat.blt_eq, hb] at h; cases h
      cases hf : fillA (fun i => some (i * ei.size, ei.size)) (rep len ei.zero) ps with
      | none => rw [hf] at e; cases e
      | some r =>
        rw [hf] at e; cases e
        obtain ⟨z, hz, _, hzc, hzs, hzl⟩ := zeroV_cells (w := w) (ι := ι) F he
        unfold Instr.buildSlice
        refine LOk.bind0 (SRun.underlying (desc_slice F hd)) ?_
        refine LOk.bind0 (SRun_sizeOf (tt_of F he)) ?_
        have hb' : ¬ (len * ei.size > 2 ^ 24) := by omega
        simp only [hb', if_false]
        have tail : ∀ c : Array Value, RVs ι (rep len ei.zero) ((Array.range (len * ei.size)).map (c[· % c.size]!)).toList → LOk P K ι h w (do
            let some cells := Instr.fill (fun i => some (i * ei.size, ei.size)) ((Array.range (len * ei.size)).map (c[· % c.size]!)) vs.toList | stuck "buildSlice: a part of the wrong size"
            Pure.pure (.slice (some (← newRow el cells)) len len)) (.sl h.nx 0 len (some len)) (h.new (.cells r el false false)) := by
          intro c hc2
          obtain ⟨c', hf', hr⟩ := fillA_ok (place := fun i => some (i * ei.size, ei.size)) (fun i q hq => hq) hf hv hc2
          simp only [hf']
          exact LOk_newRow S hr (fun b => .slice (some ⟨b, 0, none⟩) len len) (fun b w => SRun.pure _) (fun ι' k b hk => by
            unfold RV; exact ⟨_, hk, len, rfl, Nat.le_refl _, fun k hk => by cases hk; rfl, fun hn => by cases hn⟩)
        by_cases h0 : len * ei.size = 0
        · rw [if_pos h0]
          refine LOk.bind0 (SRun.pure _) (tail #[] ?_)
          rw [h0]
          have : rep len ei.zero = [] := List.length_eq_zero_iff.1 (by rw [rep_length, hzl]; exact h0)
          rw [this]; simp; exact RVs_nil
        · rw [if_neg h0]
          exact LOk.bind0 hz (LOk.bind0 (SRun.pure _) (tail z.cells (RVs_rep hzc len _ (by rw [hzl]))))
    · cases e
  · cases e

theorem makeSliceA_ok (F : Fits P E) (S : Sat K ι h w) {t : TypeId} {l c : AV} {vl vc : Value} {v : AV} {h' : AH} (e : makeSliceA E h t l c = some (.val v h')) (hl : RV ι l vl) (hc : RV ι c vc) :
    LOk P K ι h w (Instr.makeSlice t vl vc) v h' := by
  unfold makeSliceA at e
  split at e
  · rename_i el k n k' m hd
    split at e
    · rename_i ei he
      obtain ⟨hb, e⟩ := cond_some e
      cases e
      rw [Bool.and_eq_true, decide_eq_true_eq] at hb
      obtain ⟨⟨hn0, hnm, hm⟩, hbytes⟩ := hb
      have hbytes := Nat.le_of_ble_eq_true hbytes
      obtain rfl := int_inv hl
      obtain rfl := int_inv hc
      obtain ⟨i, z, hi, hs, hby, hz, _, hzc, hzs, hzl⟩ := (tt_of F he).info
      have hzv : SRun P (zeroValue el) w z w [] := SRun.zeroValue hi hz
      unfold Instr.makeSlice
      refine LOk.bind0 (SRun.underlying (desc_slice F hd)) ?_
      refine LOk.bind0 (x := n) (SRun.pure _) ?_
      refine LOk.bind0 (x := m) (SRun.pure _) ?_
      refine LOk.bind0 (SRun.typeInfo hi) ?_
      have wn : IntKind.i64.wrap n = n := i64_wrap (by omega) (by omega)
      have wm : IntKind.i64.wrap m = m := i64_wrap (by omega) (by omega)
      have hlt : (i.bytes : Int) * m ≤ 4096 * 65536 := by
        rw [hby]
        exact Int.mul_le_mul (by omega) hm (by omega) (by omega)
      have hbig : ¬ ((i.bytes : Int) * m > 2 ^ 48) := by omega
      have hn1 : ¬ n < 0 := by omega
      have hm1 : ¬ m < 0 := by omega
      have hnm1 : ¬ n > m := by omega
      simp only [wn, wm, hbig, hn1, hm1, hnm1, decide_false, Bool.or_false, Bool.false_eq_true, if_false]
      have hroom : ¬ (m.toNat * i.bytes > roomBytes) := by
        unfold roomBytes
        have h1 : m.toNat ≤ 65536 := by omega
        have h2 : i.bytes ≤ 4096 := by omega
        have := Nat.mul_le_mul h1 h2
        omega
      refine LOk.bind0 (x := ()) ?_ ?_
      · unfold askRoom; rw [if_neg hroom]; exact SRun.pure _
      refine LOk.bind0 (SRun_sizeOf (tt_of F he)) ?_
      have tail : ∀ c : Array Value, RVs ι (rep m.toNat ei.zero) ((Array.range (m.toNat * ei.size)).map (c[· % c.size]!)).toList → LOk P K ι h w (do
          let a ← newRow el ((Array.range (m.toNat * ei.size)).map (c[· % c.size]!))
          Pure.pure (.slice (some a) n.toNat m.toNat)) (.sl h.nx 0 n.toNat (some m.toNat)) (h.new (.cells (rep m.toNat ei.zero) el false false)) := by
        intro c hc2
        exact LOk_newRow S hc2 (fun b => .slice (some ⟨b, 0, none⟩) n.toNat m.toNat) (fun b w => SRun.pure _) (fun ι' k b hk => by
          unfold RV; exact ⟨_, hk, m.toNat, rfl, by omega, fun k hk => by cases hk; rfl, fun hn => by cases hn⟩)
      by_cases h0 : m.toNat * ei.size = 0
      · rw [if_pos h0]
        refine LOk.bind0 (SRun.pure _) (tail #[] ?_)
        rw [h0]
        have : rep m.toNat ei.zero = [] := List.length_eq_zero_iff.1 (by rw [rep_length, hzl]; exact h0)
        rw [this]; simp; exact RVs_nil
      · rw [if_neg h0]
        exact LOk.bind0 hzv (LOk.bind0 (SRun.pure _) (tail z.cells (RVs_rep (hzc ι) m.toNat _ (by rw [hzl]))))
    · cases e
  · cases e

/-! ### maps -/
theorem condDead {b : Bool} {o x : AO} (e : cond b o .dead = x) (hx : x.live) : b = true ∧ o = x := by
  cases b with
  | true => exact ⟨rfl, e⟩
  | false => subst e; exact hx.elim

theorem setObj_ok (S : Sat K ι h w) {id : Nat} {p : Nat × Nat} (hp : ι id = some p) {o0 : AO} (ho : h.obj id = o0) (hl : o0.live) {ob0 : Obj} (hb : w.heap[p.1]? = some ob0) (hc0 : ∀ c e f, ob0 ≠ .cells c e f)
    {o : AO} {ob : Obj} (hr : RO K.P ι p.2 o ob) (hch : ob.isChan = false) : UOk P K ι h w (Go.setObj p.1 ob) (h.put id o) := fun _ => by
  obtain ⟨q, ob', hq, b1, b2, b3, hb', _⟩ := S.at ho hl
  obtain rfl : p = q := by rw [hp] at hq; exact Option.some.inj hq
  refine ⟨ι, _, _, SRun.setObj hb hc0, by rw [AH.put_nx]; exact Grow.refl _ _, S.putO hp (AH.obj_live ho hl) hl hr, Fine.putO _ b1 b2 ?_, AH.put_df⟩
  intro e he
  simp only [List.mem_singleton] at he
  subst he
  exact ⟨b1, b2, b3, hch⟩

theorem newMap_ok (S : Sat K ι h w) {f : Nat → Sem Value} (hf : ∀ b w, SRun P (f b) w (.map (some b)) w []) : LOk P K ι h w (newObj (.map #[] 0) >>= f) (.map h.nx) (h.new (.map [] 0)) := fun hfr => by
  have hf' := free_new hfr
  refine ⟨upd ι h.nx (w.heap.size, 0), { w with heap := w.heap.push (.map #[] 0) }, .map (some w.heap.size), [], ?_, by rw [AH.new_nx]; exact Grow.upd, S.newO hf' ⟨#[], rfl, rfl⟩, ?_, Fine.newO _ K, AH.new_df⟩
  · exact SRun.bind (e1 := []) (e2 := []) (SRun.new _) (hf _ _)
  · unfold RV; exact ⟨_, upd_self _ _ _, rfl⟩

theorem makeMapA_ok (F : Fits P E) (S : Sat K ι h w) {t : TypeId} {r : Option AV} {vr : Option Value} {v : AV} {h' : AH} (e : makeMapA E h t r = some (.val v h')) (hr : RVo ι r vr) :
    LOk P K ι h w (Instr.makeMap t vr) v h' := by
  unfold makeMapA at e
  split at e
  · cases e
    have : vr = none := hr
    subst this
    unfold Instr.makeMap
    exact newMap_ok S (fun b w => SRun.pure _)
  · rename_i k n
    split at e
    · rename_i kt el hd
      cases e
      obtain ⟨u, rfl, hu⟩ := hr
      obtain rfl := int_inv hu
      unfold Instr.makeMap
      refine LOk.bind0 (SRun.underlying (desc_map F hd).1) ?_
      refine LOk.bind0 (x := n) (SRun.pure _) ?_
      exact newMap_ok S (fun b w => SRun.pure _)
    · cases e
  · cases e

theorem eqS_same {x y : AV} {v u : Value} (e : eqS x y = some true) (hv : RV ι x v) (hu : RV ι y u) : v = u ∧ ∀ n, Instr.sameBits n v v = true := by
  cases x <;> cases y <;> try (cases e; done)
  · rename_i a b
    simp only [eqS, Option.some.injEq, beq_iff_eq] at e
    subst e
    rw [bool_inv hv, bool_inv hu]
    exact ⟨rfl, fun n => by cases n <;> simp [Instr.sameBits]⟩
  · rename_i k a k' b
    simp only [eqS] at e
    obtain ⟨h1, h2⟩ := cond_some e
    rw [ikEq_true h1] at hv
    simp only [beq_iff_eq] at h2
    subst h2
    rw [int_inv hv, int_inv hu]
    exact ⟨rfl, fun n => by cases n <;> simp [Instr.sameBits]⟩
  · rename_i a b
    simp only [eqS, Option.some.injEq, beq_iff_eq] at e
    subst e
    rw [str_inv hv, str_inv hu]
    refine ⟨rfl, fun n => ?_⟩
    have : ((⟨a.toArray⟩ : ByteArray) == ⟨a.toArray⟩) = true := by rw [bytes_beq]; simp
    cases n <;> simpa [Instr.sameBits] using this

theorem eqL_same : ∀ {l m : List AV} {vs us : List Value}, eqL l m = some true → RVs ι l vs → RVs ι m us → vs = us ∧ ∀ n, (vs.zip vs).all (fun (x, y) => Instr.sameBits n x y) = true
  | [], [], vs, us, _, h1, h2 => by rw [RVs_nil_inv h1, RVs_nil_inv h2]; exact ⟨rfl, fun _ => rfl⟩
  | [], _ :: _, _, _, e, _, _ => by cases e
  | _ :: _, [], _, _, e, _, _ => by cases e
  | a :: l, b :: m, vs, us, e, h1, h2 => by
    obtain ⟨v, r, rfl, g1, g2⟩ := RVs_cons_inv h1
    obtain ⟨u, s, rfl, g3, g4⟩ := RVs_cons_inv h2
    simp only [eqL] at e
    split at e
    · cases e
    · split at e <;> cases e
    · rename_i hb
      obtain ⟨i1, i2⟩ := eqS_same hb g1 g3
      obtain ⟨i3, i4⟩ := eqL_same e g2 g4
      subst i1; subst i3
      exact ⟨rfl, fun n => by simp only [List.zip_cons_cons, List.all_cons, i2 n, i4 n, Bool.and_self]⟩

theorem eqK_same {x y : AV} {v u : Value} (e : eqK x y = some true) (hv : RV ι x v) (hu : RV ι y u) : v = u ∧ Instr.sameBits 10000 v v = true := by
  unfold eqK at e
  split at e
  · obtain ⟨c, rfl, hc⟩ := agg_inv hv
    obtain ⟨d, rfl, hd⟩ := agg_inv hu
    obtain ⟨h1, h2⟩ := eqL_same e hc hd
    have hcd : c = d := Array.toList_inj.1 h1
    subst hcd
    refine ⟨rfl, ?_⟩
    show Instr.sameBits (9999 + 1) _ _ = true
    rw [Instr.sameBits]
    simp only [beq_self_eq_true, Bool.true_and]
    exact h2 9999
  · obtain ⟨h1, h2⟩ := eqS_same e hv hu
    exact ⟨h1, h2 10000⟩

theorem keyStays {v : Value} (hs : Instr.sameBits 10000 v v = true) : SRun P (Instr.keyThatStays v v) w v w [] := by
  unfold Instr.keyThatStays; rw [if_pos hs]; exact SRun.pure _

theorem findK_at {k : AV} : ∀ {es : List AE} {j i : Nat} {v : AV}, findK k es j = some (some (i, v)) → ∃ a, es[i - j]? = some a ∧ eqK k a.key = some true ∧ v = a.val ∧ j ≤ i
  | [], _, _, _, e => by cases e
  | a :: es, j, i, v, e => by
    simp only [findK] at e
    split at e
    · cases e
    · rename_i hb
      cases e
      exact ⟨a, by simp, hb, rfl, Nat.le_refl _⟩
    · obtain ⟨b, h1, h2, h3, h4⟩ := findK_at e
      refine ⟨b, ?_, h2, h3, by omega⟩
      have : i - j = (i - (j + 1)) + 1 := by omega
      rw [this]; simpa using h1

theorem REs.get {l : List AE} {es : List MapEntry} (hr : REs ι l es) {i : Nat} {a : AE} (hi : l[i]? = some a) : ∃ e, es[i]? = some e ∧ RV ι a.key e.key ∧ RV ι a.val e.val ∧ e.born = a.born := by
  induction l generalizing es i with
  | nil => simp at hi
  | cons x l ih =>
    obtain ⟨e, r, rfl, h1, h2, h3, h4⟩ := hr
    cases i with
    | zero => simp at hi; subst hi; exact ⟨e, rfl, h1, h2, h3⟩
    | succ i => simp at hi; simpa using ih h4 hi

theorem REs.modify {l : List AE} {es : List MapEntry} (hr : REs ι l es) (i : Nat) {f : AE → AE} {g : MapEntry → MapEntry}
    (hf : ∀ a e, l[i]? = some a → es[i]? = some e → RV ι a.key e.key → RV ι a.val e.val → e.born = a.born → RV ι (f a).key (g e).key ∧ RV ι (f a).val (g e).val ∧ (g e).born = (f a).born) :
    REs ι (l.modify i f) (es.modify i g) := by
  induction l generalizing es i with
  | nil =>
    have : es = [] := hr
    subst this
    simp; rfl
  | cons x l ih =>
    obtain ⟨e, r, rfl, h1, h2, h3, h4⟩ := hr
    cases i with
    | zero =>
      obtain ⟨g1, g2, g3⟩ := hf x e rfl rfl h1 h2 h3
      rw [List.modify_zero_cons, List.modify_zero_cons]
      exact ⟨_, _, rfl, g1, g2, g3, h4⟩
    | succ i =>
      rw [List.modify_succ_cons, List.modify_succ_cons]
      exact ⟨e, _, rfl, h1, h2, h3, ih h4 i fun a e' ha he => hf a e' (by simpa using ha) (by simpa using he)⟩

theorem REs.append {l m : List AE} {es fs : List MapEntry} (hr : REs ι l es) (hr' : REs ι m fs) : REs ι (l ++ m) (es ++ fs) := by
  induction l generalizing es with
  | nil =>
    have : es = [] := hr
    subst this; exact hr'
  | cons x l ih =>
    obtain ⟨e, r, rfl, h1, h2, h3, h4⟩ := hr
    exact ⟨e, _, rfl, h1, h2, h3, ih h4⟩

theorem REs.erase {l : List AE} {es : List MapEntry} (hr : REs ι l es) (i : Nat) : REs ι (l.eraseIdx i) (es.eraseIdx i) := by
  induction l generalizing es i with
  | nil =>
    have : es = [] := hr
    subst this; simp; rfl
  | cons x l ih =>
    obtain ⟨e, r, rfl, h1, h2, h3, h4⟩ := hr
    cases i with
    | zero => simpa using h4
    | succ i => simp only [List.eraseIdx_cons_succ]; exact ⟨e, _, rfl, h1, h2, h3, ih h4 i⟩

theorem mapUpdateA_ok (F : Fits P E) (S : Sat K ι h w) {t : TypeId} {m k x : AV} {vm vk vx : Value} {v : AV} {h' : AH} (e : mapUpdateA E h t m k x = some (.val v h')) (hm : RV ι m vm) (hk : RV ι k vk) (hx : RV ι x vx) :
    UOk P K ι h w (Instr.mapUpdate t vm vk vx) h' ∧ v = undefA := by
  unfold mapUpdateA at e
  split at e
  · rename_i kt el id hd
    split at e
    · rename_i es ck ho
      obtain ⟨hok, ho⟩ := condDead ho trivial
      obtain ⟨p, hp, rfl⟩ := map_inv hm
      obtain ⟨q, ob, hq, b1, b2, b3, hb, es', rfl, hr⟩ := S.at ho trivial
      obtain rfl : p = q := by rw [hp] at hq; exact Option.some.inj hq
      obtain ⟨g1, g2⟩ := SRun.getObjE (P := P) (K := K) hb (by simp) rfl b1 b2
      split at e
      · cases e
      · rename_i i v' hf
        cases e
        refine ⟨?_, rfl⟩
        obtain ⟨hck, r', hr', hfr⟩ := findK_ok (w := w) F hok hk hf hr
        cases r' with
        | none => exact hfr.elim
        | some q' =>
          obtain ⟨i', u'⟩ := q'
          obtain ⟨hi, _⟩ := hfr
          simp only at hi; subst hi
          obtain ⟨a, ha, hka, _⟩ := findK_at hf
          simp only [Nat.sub_zero] at ha
          obtain ⟨en, hen, hkn, hvn, hbn⟩ := hr.get ha
          obtain ⟨hsame, hbits⟩ := eqK_same hka hk hkn
          have hold : ((es'[i]?).map (·.key)).getD vk = vk := by
            rw [← Array.getElem?_toList, hen]; simp [hsame]
          unfold Instr.mapUpdate
          refine UOk.bind0 (SRun.underlying (desc_map F hd).1) ?_
          refine UOk.bindE g1 g2 ?_
          refine UOk.bind0 (hck _) ?_
          refine UOk.bind0 hr' ?_
          simp only [hold]
          refine UOk.bind0 (keyStays hbits) ?_
          refine setObj_ok S hp ho trivial hb (by simp) ⟨_, rfl, ?_⟩ rfl
          rw [Array.toList_modify]
          exact hr.modify i fun a e _ _ _ _ h3 => ⟨hk, hx, h3⟩
      · rename_i hf
        cases e
        refine ⟨?_, rfl⟩
        obtain ⟨hck, r', hr', hfr⟩ := findK_ok (w := w) F hok hk hf hr
        cases r' with
        | some q' => exact hfr.elim
        | none =>
          unfold Instr.mapUpdate
          refine UOk.bind0 (SRun.underlying (desc_map F hd).1) ?_
          refine UOk.bindE g1 g2 ?_
          refine UOk.bind0 (hck _) ?_
          refine UOk.bind0 hr' ?_
          refine setObj_ok S hp ho trivial hb (by simp) ⟨_, rfl, ?_⟩ rfl
          rw [Array.toList_push]
          exact hr.append ⟨_, [], rfl, hk, hx, rfl, rfl⟩
    · cases e
  · cases e

theorem int64_inv {n : Int} {v : Value} (h : RV ι (int64 n) v) : v = .int .i64 n := int_inv h

theorem mapEntryA_ok (F : Fits P E) (S : Sat K ι h w) {t : TypeId} {m k : AV} {vm vk : Value} {v : AV} {h' : AH} (e : mapEntryA E h t m k = some (.val v h')) (hm : RV ι m vm) (hk : RV ι k vk) :
    LOk P K ι h w (Instr.mapEntry t vm vk) v h' := by
  unfold mapEntryA at e
  split at e
  · rename_i kt el id hd
    split at e
    · rename_i es ck ei ho he
      obtain ⟨hok, ho⟩ := condDead ho trivial
      obtain ⟨p, hp, rfl⟩ := map_inv hm
      obtain ⟨q, ob, hq, b1, b2, b3, hb, es', rfl, hr⟩ := S.at ho trivial
      obtain rfl : p = q := by rw [hp] at hq; exact Option.some.inj hq
      obtain ⟨g1, g2⟩ := SRun.getObjE (P := P) (K := K) hb (by simp) rfl b1 b2
      split at e
      · cases e
      · rename_i i v' hf
        split at e
        · rename_i en0 hen0
          cases e
          obtain ⟨hck, r', hr', hfr⟩ := findK_ok (w := w) F hok hk hf hr
          cases r' with
          | none => exact hfr.elim
          | some q' =>
            obtain ⟨i', u'⟩ := q'
            obtain ⟨hi, hu'⟩ := hfr
            simp only at hi; subst hi
            obtain ⟨a, ha, hka, _⟩ := findK_at hf
            simp only [Nat.sub_zero] at ha
            rw [hen0] at ha; cases ha
            obtain ⟨en, hen, hkn, hvn, hbn⟩ := hr.get hen0
            obtain ⟨hsame, hbits⟩ := eqK_same hka hk hkn
            have hold : ((es'[i]?).map (·.key)).getD vk = vk := by
              rw [← Array.getElem?_toList, hen]; simp [hsame]
            have hborn : ((es'[i]?).map (fun x => (x.born : Int))).getD 0 = en0.born := by
              rw [← Array.getElem?_toList, hen]; simp [hbn]
            unfold Instr.mapEntry
            refine LOk.bind0 (SRun.underlying (desc_map F hd).1) ?_
            refine LOk.bindE g1 g2 ?_
            refine LOk.bind0 (hck _) ?_
            refine LOk.bind0 hr' ?_
            simp only [hold, hborn]
            refine LOk.bind0 (keyStays hbits) ?_
            refine UOk.val (setObj_ok S hp ho trivial hb (by simp) ⟨_, rfl, ?_⟩ rfl) (fun ι' hE => RV_tup (RVs_cons (hu'.mono hE) (RVs_cons RV_int RVs_nil))) (fun w => SRun.pure _)
            rw [Array.toList_modify]
            exact hr.modify i fun a e _ _ _ h2 h3 => ⟨hk, h2, h3⟩
        · cases e
      · rename_i hf
        cases e
        obtain ⟨z, hz, hz1, _⟩ := zeroV_cells (w := w) (ι := ι) F he
        obtain ⟨hck, r', hr', hfr⟩ := findK_ok (w := w) F hok hk hf hr
        cases r' with
        | some q' => exact hfr.elim
        | none =>
          unfold Instr.mapEntry
          refine LOk.bind0 (SRun.underlying (desc_map F hd).1) ?_
          refine LOk.bindE g1 g2 ?_
          refine LOk.bind0 (hck _) ?_
          refine LOk.bind0 hr' ?_
          refine LOk.bind0 hz ?_
          refine UOk.val (setObj_ok S hp ho trivial hb (by simp) ⟨_, rfl, ?_⟩ rfl) (fun ι' hE => RV_tup (RVs_cons (hz1.mono hE) (RVs_cons RV_int RVs_nil))) (fun w => SRun.pure _)
          rw [Array.toList_push]
          exact hr.append ⟨_, [], rfl, hk, hz1, rfl, rfl⟩
    · cases e
  · cases e

theorem REs.findIdx {q : AE → Bool} {q' : MapEntry → Bool} (hq : ∀ a e, e.born = a.born → q a = q' e) {l : List AE} {es : List MapEntry} (hr : REs ι l es) : l.findIdx? q = es.findIdx? q' := by
  induction l generalizing es with
  | nil =>
    have : es = [] := hr
    subst this; rfl
  | cons x l ih =>
    obtain ⟨e, r, rfl, h1, h2, h3, h4⟩ := hr
    rw [List.findIdx?_cons, List.findIdx?_cons, hq x e h3, ih h4]

theorem entryStoreA_ok (S : Sat K ι h w) {t : TypeId} {m s x : AV} {vm vs vx : Value} {v : AV} {h' : AH} (e : entryStoreA h m s x = some (.val v h')) (hm : RV ι m vm) (hs : RV ι s vs) (hx : RV ι x vx) :
    UOk P K ι h w (Instr.entryStore t vm vs vx) h' ∧ v = undefA := by
  unfold entryStoreA at e
  split at e
  · rename_i id k st
    split at e
    · rename_i es ck ho
      split at e
      · rename_i i hf
        cases e
        refine ⟨?_, rfl⟩
        obtain ⟨p, hp, rfl⟩ := map_inv hm
        obtain rfl := int_inv hs
        obtain ⟨q, ob, hq, b1, b2, b3, hb, es', rfl, hr⟩ := S.at ho trivial
        obtain rfl : p = q := by rw [hp] at hq; exact Option.some.inj hq
        obtain ⟨g1, g2⟩ := SRun.getObjE (P := P) (K := K) hb (by simp) rfl b1 b2
        unfold Instr.entryStore
        refine UOk.bindE g1 g2 ?_
        refine UOk.bind0 (x := st) (SRun.pure _) ?_
        have hfi : es'.findIdx? (fun e => (e.born : Int) == st) = some i := by
          have := hr.findIdx (q := fun e => (e.born : Int) == st) (q' := fun e => (e.born : Int) == st) (fun a e h => by rw [h])
          rw [hf] at this
          have h2 : es'.findIdx? (fun e => (e.born : Int) == st) = es'.toList.findIdx? (fun e => (e.born : Int) == st) := by
            rcases es' with ⟨l⟩; simp
          rw [h2, ← this]
        simp only [hfi]
        refine setObj_ok S hp ho trivial hb (by simp) ⟨_, rfl, ?_⟩ rfl
        rw [Array.toList_modify]
        exact hr.modify i fun a e _ _ h1 _ h3 => ⟨h1, hx, h3⟩
      · cases e
    · cases e
  · cases e

theorem deleteA_ok (F : Fits P E) (S : Sat K ι h w) {t ty : TypeId} {m k : AV} {vm vk : Value} {v : AV} {h' : AH} (e : deleteA E h t m k = some (.val v h')) (hm : RV ι m vm) (hk : RV ι k vk) :
    LOk P K ι h w (Builtin.delete_ #[t] ty #[vm, vk]) v h' := by
  unfold deleteA at e
  split at e
  · rename_i kt el hd
    obtain ⟨hok, e⟩ := cond_some e
    cases e
    have hm : vm = .map none := by unfold RV at hm; exact hm
    subst hm
    have hck := (findK_ok (w := w) F hok hk (es := []) (vs := []) (r := none) rfl rfl).1
    unfold Builtin.delete_
    refine LOk.bind0 (SRun.underlying (desc_map F hd).1) ?_
    refine LOk.bind0 (hck _) ?_
    exact fun _ => ⟨ι, w, _, [], SRun.pure _, Grow.refl _ _, S, RV_undef, Fine.refl K w (by simp), rfl⟩
  · rename_i kt el id hd
    split at e
    · rename_i es ck ho
      obtain ⟨hok, ho⟩ := condDead ho trivial
      obtain ⟨p, hp, rfl⟩ := map_inv hm
      obtain ⟨q, ob, hq, b1, b2, b3, hb, es', rfl, hr⟩ := S.at ho trivial
      obtain rfl : p = q := by rw [hp] at hq; exact Option.some.inj hq
      obtain ⟨g1, g2⟩ := SRun.getObjE (P := P) (K := K) hb (by simp) rfl b1 b2
      split at e
      · cases e
      · rename_i i v' hf
        cases e
        obtain ⟨hck, r', hr', hfr⟩ := findK_ok (w := w) F hok hk hf hr
        cases r' with
        | none => exact hfr.elim
        | some q' =>
          obtain ⟨i', u'⟩ := q'
          obtain ⟨hi, _⟩ := hfr
          simp only at hi; subst hi
          unfold Builtin.delete_
          refine LOk.bind0 (SRun.underlying (desc_map F hd).1) ?_
          refine LOk.bindE g1 g2 ?_
          refine LOk.bind0 (hck _) ?_
          refine LOk.bind0 hr' ?_
          refine UOk.val (setObj_ok S hp ho trivial hb (by simp) ⟨_, rfl, ?_⟩ rfl) (fun ι' hE => RV_undef) (fun w => SRun.pure _)
          have : (es'.eraseIdxIfInBounds i).toList = es'.toList.eraseIdx i := by simp
          rw [this]
          exact hr.erase i
      · rename_i hf
        cases e
        obtain ⟨hck, r', hr', hfr⟩ := findK_ok (w := w) F hok hk hf hr
        cases r' with
        | some q' => exact hfr.elim
        | none =>
          unfold Builtin.delete_
          refine LOk.bind0 (SRun.underlying (desc_map F hd).1) ?_
          refine LOk.bindE g1 g2 ?_
          refine LOk.bind0 (hck _) ?_
          refine LOk.bind0 hr' ?_
          exact UOk.val (setObj_ok S hp ho trivial hb (by simp) ⟨_, rfl, hr⟩ rfl) (fun ι' hE => RV_undef) (fun w => SRun.pure _)
    · cases e
  · cases e

theorem clearA_ok (F : Fits P E) (S : Sat K ι h w) {t ty : TypeId} {m : AV} {vm : Value} {v : AV} {h' : AH} (e : clearA E h t m = some (.val v h')) (hm : RV ι m vm) :
    LOk P K ι h w (Builtin.clear_ #[t] ty #[vm]) v h' := by
  unfold clearA at e
  split at e
  · rename_i kt el id hd
    split at e
    · rename_i es ck ho
      cases e
      obtain ⟨p, hp, rfl⟩ := map_inv hm
      obtain ⟨q, ob, hq, b1, b2, b3, hb, es', rfl, hr⟩ := S.at ho trivial
      obtain rfl : p = q := by rw [hp] at hq; exact Option.some.inj hq
      obtain ⟨g1, g2⟩ := SRun.getObjE (P := P) (K := K) hb (by simp) rfl b1 b2
      unfold Builtin.clear_
      refine LOk.bind0 (SRun.underlying (desc_map F hd).1) ?_
      refine LOk.bindE g1 g2 ?_
      exact UOk.val (setObj_ok S hp ho trivial hb (by simp) ⟨#[], rfl, rfl⟩ rfl) (fun ι' hE => RV_undef) (fun w => SRun.pure _)
    · cases e
  · cases e
end
end Go.Ev
/- Ranges, iterators; append, copy. -/
namespace Go.Ev
section
variable {P : Program} {K : Ctx} {ι : Nm} {h : AH} {w : World} {E : Env}

/-- A new object of any kind. -/
theorem LOk_newObj (S : Sat K ι h w) {o : AO} {ob : Obj} {cap : Nat} (hr : RO K.P ι cap o ob) {f : Nat → Sem Value} {a : AV} (g : Nat → Value) (hf : ∀ b w, SRun P (f b) w (g b) w [])
    (ha : ∀ ι' b, ι' h.nx = some (b, cap) → Ext ι ι' → RV ι' a (g b)) : LOk P K ι h w (newObj ob >>= f) a (h.new o) := fun hfr => by
  have hf' := free_new hfr
  have hE : Ext ι (upd ι h.nx (w.heap.size, cap)) := ext_upd hf'
  exact ⟨upd ι h.nx (w.heap.size, cap), { w with heap := w.heap.push ob }, g w.heap.size, [], SRun.bind (e1 := []) (e2 := []) (SRun.new _) (hf _ _), by rw [AH.new_nx]; exact Grow.upd, S.newO hf' (hr.mono hE), ha _ _ (upd_self _ _ _) hE, Fine.newO _ K, AH.new_df⟩

theorem rangeA_ok (F : Fits P E) (S : Sat K ι h w) {t : TypeId} {x : AV} {vx : Value} {v : AV} {h' : AH} (e : rangeA E h t x = some (.val v h')) (hx : RV ι x vx) : LOk P K ι h w (Instr.range t vx) v h' := by
  unfold rangeA at e
  have ptr : ∀ {ι' : Nm} {i b k : Nat}, ι' i = some (b, k) → RV ι' (.ptr i 0) (.pointer (some ⟨b, 0, none⟩)) := fun hi => RV_ptr hi
  split at e
  · rename_i s hd
    cases e
    obtain rfl := str_inv hx
    unfold Instr.range
    refine LOk.bind0 (SRun.underlying (desc_str F hd)) ?_
    refine LOk.bind0 (SRun.pure _) ?_
    exact LOk_newObj S (cap := 0) (o := .sit s 0) (ob := .stringIter ⟨s.toArray⟩ 0) rfl (fun b => .pointer (some ⟨b, 0, none⟩)) (fun b w => SRun.pure _) (fun ι' b hb _ => ptr hb)
  · rename_i k el hd
    cases e
    unfold RV at hx; subst hx
    unfold Instr.range
    refine LOk.bind0 (SRun.underlying (desc_map F hd).1) ?_
    refine LOk.bind0 (SRun.pure _) ?_
    exact LOk_newObj S (cap := 0) (o := .mit none 0 [] 0) (ob := .mapIter none 0 #[] 0) ⟨none, fun j hj => (by cases hj), fun _ => rfl, rfl⟩ (fun b => .pointer (some ⟨b, 0, none⟩)) (fun b w => SRun.pure _) (fun ι' b hb _ => ptr hb)
  · rename_i k el id hd
    split at e
    · rename_i es ck ho
      cases e
      obtain ⟨p, hp, rfl⟩ := map_inv hx
      obtain ⟨q, ob, hq, b1, b2, b3, hb, es', rfl, hr⟩ := S.at ho trivial
      obtain rfl : p = q := by rw [hp] at hq; exact Option.some.inj hq
      obtain ⟨g1, g2⟩ := SRun.getObjE (P := P) (K := K) hb (by simp) rfl b1 b2
      unfold Instr.range
      refine LOk.bind0 (SRun.underlying (desc_map F hd).1) ?_
      refine LOk.bindE g1 g2 ?_
      refine LOk.bind0 (SRun.pure _) ?_
      exact LOk_newObj S (cap := 0) (o := .mit (some id) ck [] ck) (ob := .mapIter (some p.1) ck #[] ck) ⟨some p.1, fun j hj => (by cases hj; exact ⟨p, hp, rfl⟩), fun h => (by cases h), rfl⟩ (fun b => .pointer (some ⟨b, 0, none⟩)) (fun b w => SRun.pure _) (fun ι' b hb _ => ptr hb)
    · cases e
  · cases e

/-- Iterating: one of several outcomes. -/
def AOk (P : Program) (K : Ctx) (ι : Nm) (h : AH) (w : World) (s : Sem Value) (l : List (AV × AH)) : Prop := ∃ p ∈ l, LOk P K ι h w s p.1 p.2

theorem LOk.after {s : Sem Nat} {f : Nat → Sem Value} {k d : Nat} {a : AV} {h' : AH} (h1 : SRun P s w k { w with drawn := d } []) (h2 : LOk P K ι h { w with drawn := d } (f k) a h') : LOk P K ι h w (s >>= f) a h' := fun hf => by
  obtain ⟨ι', w', nv, es, h3, h4, h5, h6, h7, h8⟩ := h2 hf
  exact ⟨ι', w', nv, es, SRun.bind0 h1 h3, h4, h5, h6, by simpa using (Fine.drawn K w d).trans h7, h8⟩
theorem LOk.choose {q : Question} {f : Nat → Sem Value} {a : AV} {h' : AH} (h2 : ∀ k d, (∃ t, k = q.cut t ∨ k = 0 ∧ q.forced = true) → LOk P K ι h { w with drawn := d } (f k) a h') : LOk P K ι h w (Go.choose q >>= f) a h' := by
  obtain ⟨k, w', h1, ⟨d, rfl⟩, hk⟩ := SRun.choose (P := P) (w := w) q
  exact LOk.after h1 (h2 k d hk)

theorem REs.all {q : AE → Bool} {q' : MapEntry → Bool} (hq : ∀ a e, e.born = a.born → q a = q' e) {l : List AE} {es : List MapEntry} (hr : REs ι l es) : l.all q = es.all q' := by
  induction l generalizing es with
  | nil =>
    have : es = [] := hr
    subst this; rfl
  | cons x l ih =>
    obtain ⟨e, r, rfl, h1, h2, h3, h4⟩ := hr
    rw [List.all_cons, List.all_cons, hq x e h3, ih h4]
theorem REs.filter {q : AE → Bool} {q' : MapEntry → Bool} (hq : ∀ a e, e.born = a.born → q a = q' e) {l : List AE} {es : List MapEntry} (hr : REs ι l es) : REs ι (l.filter q) (es.filter q') := by
  induction l generalizing es with
  | nil =>
    have : es = [] := hr
    subst this; exact rfl
  | cons x l ih =>
    obtain ⟨e, r, rfl, h1, h2, h3, h4⟩ := hr
    rw [List.filter_cons, List.filter_cons, hq x e h3]
    split
    · exact ⟨e, _, rfl, h1, h2, h3, ih h4⟩
    · exact ih h4

theorem decode_ascii {s : List UInt8} {pos : Nat} {b : UInt8} (hb : s[pos]? = some b) (hlt : b.toNat < 128) : Utf8.decode ⟨s.toArray⟩ pos = (b.toNat, 1) := by
  have hp : pos < s.length := by rw [List.getElem?_eq_some_iff] at hb; exact hb.1
  have h0 : (⟨s.toArray⟩ : ByteArray).get! (pos + 0) = b := by
    have : (⟨s.toArray⟩ : ByteArray).get! (pos + 0) = s.toArray[pos]! := rfl
    rw [this, Array.getElem!_eq_getD, Array.getD_eq_getD_getElem?, List.getElem?_toArray, hb]; rfl
  unfold Utf8.decode
  simp only [h0]
  rw [if_pos (by omega)]

/-- What an iteration comes to. -/
def XOk (P : Program) (K : Ctx) (ι : Nm) (h : AH) (w : World) (s : Sem Value) : OR → Prop
  | .val v h' => LOk P K ι h w s v h'
  | .alts l => AOk P K ι h w s l
  | _ => False

theorem nextA_ok (S : Sat K ι h w) {it : AV} {vi : Value} {isS : Bool} {ty : TypeId} {r : OR} (e : nextA h it isS = some r) (hi : RV ι it vi) : XOk P K ι h w (Instr.next vi isS ty) r := by
  unfold nextA at e
  split at e
  · rename_i id
    obtain ⟨p, hp, rfl⟩ := ptr_inv hi
    split at e
    · rename_i s pos ho
      obtain ⟨q, ob, hq, b1, b2, b3, hb, hob⟩ := S.at ho trivial
      obtain rfl : p = q := by rw [hp] at hq; exact Option.some.inj hq
      obtain rfl : ob = .stringIter ⟨s.toArray⟩ pos := hob
      obtain ⟨g1, g2⟩ := SRun.getObjE (P := P) (K := K) hb (by simp) rfl b1 b2
      split at e
      · rename_i hn
        cases e
        show LOk P K ι h w _ _ _
        unfold Instr.next
        refine LOk.bindE g1 g2 ?_
        have : ¬ pos < (⟨s.toArray⟩ : ByteArray).size := by rw [size_mk]; rw [List.getElem?_eq_none_iff] at hn; omega
        simp only [this, if_false]
        exact fun _ => ⟨ι, w, _, [], SRun.pure _, Grow.refl _ _, S, RV_tup (RVs_cons RV_bool RVs_nil), Fine.refl K w (by simp), rfl⟩
      · rename_i b hbb
        obtain ⟨hlt, e⟩ := cond_some e
        rw [decide_eq_true_eq] at hlt
        subst e
        show LOk P K ι h w _ _ _
        unfold Instr.next
        refine LOk.bindE g1 g2 ?_
        have hsz : pos < (⟨s.toArray⟩ : ByteArray).size := by rw [size_mk]; rw [List.getElem?_eq_some_iff] at hbb; exact hbb.1
        simp only [hsz, if_true, decode_ascii hbb hlt]
        exact UOk.val (setObj_ok S hp ho trivial hb (by simp) rfl rfl) (fun ι' hE => RV_tup (RVs_cons RV_bool (RVs_cons RV_int (RVs_cons RV_int RVs_nil)))) (fun w => SRun.pure _)
    · rename_i since seen st ho
      cases e
      obtain ⟨q, ob, hq, b1, b2, b3, hb, b, k1, k2, rfl⟩ := S.at ho trivial
      obtain rfl : p = q := by rw [hp] at hq; exact Option.some.inj hq
      obtain rfl := k2 rfl
      obtain ⟨g1, g2⟩ := SRun.getObjE (P := P) (K := K) hb (by simp) rfl b1 b2
      show LOk P K ι h w _ _ _
      unfold Instr.next
      refine LOk.bindE g1 g2 ?_
      exact fun _ => ⟨ι, w, _, [], SRun.pure _, Grow.refl _ _, S, RV_tup (RVs_cons RV_bool RVs_nil), Fine.refl K w (by simp), rfl⟩
    · rename_i m since seen last ho
      obtain ⟨q, ob, hq, b1, b2, b3, hb, b, k1, k2, rfl⟩ := S.at ho trivial
      obtain rfl : p = q := by rw [hp] at hq; exact Option.some.inj hq
      obtain ⟨pm, hpm, rfl⟩ := k1 m rfl
      obtain ⟨g1, g2⟩ := SRun.getObjE (P := P) (K := K) hb (by simp) rfl b1 b2
      unfold nextMap at e
      split at e
      · rename_i es ck hm
        obtain ⟨qm, obm, hqm, c1, c2, c3, hbm, es', rfl, hr⟩ := S.at hm trivial
        obtain rfl : pm = qm := by rw [hpm] at hqm; exact Option.some.inj hqm
        obtain ⟨f1, f2⟩ := SRun.getObjE (P := P) (K := K) hbm (by simp) rfl c1 c2
        obtain ⟨e1, e⟩ := cond_none_some e
        obtain ⟨e2, e⟩ := condO_some e
        have hcond : (!seen.toArray.isEmpty && !es'.isEmpty && es'.all (fun x => decide (x.born ≥ last))) = false := by
          rw [← e1]
          have a1 : seen.toArray.isEmpty = seen.isEmpty := by cases seen <;> simp
          have a2 : es'.isEmpty = es.isEmpty := by
            have := hr.length
            rw [Bool.eq_iff_iff, Array.isEmpty_iff, List.isEmpty_iff]
            constructor
            · intro h; rw [h] at this; simpa using this
            · intro h; rw [h] at this; exact Array.eq_empty_of_size_eq_zero (by simpa using this.symm)
          have a3 : es'.all (fun x => decide (x.born ≥ last)) = es.all (fun e => Nat.ble last e.born) := by
            rw [hr.all (q' := fun x => decide (x.born ≥ last)) (fun a e he => by rw [he, Bool.eq_iff_iff, Nat.ble_eq, decide_eq_true_eq])]
            simp
          rw [a1, a2, a3]
        have hfil : REs ι (es.filter fun e => !seen.contains e.born) (es'.filter fun e => !seen.toArray.contains e.born).toList := by
          rw [Array.toList_filter]
          exact hr.filter fun a e he => by rw [he]; simp
        obtain ⟨left, hleft⟩ : ∃ left, left = es'.filter fun e => !seen.toArray.contains e.born := ⟨_, rfl⟩
        rw [← hleft] at hfil
        have hold : left.filter (fun x => decide (x.born < since)) = left := by
          apply Array.toList_inj.1
          rw [Array.toList_filter]
          apply List.filter_eq_self.2
          have := hfil.all (q := fun e => Nat.blt e.born since) (q' := fun x => decide (x.born < since)) (fun a e he => by rw [he, Bool.eq_iff_iff, Nat.blt_eq, decide_eq_true_eq])
          rw [e2] at this
          exact fun a ha => List.all_eq_true.1 this.symm a ha
        have hnew : left.filter (fun x => decide (x.born ≥ since)) = #[] := by
          apply Array.toList_inj.1
          rw [Array.toList_filter]
          apply List.filter_eq_nil_iff.2
          have := hfil.all (q := fun e => Nat.blt e.born since) (q' := fun x => decide (x.born < since)) (fun a e he => by rw [he, Bool.eq_iff_iff, Nat.blt_eq, decide_eq_true_eq])
          rw [e2] at this
          intro a ha hx
          have h1 := List.all_eq_true.1 this.symm a ha
          simp only [decide_eq_true_eq] at h1 hx
          omega
        split at e
        · rename_i hnil
          cases e
          rw [hnil] at hfil
          have hl0 : left = #[] := by
            apply Array.toList_inj.1
            exact hfil
          show LOk P K ι h w _ _ _
          unfold Instr.next
          refine LOk.bindE g1 g2 ?_
          refine LOk.bindE f1 f2 ?_
          rw [hl0] at hleft hold hnew
          simp only [hcond, Bool.false_eq_true, if_false, ← hleft, hold, hnew]
          refine LOk.choose fun k d hk => ?_
          have hk0 : k = 0 := by
            obtain ⟨t, hk | hk⟩ := hk
            · rw [hk]; simp [Question.cut, Nat.mod_one]
            · exact hk.1
          subst hk0
          have hc : ((if (#[] : Array MapEntry).isEmpty = true then #[none] else #[]) ++ Array.map some ((#[] : Array MapEntry) ++ #[]))[0]? = some none := by simp
          simp only [hc]
          exact fun _ => ⟨ι, _, _, [], SRun.pure _, Grow.refl _ _, S.drawn d, RV_tup (RVs_cons RV_bool RVs_nil), Fine.refl K _ (by simp), rfl⟩
        · rename_i l hne
          cases e
          show AOk P K ι h w _ _
          have hlen := hfil.length
          have hpos : left.size ≠ 0 := by
            intro h0
            have : (es.filter fun e => !seen.contains e.born).length = 0 := by rw [hlen]; simpa using h0
            exact hne (List.length_eq_zero_iff.1 this)
          have hne' : left.isEmpty = false := by
            rw [Bool.eq_false_iff]; intro h; rw [Array.isEmpty_iff] at h; rw [h] at hpos; exact hpos rfl
          obtain ⟨k, w', hch, ⟨d, rfl⟩, hk⟩ := SRun.choose (P := P) (w := w) (.mapNext (left.map some).size)
          have hklt : k < left.size := by
            obtain ⟨t, hk | hk⟩ := hk
            · rw [hk]
              simp only [Question.cut, Array.size_map]
              exact Nat.mod_lt _ (by omega)
            · rw [hk.1]; omega
          have hkl : k < (es.filter fun e => !seen.contains e.born).length := by rw [hlen]; simpa using hklt
          obtain ⟨en, hen, r1, r2, r3⟩ := hfil.get (List.getElem?_eq_getElem hkl)
          refine ⟨_, List.mem_map.2 ⟨_, List.getElem_mem hkl, rfl⟩, ?_⟩
          unfold Instr.next
          refine LOk.bindE g1 g2 ?_
          refine LOk.bindE f1 f2 ?_
          simp only [hcond, Bool.false_eq_true, if_false, ← hleft, hold, hnew, hne', Array.empty_append, Array.append_empty]
          refine LOk.after hch ?_
          have hcand : (left.map some)[k]? = some (some en) := by
            rw [Array.getElem?_map, ← Array.getElem?_toList, hen]; rfl
          simp only [hcand]
          have S' := S.drawn d
          refine UOk.val (setObj_ok S' hp ho trivial hb (by simp) ⟨some pm.1, fun j hj => (by cases hj; exact ⟨pm, hpm, rfl⟩), fun h => (by cases h), ?_⟩ rfl) (fun ι' hE => RV_tup (RVs_cons RV_bool (RVs_cons (r1.mono hE) (RVs_cons (r2.mono hE) RVs_nil)))) (fun w => SRun.pure _)
          rw [r3]; simp
      · cases e
    · cases e
  · cases e
end
end Go.Ev
/- append, copy, conversions, strings of bytes. -/
namespace Go.Ev
section
variable {P : Program} {K : Ctx} {ι : Nm} {h : AH} {w : World} {E : Env}

theorem bytesOf_ok (s : List UInt8) : RVs ι (bytesOf s) ((⟨s.toArray⟩ : ByteArray).data.map fun b => Value.int .u8 b.toNat).toList := by
  unfold bytesOf
  rw [Array.toList_map]
  exact RVs.map fun x _ => RV_int

theorem bytesOf_length (s : List UInt8) : (bytesOf s).length = s.length := by unfold bytesOf; simp

theorem takeN_length {l r : List AV} {off n : Nat} (e : takeN l off n = some r) : r.length = n := (takeN_some e).2
theorem loadC_length {id off n : Nat} {r : List AV} (e : loadC h id off n = some r) : r.length = n := by
  unfold loadC at e
  split at e
  · exact takeN_length e
  · cases e

/-- What append takes. -/
theorem srcC_ok (S : Sat K ι h w) {size n : Nat} {x : AV} {c : List AV} {vx : Value} (e : srcC h size x = some (n, c)) (hx : RV ι x vx) :
    SRun P (Builtin.lenOf vx) w n w [] ∧ c.length = n * size ∧
    ∀ d, ∃ (cs : Array Value) (es : List Event), SRun P (Builtin.firstCells size n vx) { w with drawn := d } cs { w with drawn := d } es ∧ RVs ι c cs.toList ∧ ∀ e ∈ es, EvF K w.heap.size e := by
  unfold srcC at e
  split at e
  · cases e
    unfold RV at hx; subst hx
    exact ⟨SRun.pure _, by simp, fun d => ⟨#[], [], SRun.pure _, RVs_nil, by simp⟩⟩
  · cases e
    unfold RV at hx
    obtain ⟨a, c, rfl⟩ := hx
    refine ⟨SRun.pure _, by simp, fun d => ⟨#[], [], ?_, RVs_nil, by simp⟩⟩
    cases a with
    | none => exact SRun.pure _
    | some a =>
      show SRun P (loadCellsFrom a 0 (0 * size) #[]) _ _ _ _
      rw [Nat.zero_mul]
      exact SRun.pure _
  · rename_i id off len cp
    cases hl : loadC h id off (len * size) with
    | none => rw [hl] at e; cases e
    | some r =>
      rw [hl] at e; cases e
      obtain ⟨p, hp, cap, rfl, _⟩ := sl_inv hx
      refine ⟨SRun.pure _, loadC_length hl, fun d => ?_⟩
      obtain ⟨vs, es, h1, h2, h3, h4⟩ := SRun_loadCells (P := P) (S.drawn d) hp hl
      exact ⟨vs, es, h1, h2, h4⟩
  · rename_i s
    obtain ⟨h1, e⟩ := cond_some e
    cases e
    obtain rfl := str_inv hx
    have hs : size = 1 := Nat.eq_of_beq_eq_true h1
    refine ⟨?_, by rw [bytesOf_length, hs]; simp, fun d => ⟨_, [], SRun.pure _, ?_, by simp⟩⟩
    · have : (⟨s.toArray⟩ : ByteArray).size = s.length := size_mk s
      show SRun P (Pure.pure (⟨s.toArray⟩ : ByteArray).size) w _ w []
      rw [this]; exact SRun.pure _
    · have : (⟨s.toArray⟩ : ByteArray).extract 0 s.length = ⟨s.toArray⟩ := by rw [extract_mk]; simp
      rw [this]
      exact bytesOf_ok s
  · cases e

theorem growBy_le (newLen : Nat) : ∀ (k c : Nat), Builtin.growBy newLen k c ≤ 2 ^ k * (c + 768)
  | 0, c => by simp [Builtin.growBy]
  | k + 1, c => by
    rw [Builtin.growBy]
    split
    · have : 1 ≤ 2 ^ (k + 1) := Nat.one_le_two_pow
      calc c ≤ 1 * (c + 768) := by omega
        _ ≤ _ := Nat.mul_le_mul_right _ this
    · have h1 := growBy_le newLen k (c + (c + 768) / 4)
      have h2 : 2 ^ (k + 1) * (c + 768) = 2 ^ k * (2 * (c + 768)) := by rw [Nat.pow_succ, Nat.mul_assoc]
      rw [h2]
      refine Nat.le_trans h1 (Nat.mul_le_mul_left _ ?_)
      omega

theorem nextcap_le {need cap : Nat} (h1 : need ≤ 4194304) (h2 : cap ≤ 4194304) : Builtin.nextslicecap need cap ≤ 67121152 := by
  unfold Builtin.nextslicecap
  split
  · omega
  · split
    · omega
    · refine Nat.le_trans (growBy_le need 4 cap) ?_
      have : 2 ^ 4 * (cap + 768) = 16 * (cap + 768) := by rw [show (2 : Nat) ^ 4 = 16 from rfl]
      rw [this]; omega

theorem zeroCells_size (z : Array Value) (n : Nat) : (Builtin.zeroCells z n).size = n * z.size := by unfold Builtin.zeroCells; simp

/-- askRoom, then more. -/
theorem LOk.room {b : Nat} {f : Unit → Sem Value} {a : AV} {h' : AH} (h2 : LOk P K ι h w (f ()) a h') : LOk P K ι h w (askRoom b >>= f) a h' := by
  unfold askRoom
  by_cases hb : b > roomBytes
  · rw [if_pos hb]
    exact LOk.bindE (SRun.mark _) (by intro e he; simp at he; subst he; trivial) h2
  · rw [if_neg hb]
    exact LOk.bind0 (SRun.pure _) h2

/-- The new block that append makes. -/
theorem appendNew_ok (F : Fits P E) (hP : K.P = P) (S : Sat K ι h w) {e : TypeId} {ei : TI} (he : E.tt.get e = some ei) {old new : Array Value} {co cn : List AV} {len n newCap : Nat} (ho : RVs ι co old.toList) (hn : RVs ι cn new.toList)
    (hlo : co.length = len * ei.size) (hln : cn.length = n * ei.size) (hc : len + n ≤ newCap) :
    LOk P K ι h w (do
      let rest := Builtin.zeroCells (← zeroValue e).cells (newCap - (len + n))
      Pure.pure (.slice (some (← newRow e (old ++ new ++ rest))) (len + n) newCap)) (.sl h.nx 0 (len + n) none) (h.new (.cells (co ++ cn) e true false)) := by
  obtain ⟨z, hz, _, hzc, hzs, hzl⟩ := zeroV_cells (w := w) (ι := ι) F he
  refine LOk.bind0 hz ?_
  have hsz : P.cellsOf e = ei.size := by
    obtain ⟨i, _, hi, hs, _⟩ := (tt_of F he).info
    unfold Program.cellsOf; rw [hi]; exact hs
  have l1 := ho.length
  have l2 := hn.length
  have hsize : (old ++ new ++ Builtin.zeroCells z.cells (newCap - (len + n))).size = newCap * ei.size := by
    simp only [Array.size_append, zeroCells_size, hzs]
    have a1 : old.size = len * ei.size := by rw [← hlo, l1]; simp
    have a2 : new.size = n * ei.size := by rw [← hln, l2]; simp
    rw [a1, a2, ← Nat.add_mul, ← Nat.add_mul]
    congr 1; omega
  refine LOk_newObj S (cap := newCap) (o := .cells (co ++ cn) e true false) ?_ (fun b => .slice (some ⟨b, 0, none⟩) (len + n) newCap) (fun b w => by
    show SRun P (Pure.pure (⟨b, 0, none⟩ : Addr) >>= fun a => Pure.pure (Value.slice (some a) (len + n) newCap)) w _ w []
    exact SRun.bind0 (SRun.pure _) (SRun.pure _)) (fun ι' b hb _ => ?_)
  · refine ⟨_, 0, 0, rfl, ⟨old.toList ++ new.toList, (Builtin.zeroCells z.cells (newCap - (len + n))).toList, by simp, ho.append hn⟩, fun h => (by cases h), fun _ => ?_, fun _ => ⟨fun o _ => by omega, fun _ => ⟨rfl, rfl⟩⟩⟩
    rw [hsize, hP, hsz]
  · unfold RV
    exact ⟨_, hb, newCap, rfl, hc, fun k hk => (by cases hk), fun _ _ => Nat.le_refl _⟩

/-- A block that nobody names may be changed. -/
theorem Sat.setOff (S : Sat K ι h w) {b : Nat} (ob : Obj) (hb : K.base ≤ b) (hn : ∀ j x q, h.tr.get j = some x → x.live → ι j = some q → q.1 ≠ b) : Sat K ι h { w with heap := w.heap.setIfInBounds b ob } := by
  refine ⟨fun i o hi hl => ?_, S.inj, by simpa using S.lo, by simpa using S.bs, fun c hc => ?_, S.os, S.tape, S.output⟩
  · obtain ⟨p, ob', h1, h2, h3, h4, h5⟩ := S.objs i o hi hl
    refine ⟨p, ob', h1, h2, h3, ?_, h5⟩
    simp only
    rw [Array.getElem?_setIfInBounds_ne (Ne.symm (hn i o p hi hl h1))]; exact h4
  · simp only
    rw [Array.getElem?_setIfInBounds_ne (by omega)]; exact S.old c hc

/-- The cells behind the first ones are written over. -/
theorem RVs_wr_beyond {as : List AV} {vs : List Value} {c : Array Value} {l : List AV} {k : Nat} (h : RVs ι as vs) (hl : ∃ l1 l2, c.toList = l1 ++ l2 ∧ RVs ι l l1) (hk : k ≤ l.length) (hle : k + vs.length ≤ c.size) :
    ∃ l1 l2, (wr c k vs).toList = l1 ++ l2 ∧ RVs ι (l.take k ++ as) l1 := by
  induction as generalizing vs c l k with
  | nil =>
    rw [RVs_nil_inv h]
    obtain ⟨l1, l2, e1, e2⟩ := hl
    have := e2.length
    refine ⟨l1.take k, l1.drop k ++ l2, ?_, by simpa using e2.take k⟩
    show c.toList = _
    rw [e1, ← List.append_assoc, List.take_append_drop]
  | cons a as ih =>
    obtain ⟨v, r, rfl, g1, g2⟩ := RVs_cons_inv h
    obtain ⟨l1, l2, e1, e2⟩ := hl
    have hlen := e2.length
    simp only [List.length_cons] at hle
    obtain ⟨m1, m2, f1, f2⟩ := ih (vs := r) (c := c.setIfInBounds k v) (l := l.take k ++ [a]) (k := k + 1) g2 (by
      have hsz : c.size = l1.length + l2.length := by have := congrArg List.length e1; simpa using this
      refine ⟨l1.take k ++ [v], (l1.drop k ++ l2).drop 1, ?_, (e2.take k).append (RVs_cons g1 RVs_nil)⟩
      rw [Array.toList_setIfInBounds, e1]
      have hk' : k < (l1 ++ l2).length := by simp; omega
      rw [List.set_eq_take_append_cons_drop, if_pos hk']
      have t1 : (l1 ++ l2).take k = l1.take k := by rw [List.take_append_of_le_length (by omega)]
      have t2 : (l1 ++ l2).drop (k + 1) = (l1.drop k ++ l2).drop 1 := by
        rw [← List.drop_append_of_le_length (by omega), List.drop_drop]
      rw [t1, t2]; simp) (by simp; omega) (by simp; omega)
    refine ⟨m1, m2, f1, ?_⟩
    have : (l.take k ++ [a]).take (k + 1) ++ as = l.take k ++ a :: as := by
      have hl : (l.take k ++ [a]).length = k + 1 := by simp; omega
      rw [List.take_of_length_le (by omega)]; simp
    rw [this] at f2
    exact f2
end
end Go.Ev
/- append, copy. -/
namespace Go.Ev
section
variable {P : Program} {K : Ctx} {ι : Nm} {h : AH} {w : World} {E : Env}

theorem LOk.bindD {α : Type} {s : Sem α} {f : α → Sem Value} {x : α} {a : AV} {h' : AH} {d : Nat} {e1 : List Event} (h1 : SRun P s { w with drawn := d } x { w with drawn := d } e1) (he : ∀ e ∈ e1, EvF K w.heap.size e) (h2 : LOk P K ι h { w with drawn := d } (f x) a h') :
    LOk P K ι h { w with drawn := d } (s >>= f) a h' := LOk.bindE h1 he h2

/-- Nothing is changed. -/
theorem LOk.still (S : Sat K ι h w) {s : Sem Value} {a : AV} {v : Value} (h1 : SRun P s w v w []) (hv : RV ι a v) : LOk P K ι h w s a h := fun _ =>
  ⟨ι, w, v, [], h1, Grow.refl _ _, S, hv, Fine.refl K w (by simp), rfl⟩

def isIntD : TypeDesc → Bool | .int _ => true | _ => false

theorem appendA_ok (F : Fits P E) (hP : K.P = P) (S : Sat K ι h w) {ts tx ty : TypeId} {s x v : AV} {h' : AH} {vs vx : Value} (e : appendA E h ts tx s x = some (v, h')) (hs : RV ι s vs) (hx : RV ι x vx) :
    LOk P K ι h w (Builtin.append_ #[ts, tx] ty #[vs, vx]) v h' := by
  unfold appendA at e
  split at e
  · rename_i el tsz tby tzr xi hts htx
    have hd : E.d ts = some (.slice el) := by unfold Env.d; rw [hts]; rfl
    split at e
    · cases e
    · rename_i ei he
      obtain ⟨hni, e⟩ := cond_none_some e
      split at e
      · cases e
      · rename_i n c hsrc
        obtain ⟨hnb, e⟩ := cond_none_some e
        have hnb : n ≤ 1048576 := by
          rcases Nat.lt_or_ge 1048576 n with h1 | h1
          · rw [← Nat.blt_eq, hnb] at h1; cases h1
          · exact h1
        obtain ⟨hlen, hcl, hcells⟩ := srcC_ok (P := P) S hsrc hx
        obtain ⟨dx, hdx, hmx⟩ := (tt_of F htx).desc
        have hni' : isIntD dx = false := by
          cases dx <;> try rfl
          rename_i k
          cases hk : xi.d <;> rw [hk] at hmx hni <;> first
            | exact hmx.elim
            | (simp at hni; done)
            | exact absurd hni (by decide)
        have hby : ei.bytes ≤ 4096 := by
          cases hk : xi.d <;> rw [hk] at hni <;> simp only [Bool.or_eq_false_iff] at hni <;> first
            | (cases hni; done)
            | (rcases Nat.lt_or_ge 4096 ei.bytes with h1 | h1
               · rw [← Nat.blt_eq, hni.2] at h1; cases h1
               · exact h1)
        have hby0 : ei.bytes ≠ 0 := by
          cases hk : xi.d <;> rw [hk] at hni <;> simp only [Bool.or_eq_false_iff] at hni <;> first
            | (cases hni; done)
            | (intro h0; have := hni.1.1; rw [h0] at this; cases this)
        obtain ⟨ii, z, hii, his, hib, hiz, _, _, hzs, hzl⟩ := (tt_of F he).info
        -- up to the parting
        have pre : ∀ (h0 : AH) (base : Option Addr) (sLen sCap : Nat) (a : AV) (h1 : AH),
            LOk P K ι h0 w (if sLen + n ≤ sCap then do
                let new ← Builtin.firstCells ei.size n vx
                match base with
                  | some a => do
                    storeCells (a.add (sLen * ei.size)) new.toList
                    Pure.pure (Value.slice base (sLen + n) sCap)
                  | _ => Pure.pure (Value.slice base (sLen + n) sCap)
              else do
                let newCap ← choose (.appendCap (sLen + n) sCap el)
                askRoom (newCap * ii.bytes)
                let old ← Builtin.firstCells ei.size sLen (.slice base sLen sCap)
                let new ← Builtin.firstCells ei.size n vx
                let z ← zeroValue el
                let b ← newRow el (old ++ new ++ Builtin.zeroCells z.cells (newCap - (sLen + n)))
                Pure.pure (.slice (some b) (sLen + n) newCap)) a h1 →
            (¬ (sLen + n ≤ sCap) → sLen ≤ 1048576 ∧ sCap ≤ 4194304) → LOk P K ι h0 w (Builtin.append_ #[ts, tx] ty #[.slice base sLen sCap, vx]) a h1 := by
          intro h0 base sLen sCap a h1 hmain hb
          unfold Builtin.append_
          refine LOk.bind0 (SRun.underlying (desc_slice F hd)) ?_
          refine LOk.bind0 (SRun_sizeOf (tt_of F he)) ?_
          have i1 : (#[ts, tx] : Array TypeId)[1]? = some tx := rfl
          have i2 : (#[Value.slice base sLen sCap, vx] : Array Value)[1] = vx := rfl
          have i3 : (#[Value.slice base sLen sCap, vx] : Array Value)[0] = .slice base sLen sCap := rfl
          simp only [i1, i2, i3]
          refine LOk.bind0 (SRun.underlying hdx) ?_
          refine LOk.bind0 (x := false) ?_ ?_
          · cases dx <;> first
              | exact SRun.pure _
              | (cases hni'; done)
          simp only [Bool.false_eq_true, if_false, Bool.not_false, if_true]
          refine LOk.bind0 hlen ?_
          by_cases hle : sLen + n ≤ sCap
          · simp only [hle, if_true] at hmain ⊢
            exact hmain
          · obtain ⟨b1, b2⟩ := hb hle
            simp only [hle, if_false] at hmain ⊢
            refine LOk.bind0 (SRun.typeInfo hii) ?_
            have hne : ¬ (((sLen + n : Nat) : Int) > IntKind.i64.max ∧ (False ∨ ii.bytes = 0)) := by
              rintro ⟨_, h | h⟩
              · exact h
              · rw [hib] at h; exact hby0 h
            simp only [hne, if_false]
            refine LOk.bind0 (SRun.typeInfo hii) ?_
            have hroom : ¬ (Builtin.nextslicecap (sLen + n) sCap * ii.bytes > 2 ^ 48) := by
              rw [hib]
              have h1 := nextcap_le (need := sLen + n) (cap := sCap) (by omega) (by omega)
              have h2 := Nat.mul_le_mul h1 hby
              omega
            simp only [hroom, if_false]
            obtain ⟨k, w', hch, ⟨d, rfl⟩, hk⟩ := SRun.choose (P := P) (w := w) (.appendCap (sLen + n) sCap el)
            intro hfr
            obtain ⟨ι', w', nv, es, h3, h4⟩ := hmain hfr
            refine ⟨ι', w', nv, es, ?_, h4⟩
            -- one question more of the program's tables
            intro e0
            have h5 := h3 e0
            rw [runT_bind, hch e0] at h5 ⊢
            simp only at h5 ⊢
            rw [runT_bind, SRun.typeInfo hii]
            simp only at h5 ⊢
            simpa using h5
        have grow : ∀ (base : Option Addr) (sLen sCap : Nat) (co : List AV) (h0 : AH) (S0 : Sat K ι h0 w), ¬ (sLen + n ≤ sCap) → sCap ≤ 4194304 → sLen ≤ 1048576 → co.length = sLen * ei.size →
            (∀ d, ∃ (cs : Array Value) (es : List Event), SRun P (Builtin.firstCells ei.size sLen (.slice base sLen sCap)) { w with drawn := d } cs { w with drawn := d } es ∧ RVs ι co cs.toList ∧ ∀ e ∈ es, EvF K w.heap.size e) →
            LOk P K ι h0 w (Builtin.append_ #[ts, tx] ty #[.slice base sLen sCap, vx]) (.sl h0.nx 0 (sLen + n) none) (h0.new (.cells (co ++ c) el true false)) := by
          intro base sLen sCap co h0 S0 hgt hcap hsl hco hold
          refine pre _ _ _ _ _ _ ?_ (fun _ => ⟨hsl, hcap⟩)
          rw [if_neg hgt]
          refine LOk.choose fun k d hk => ?_
          refine LOk.room ?_
          obtain ⟨cs, es, r1, r2, r3⟩ := hold d
          refine LOk.bindE r1 r3 ?_
          obtain ⟨cs2, es2, q1, q2, q3⟩ := hcells d
          refine LOk.bindE q1 q3 ?_
          refine appendNew_ok F hP (S0.drawn d) he r2 q2 hco hcl ?_
          obtain ⟨t, hk | hk⟩ := hk
          · rw [hk]; simp only [Question.cut]; omega
          · exact absurd hk.2 (by simp [Question.forced])
        split at e
        · -- nil
          unfold RV at hs; subst hs
          cases hn0 : Nat.beq n 0 with
          | true =>
            rw [hn0] at e; simp only [cond_true, Option.some.injEq, Prod.mk.injEq] at e
            obtain ⟨rfl, rfl⟩ := e
            obtain rfl : n = 0 := Nat.eq_of_beq_eq_true hn0
            refine pre _ _ _ _ _ _ ?_ (fun hh => absurd (Nat.le_refl _) hh)
            rw [if_pos (Nat.le_refl _)]
            obtain ⟨cs2, es2, q1, q2, q3⟩ := hcells w.drawn
            refine LOk.bindE q1 q3 ?_
            exact LOk.still S (SRun.pure _) (by unfold RV; rfl)
          | false =>
            rw [hn0] at e; simp only [cond_false, Option.some.injEq, Prod.mk.injEq] at e
            obtain ⟨rfl, rfl⟩ := e
            have hn1 : n ≠ 0 := by intro h0; rw [h0] at hn0; cases hn0
            have := grow none 0 0 [] h S (by omega) (by omega) (by omega) (by simp) (fun d => ⟨#[], [], SRun.pure _, RVs_nil, by simp⟩)
            simpa using this
        · -- its room is known
          rename_i id off len cap _ _
          obtain ⟨p, hp, cap', rfl, hle, hcap, _⟩ := sl_inv hs
          obtain rfl := hcap cap rfl
          cases hb : Nat.ble (len + n) cap' with
          | true =>
            rw [hb] at e; simp only [cond_true] at e
            have hle' := Nat.le_of_ble_eq_true hb
            cases hst : storeC h id (off + len * ei.size) c with
            | none => rw [hst] at e; cases e
            | some h1 =>
              rw [hst] at e; cases e
              refine pre _ _ _ _ _ _ ?_ (fun hh => absurd hle' hh)
              rw [if_pos hle']
              obtain ⟨cs2, es2, q1, q2, q3⟩ := hcells w.drawn
              refine LOk.bindE q1 q3 ?_
              simp only [add_none]
              refine UOk.val (storeC_ok S hp hst q2) (fun ι' hE => ?_) (fun w => SRun.pure _)
              unfold RV
              exact ⟨p, hE _ _ hp, cap', rfl, hle', fun k hk => by cases hk; rfl, fun hn => by cases hn⟩
          | false =>
            rw [hb] at e; simp only [cond_false] at e
            have hgt : ¬ (len + n ≤ cap') := fun hh => by rw [← Nat.ble_eq, hb] at hh; cases hh
            obtain ⟨hbig, e⟩ := cond_none_some e
            have hbig : len + cap' ≤ 1048576 := by
              rcases Nat.lt_or_ge 1048576 (len + cap') with h1 | h1
              · rw [← Nat.blt_eq, hbig] at h1; cases h1
              · exact h1
            cases hl : loadC h id off (len * ei.size) with
            | none => rw [hl] at e; cases e
            | some old =>
              rw [hl] at e; cases e
              exact grow (some ⟨p.1, off, none⟩) len cap' old h S hgt (by omega) (by omega) (loadC_length hl) (fun d => by
                obtain ⟨vs, es, h1, h2, h3, h4⟩ := SRun_loadCells (P := P) (S.drawn d) hp hl
                exact ⟨vs, es, h1, h2, h4⟩)
        · -- its room is not known
          rename_i id len _ _
          obtain ⟨hbig, e⟩ := cond_none_some e
          have hbig : len ≤ 1048576 := by
            rcases Nat.lt_or_ge 1048576 len with h1 | h1
            · rw [← Nat.blt_eq, hbig] at h1; cases h1
            · exact h1
          obtain ⟨p, hp, cap', rfl, hle, _, hroom⟩ := sl_inv hs
          have hroom := hroom rfl rfl
          split at e
          · rename_i vs0 el' ho
            obtain ⟨hc, e⟩ := cond_some e
            cases e
            simp only [Bool.and_eq_true] at hc
            obtain ⟨⟨⟨hel, hlv⟩, hscal⟩, _⟩ := hc
            obtain rfl : el' = el := Nat.eq_of_beq_eq_true hel
            have hlv := Nat.le_of_ble_eq_true hlv
            obtain ⟨q, ob, hq, b1, b2, b3, hb, cc, lo, hi, rfl, ⟨l1, l2, hcc, hlr⟩, _, hgs, hfz⟩ := S.at ho trivial
            obtain rfl : p = q := by rw [hp] at hq; exact Option.some.inj hq
            have hsz : P.cellsOf el' = ei.size := by unfold Program.cellsOf; rw [hii]; exact his
            have hcsz : cc.size = p.2 * ei.size := by rw [hgs rfl, hP, hsz]
            have hdead : ∀ j x q, (h.put id .dead).tr.get j = some x → x.live → ι j = some q → q.1 ≠ p.1 := by
              intro j x q hj hl hjq hqp
              rcases AH.put_get hj with ⟨_, rfl⟩ | ⟨hne, hj'⟩
              · exact hl.elim
              · exact hne (S.inj j id x _ q p hj' (AH.obj_live ho trivial) hl trivial hjq hp hqp)
            by_cases hfit : len + n ≤ cap'
            · refine pre _ _ _ _ _ _ ?_ (fun hh => absurd hfit hh)
              rw [if_pos hfit]
              obtain ⟨cs2, es2, q1, q2, q3⟩ := hcells w.drawn
              refine LOk.bindE q1 q3 ?_
              simp only [add_none, Nat.zero_add]
              intro hfr
              have hfn : ι h.nx = none := hfr _ (Nat.le_refl _) (by rw [AH.new_nx, AH.put_nx]; omega)
              have hq2 := q2.length
              have hmul : (len + n) * ei.size ≤ cc.size := by rw [hcsz]; exact Nat.mul_le_mul_right _ (by omega)
              rw [Nat.add_mul] at hmul
              have hlen2 : len * ei.size + cs2.toList.length ≤ cc.size := by rw [← hq2, hcl]; exact hmul
              obtain ⟨es3, g1, g2⟩ := SRun_storeCells (P := P) (ι := ι) (b := p.1) (off := len * ei.size) (T := el') (lo := lo) (hi := hi) c cs2.toList 0 w cc q2 hscal hb (by omega) (hfz rfl).1
              obtain ⟨m1, m2, k1, k2⟩ := RVs_wr_beyond (c := cc) (k := len * ei.size) q2 ⟨l1, l2, hcc, hlr⟩ hlv hlen2
              have hE : Ext ι (upd ι h.nx p) := ext_upd hfn
              refine ⟨upd ι h.nx p, _, .slice (some ⟨p.1, 0, none⟩) (len + n) cap', es3, by
                have := SRun.bind (f := fun _ => (Pure.pure (Value.slice (some ⟨p.1, 0, none⟩) (len + n) cap') : Sem Value)) g1 (SRun.pure _)
                rw [List.append_nil] at this
                exact this, ?_, ?_, ?_, Fine.putO _ b1 b2 ?_, by rw [AH.new_df, AH.put_df]⟩
              · rw [AH.new_nx, AH.put_nx]; exact Grow.upd
              · have S1 := (((S.forget id).setOff (.cells (wr cc (len * ei.size + 0) cs2.toList) el' (lo, hi)) b1 hdead).mono hE)
                refine (S1.place (i := h.nx) (p := p) (ob := .cells (wr cc (len * ei.size + 0) cs2.toList) el' (lo, hi)) (o := .cells (vs0.take (len * ei.size) ++ c) el' true false) (upd_self _ _ _) (by simp [b3]) b1 b2 (fun j x q hj hl hjq hqp => ?_) ?_).ofTr ?_
                · by_cases hji : j = h.nx
                  · exact hji
                  · rw [upd_ne hji] at hjq
                    exact absurd hqp (hdead j x q hj hl hjq)
                · refine ⟨_, lo, hi, rfl, ⟨m1, m2, k1, k2.mono hE⟩, fun h => (by cases h), fun _ => ?_, fun _ => ⟨fun o hlt => ?_, fun h => by cases h⟩⟩
                  · rw [wr_size]; exact hgs rfl
                  · rw [wr_size] at hlt; exact (hfz rfl).1 o hlt
                · rw [AH.new_tr, AH.put_nx]
              · unfold RV
                exact ⟨p, upd_self _ _ _, cap', rfl, hfit, fun k hk => (by cases hk), fun _ _ => hroom⟩
              · intro e' he'
                obtain ⟨o, rfl⟩ := g2 e' he'
                exact ⟨b1, b2, b3⟩
            · have := grow (some ⟨p.1, 0, none⟩) len cap' (vs0.take (len * ei.size)) (h.put id .dead) (S.forget id) hfit (by omega) hbig (by simp; omega) (fun d => by
                have hl : loadC h id 0 (len * ei.size) = some (vs0.take (len * ei.size)) := by
                  unfold loadC; rw [ho]; simp only [takeN, List.drop_zero]
                  rw [show Nat.beq (vs0.take (len * ei.size)).length (len * ei.size) = true by rw [nat_beq]; simp; omega]; rfl
                obtain ⟨vs, es, h1, h2, h3, h4⟩ := SRun_loadCells (P := P) (S.drawn d) hp hl
                exact ⟨vs, es, h1, h2, h4⟩)
              rw [AH.put_nx] at this
              exact this
          · cases e
        · cases e
  · cases e

theorem lenOf_slice {a : Option Addr} {n c : Nat} : SRun P (Builtin.lenOf (.slice a n c)) w n w [] := SRun.pure _

theorem copyA_ok (F : Fits P E) (S : Sat K ι h w) {td tx ty : TypeId} {d s v : AV} {h' : AH} {vd vs : Value} (e : copyA E h td d s = some (v, h')) (hd : RV ι d vd) (hs : RV ι s vs) :
    LOk P K ι h w (Builtin.copy_ #[td, tx] ty #[vd, vs]) v h' := by
  unfold copyA at e
  split at e
  · rename_i el tsz tby tzr htd
    have hdt : E.d td = some (.slice el) := by unfold Env.d; rw [htd]; rfl
    split at e
    · cases e
    · rename_i ei he
      split at e
      · rename_i id off len cp id' off' len' cp'
        simp only at e
        split at e
        · rename_i c hl
          cases hst : storeC h id off c with
          | none => rw [hst] at e; cases e
          | some h1 =>
            rw [hst] at e; cases e
            obtain ⟨p, hp, cap, rfl, _⟩ := sl_inv hd
            obtain ⟨p', hp', cap', rfl, _⟩ := sl_inv hs
            obtain ⟨cs, es, r1, r2, _, r3⟩ := SRun_loadCells (P := P) S hp' hl
            unfold Builtin.copy_
            refine LOk.bind0 (SRun.underlying (desc_slice F hdt)) ?_
            refine LOk.bind0 lenOf_slice ?_
            refine LOk.bind0 (SRun_sizeOf (tt_of F he)) ?_
            refine LOk.bindE (x := cs) r1 r3 ?_
            exact UOk.val (storeC_ok S hp hst r2) (fun ι' hE => RV_int) (fun w => SRun.pure _)
        · cases e
      · rename_i id off len cp s'
        dsimp only at e
        cases hst : storeC h id off (bytesOf (s'.take (Nat.min s'.length len))) with
        | none => rw [hst] at e; cases e
        | some h1 =>
          rw [hst] at e
          cases e
          obtain ⟨p, hp, cap, rfl, _⟩ := sl_inv hd
          obtain rfl := str_inv hs
          unfold Builtin.copy_
          refine LOk.bind0 (SRun.underlying (desc_slice F hdt)) ?_
          refine LOk.bind0 (x := s'.length) (by
            have : (⟨s'.toArray⟩ : ByteArray).size = s'.length := size_mk s'
            show SRun P (Pure.pure (⟨s'.toArray⟩ : ByteArray).size) w _ w []
            rw [this]; exact SRun.pure _) ?_
          refine LOk.bind0 (SRun_sizeOf (tt_of F he)) ?_
          refine LOk.bind0 (SRun.pure _) ?_
          refine UOk.val (storeC_ok S hp hst ?_) (fun ι' hE => RV_int) (fun w => SRun.pure _)
          have := bytesOf_ok (ι := ι) (s'.take (Nat.min s'.length len))
          have e2 : (⟨s'.toArray⟩ : ByteArray).extract 0 (Nat.min s'.length len) = ⟨(s'.take (Nat.min s'.length len)).toArray⟩ := by rw [extract_mk]; simp
          rw [e2]
          exact this
      · rename_i id off len cp
        cases e
        obtain ⟨p, hp, cap, rfl, _⟩ := sl_inv hd
        unfold RV at hs; subst hs
        unfold Builtin.copy_
        refine LOk.bind0 (SRun.underlying (desc_slice F hdt)) ?_
        refine LOk.bind0 lenOf_slice ?_
        refine LOk.bind0 (SRun_sizeOf (tt_of F he)) ?_
        refine LOk.bind0 (x := #[]) (SRun.pure _) ?_
        have h0 : Nat.min 0 len = 0 := Nat.zero_min _
        refine LOk.bind0 (x := ()) (SRun.pure _) ?_
        rw [h0]
        exact LOk.still S (SRun.pure _) RV_int
      · cases e
        unfold RV at hd hs; subst hs; subst hd
        unfold Builtin.copy_
        refine LOk.bind0 (SRun.underlying (desc_slice F hdt)) ?_
        refine LOk.bind0 lenOf_slice ?_
        refine LOk.bind0 (SRun_sizeOf (tt_of F he)) ?_
        refine LOk.bind0 (x := #[]) (SRun.pure _) ?_
        exact LOk.still S (SRun.pure _) RV_int
      · rename_i id off len cp
        cases e
        obtain ⟨p, hp, cap, rfl, _⟩ := sl_inv hs
        unfold RV at hd; subst hd
        unfold Builtin.copy_
        refine LOk.bind0 (SRun.underlying (desc_slice F hdt)) ?_
        refine LOk.bind0 lenOf_slice ?_
        refine LOk.bind0 (SRun_sizeOf (tt_of F he)) ?_
        have h0 : Nat.min len 0 = 0 := Nat.min_zero _
        refine LOk.bind0 (x := #[]) ?_ ?_
        · rw [h0]
          show SRun P (loadCellsFrom _ 0 (0 * ei.size) #[]) _ _ _ _
          rw [Nat.zero_mul]; exact SRun.pure _
        rw [h0]
        exact LOk.still S (SRun.pure _) RV_int
      · cases e
  · cases e
end
end Go.Ev
/- Conversions, strings of bytes. -/
namespace Go.Ev
section
variable {P : Program} {K : Ctx} {ι : Nm} {h : AH} {w : World} {E : Env}

theorem shape_of {b : Nat} {c : Array Value} {T : TypeId} {fz : Nat × Nat} (hb : w.heap[b]? = some (.cells c T fz)) : w.shape? b = some (T, c.size) := by
  unfold World.shape?; simp [hb]

theorem SRun_seenAt {b o : Nat} {c : Array Value} {T : TypeId} {fz : Nat × Nat} (hb : w.heap[b]? = some (.cells c T fz)) : SRun P (Conv.seenAt ⟨b, o, none⟩) w ⟨b, o, none⟩ w [] := by
  unfold Conv.seenAt
  refine SRun.bind0 (a := none) ?_ (SRun.pure _)
  unfold viewAt
  refine SRun.bind0 (SRun.shape _) ?_
  rw [shape_of hb]
  exact SRun.pure _

theorem SRun_cellsIn {b : Nat} {c : Array Value} {T : TypeId} {fz : Nat × Nat} (hb : w.heap[b]? = some (.cells c T fz)) : SRun P (cellsIn b) w (some c.size) w [] := by
  unfold cellsIn
  refine SRun.bind0 (SRun.shape _) ?_
  rw [shape_of hb]
  exact SRun.pure _

theorem SRun_variablesAt {b o n : Nat} {u : TypeId} {c : Array Value} {T : TypeId} {fz : Nat × Nat} (hb : w.heap[b]? = some (.cells c T fz)) : SRun P (variablesAt ⟨b, o, none⟩ u n) w (liesAt P P.depth T (c.size / P.cellsOf T) o u n) w [] := by
  unfold variablesAt
  refine SRun.bind0 SRun.program ?_
  refine SRun.bind0 (SRun.shape _) ?_
  rw [shape_of hb]
  exact SRun.pure _

theorem strOf_inv {a : AV} {l : List AV} {s : List UInt8} (e : strOf (a :: l) = some s) : ∃ (n : Int) (r : List UInt8), a = .int .u8 n ∧ strOf l = some r ∧ s = UInt8.ofNat n.toNat :: r := by
  unfold strOf at e
  split at e
  · rename_i heq; cases heq
  · rename_i n l' heq
    cases heq
    split at e
    · rename_i r hr
      cases e
      exact ⟨n, r, rfl, hr, rfl⟩
    · cases e
  · cases e

theorem bytesLoop {body : Value → ByteArray → Sem (ForInStep ByteArray)} (hb : ∀ (n : Int) acc, body (.int .u8 n) acc = Pure.pure (ForInStep.yield (acc.push (UInt8.ofNat n.toNat)))) :
    ∀ {l : List AV} {s : List UInt8} {vs : List Value} {acc : ByteArray}, strOf l = some s → RVs ι l vs → SRun P (forIn vs acc body) w ⟨acc.data ++ s.toArray⟩ w []
  | [], s, vs, acc, e, hv => by
    rw [RVs_nil_inv hv]
    unfold strOf at e; cases e
    simp only [List.forIn_nil]
    have : (⟨acc.data ++ #[]⟩ : ByteArray) = acc := by simp
    rw [this]
    exact SRun.pure _
  | a :: l, s, vs, acc, e, hv => by
    obtain ⟨n, r, rfl, hr, rfl⟩ := strOf_inv e
    obtain ⟨v, rest, rfl, h1, h2⟩ := RVs_cons_inv hv
    obtain rfl := int_inv h1
    rw [List.forIn_cons, hb]
    refine SRun.bind0 (SRun.pure _) ?_
    have := bytesLoop hb (acc := acc.push (UInt8.ofNat n.toNat)) hr h2
    have e2 : (⟨(acc.push (UInt8.ofNat n.toNat)).data ++ r.toArray⟩ : ByteArray) = ⟨acc.data ++ (UInt8.ofNat n.toNat :: r).toArray⟩ := by
      congr 1
      apply Array.toList_inj.1
      simp [ByteArray.push]
    rw [e2] at this
    exact this

theorem bytesToString_ok (S : Sat K ι h w) {id off len : Nat} {cp : Option Nat} {vs : List AV} {s : List UInt8} {v : Value} (hl : loadC h id off len = some vs) (hs : strOf vs = some s) (hv : RV ι (.sl id off len cp) v) :
    LOk P K ι h w (Conv.bytesToString v) (.str s) h := by
  obtain ⟨p, hp, cap, rfl, _⟩ := sl_inv hv
  obtain ⟨cs, es, r1, r2, _, r3⟩ := SRun_loadCells (P := P) S hp hl
  unfold Conv.bytesToString
  refine LOk.bindE r1 r3 ?_
  refine LOk.bind0 (x := (⟨s.toArray⟩ : ByteArray)) ?_ (LOk.still S (SRun.pure _) RV_str)
  obtain ⟨l⟩ := cs
  rw [List.forIn_toArray]
  have := bytesLoop (P := P) (w := w) (ι := ι) (acc := ByteArray.empty) (body := fun c s => match c with | .int .u8 n => Pure.pure (ForInStep.yield (s.push (UInt8.ofNat n.toNat))) | _ => stuck "bytesToString: byte expected") (fun n acc => rfl) hs r2
  have e2 : (⟨ByteArray.empty.data ++ s.toArray⟩ : ByteArray) = ⟨s.toArray⟩ := by
    show (⟨#[] ++ s.toArray⟩ : ByteArray) = _
    simp
  rw [e2] at this
  exact this

theorem modify_push {α : Type} (a : Array α) (x : α) (f : α → α) : (a.push x).modify a.size f = a.push (f x) := by
  apply Array.ext_getElem?
  intro i
  rw [Array.getElem?_modify, Array.getElem?_push, Array.getElem?_push]
  by_cases h : a.size = i
  · subst h; simp
  · rw [if_neg h]
    by_cases h2 : i = a.size
    · exact absurd h2.symm h
    · rw [if_neg h2, if_neg h2]

theorem stringToBytes_ok (hP : K.P = P) (S : Sat K ι h w) {e : TypeId} (hc : P.cellsOf e = 1) {a : List UInt8} :
    LOk P K ι h w (Conv.stringToBytes e ⟨a.toArray⟩) (.sl h.nx 0 a.length none) (h.new (.cells (bytesOf a) e true false)) := by
  unfold Conv.stringToBytes
  have hs : (⟨a.toArray⟩ : ByteArray).size = a.length := size_mk a
  rw [hs]
  refine LOk.choose fun k d hk => ?_
  have hle : a.length ≤ k := by
    obtain ⟨t, hk | hk⟩ := hk
    · rw [hk]; simp only [Question.cut]; omega
    · exact absurd hk.2 (by simp [Question.forced])
  intro hfr
  have hf := free_new hfr
  have S' := S.drawn d
  obtain ⟨c, hcdef⟩ : ∃ c, c = a.toArray.map (fun b => Value.int .u8 b.toNat) ++ Array.replicate (k - a.length) (.int .u8 0) := ⟨_, rfl⟩
  have hcs : c.size = k := by rw [hcdef]; simp; omega
  have hr : RO K.P (upd ι h.nx (w.heap.size, k)) k (.cells (bytesOf a) e true false) (.cells c e (k, k + 1)) := by
    refine ⟨c, k, k + 1, rfl, ⟨_, (Array.replicate (k - a.length) (Value.int .u8 0)).toList, ?_, (bytesOf_ok a)⟩, fun h => (by cases h), fun _ => ?_, fun _ => ⟨fun o ho => by omega, fun h => by cases h⟩⟩
    · rw [hcdef]; simp
    · rw [hcs, hP, hc]; omega
  refine ⟨upd ι h.nx (w.heap.size, k), { w with heap := w.heap.push (.cells c e (k, k + 1)), drawn := d }, .slice (some ⟨w.heap.size, 0, none⟩) a.length k, [], ?_, by rw [AH.new_nx]; exact Grow.upd, S'.newO hf hr, ?_, by simpa using Fine.newO (w := { w with drawn := d }) (.cells c e (k, k + 1)) K, AH.new_df⟩
  · dsimp only
    rw [← hcdef]
    unfold newRow
    refine SRun.bind (e1 := []) (e2 := []) (SRun.bind (e1 := []) (e2 := []) (SRun.new _) (SRun.pure _)) ?_
    refine SRun.bind (e1 := []) (e2 := []) (a := ()) (w1 := { w with heap := w.heap.push (.cells c e (k, k + 1)), drawn := d }) ?_ (SRun.pure _)
    unfold markStringish
    refine SRun.bind (e1 := []) (e2 := []) (SRun.shape _) ?_
    have hsh : World.shape? { w with heap := w.heap.push (.cells c e (0, 0)), drawn := d } w.heap.size = some (e, c.size) := by unfold World.shape?; simp
    simp only [hsh]
    have := SRun.freeze (P := P) (w := { w with heap := w.heap.push (.cells c e (0, 0)), drawn := d }) ⟨w.heap.size, c.size, none⟩ 1
    have e3 : World.freeze { w with heap := w.heap.push (.cells c e (0, 0)), drawn := d } ⟨w.heap.size, c.size, none⟩ 1 = { w with heap := w.heap.push (.cells c e (k, k + 1)), drawn := d } := by
      unfold World.freeze
      rw [if_neg (by decide)]
      simp only
      congr 1
      rw [modify_push]
      simp [hcs]
    rw [e3] at this
    exact this
  · unfold RV
    exact ⟨_, upd_self _ _ _, k, rfl, hle, fun j hj => (by cases hj), fun _ _ => Nat.le_refl _⟩

theorem cellsOf_of (F : Fits P E) {t : TypeId} {ti : TI} (ht : E.tt.get t = some ti) : P.cellsOf t = ti.size := by
  obtain ⟨i, _, hi, hs, _⟩ := (tt_of F ht).info
  unfold Program.cellsOf; rw [hi]; exact hs

theorem convA_ok (F : Fits P E) (hP : K.P = P) (S : Sat K ι h w) {s d : TypeId} {x : AV} {vx : Value} {r : OR} (e : convA E s d x h = some r) (hx : RV ι x vx) : ∃ v h', r = .val v h' ∧ LOk P K ι h w (convert s d vx) v h' := by
  unfold convA at e
  split at e
  · rename_i el id off hs hd
    split at e
    · rename_i vs el2 g z ti ho ht
      obtain ⟨hc, rfl⟩ := cond_some e
      refine ⟨_, _, rfl, ?_⟩
      rw [Bool.and_eq_true] at hc
      obtain ⟨hne, hlt⟩ := hc
      rw [Nat.blt_eq] at hlt
      obtain ⟨p, hp, rfl⟩ := ptr_inv hx
      obtain ⟨q, ob, hq, b1, b2, b3, hb, c, lo, hi, rfl, ⟨l1, l2, hcc, hlr⟩, _⟩ := S.at ho trivial
      obtain rfl : p = q := by rw [hp] at hq; exact Option.some.inj hq
      have hsz : off < c.size := by
        have h1 := congrArg List.length hcc
        have h2 := hlr.length
        simp at h1; omega
      refine LOk.still S ?_ (RV_ptr hp)
      unfold convert
      refine SRun.bind0 (SRun.underlying (desc_ptr F hs)) ?_
      refine SRun.bind0 (SRun.underlying (desc_uptr F hd)) ?_
      unfold Conv.unsafePointer
      refine SRun.bind0 (SRun.underlying (desc_ptr F hs)) ?_
      refine SRun.bind0 (SRun.underlying (desc_uptr F hd)) ?_
      refine SRun.bind0 (SRun_seenAt hb) ?_
      refine SRun.bind0 (SRun_cellsIn hb) ?_
      refine SRun.bind0 (SRun_sizeOf (tt_of F ht)) ?_
      have h1 : ti.size ≠ 0 := by intro h0; rw [h0] at hne; cases hne
      simp only [h1, decide_false, Bool.false_or, Option.isNone_none, Bool.and_true]
      have h2 : ¬ (c.size ≤ off) := by omega
      simp [h2]
      exact SRun.pure _
    · cases e
  · rename_i u id hs hd
    split at e
    · rename_i vs el z ti ho ht
      split at e
      · rename_i ei hei
        obtain ⟨hc, rfl⟩ := cond_some e
        refine ⟨_, _, rfl, ?_⟩
        simp only [Bool.and_eq_true] at hc
        obtain ⟨⟨⟨hne, hne2⟩, hlen⟩, hlies⟩ := hc
        have hlen := Nat.eq_of_beq_eq_true hlen
        obtain ⟨p, hp, rfl⟩ := ptr_inv hx
        obtain ⟨q, ob, hq, b1, b2, b3, hb, c, lo, hi, rfl, ⟨l1, l2, hcc, hlr⟩, hg, _⟩ := S.at ho trivial
        obtain rfl : p = q := by rw [hp] at hq; exact Option.some.inj hq
        have hcs : c.size = vs.length := hg rfl
        have hn2 : ei.size ≠ 0 := by intro h0; rw [h0] at hne2; cases hne2
        have hcount : c.size / P.cellsOf el = 1 := by rw [cellsOf_of F hei, hcs, hlen]; exact Nat.div_self (by omega)
        have hl : liesAt P P.depth el (c.size / P.cellsOf el) 0 u 1 = true := by
          rw [hcount]
          rw [List.any_eq_true] at hlies
          obtain ⟨q, hq1, hq2⟩ := hlies
          rw [Bool.and_eq_true] at hq2
          obtain ⟨q1, q2⟩ := q
          have e1 : q1 = el := Nat.eq_of_beq_eq_true hq2.1
          have e2 : q2 = u := Nat.eq_of_beq_eq_true hq2.2
          subst e1; subst e2
          exact F.lies _ _ hq1
        refine LOk.still S ?_ (RV_ptr hp)
        unfold convert
        refine SRun.bind0 (SRun.underlying (desc_uptr F hs)) ?_
        refine SRun.bind0 (SRun.underlying (desc_ptr F hd)) ?_
        unfold Conv.unsafePointer
        refine SRun.bind0 (SRun.underlying (desc_uptr F hs)) ?_
        refine SRun.bind0 (SRun.underlying (desc_ptr F hd)) ?_
        refine SRun.bind0 (SRun_seenAt hb) ?_
        refine SRun.bind0 (SRun_sizeOf (tt_of F ht)) ?_
        refine SRun.bind0 (SRun_variablesAt hb) ?_
        simp only [hl, Bool.or_true, if_true]
        exact SRun.pure _
      · cases e
    · cases e
  · rename_i e1 hs hd
    split at e
    · rename_i he1
      cases e
      refine ⟨_, _, rfl, ?_⟩
      unfold RV at hx; subst hx
      refine LOk.still S ?_ (v := .string ⟨#[]⟩) (by unfold RV; rfl)
      unfold convert
      refine SRun.bind0 (SRun.underlying (desc_slice F hs)) ?_
      refine SRun.bind0 (SRun.underlying (desc_str F hd)) ?_
      refine SRun.bind0 (SRun.underlying (desc_int F he1)) ?_
      exact SRun.pure _
    · cases e
  · rename_i e1 id off len cp hs hd
    split at e
    · rename_i he1
      split at e
      · rename_i vs hl
        cases hst : strOf vs with
        | none => rw [hst] at e; cases e
        | some sr =>
          rw [hst] at e; cases e
          refine ⟨_, _, rfl, ?_⟩
          have := bytesToString_ok (P := P) S hl hst hx
          obtain ⟨p, hp, cap, rfl, _⟩ := sl_inv hx
          unfold convert
          refine LOk.bind0 (SRun.underlying (desc_slice F hs)) ?_
          refine LOk.bind0 (SRun.underlying (desc_str F hd)) ?_
          refine LOk.bind0 (SRun.underlying (desc_int F he1)) ?_
          exact this
      · cases e
    · cases e
  · rename_i e1 a hs hd
    split at e
    · rename_i ti hti
      split at e
      · rename_i hk
        obtain ⟨hc, rfl⟩ := cond_some e
        refine ⟨_, _, rfl, ?_⟩
        obtain rfl := str_inv hx
        have he1 : E.d e1 = some (.int .u8) := by unfold Env.d; rw [hti]; simp [hk]
        have hsz : P.cellsOf e1 = 1 := by rw [cellsOf_of F hti]; exact Nat.eq_of_beq_eq_true hc
        unfold convert
        refine LOk.bind0 (SRun.underlying (desc_str F hs)) ?_
        refine LOk.bind0 (SRun.underlying (desc_slice F hd)) ?_
        refine LOk.bind0 (SRun.underlying (desc_int F he1)) ?_
        exact stringToBytes_ok hP S hsz
      · cases e
    · cases e
  · cases e

/-- A block is frozen, or whatever else is done to it that leaves its cells. -/
theorem Sat.refreeze (S : Sat K ι h w) {id : Nat} {p : Nat × Nat} (hp : ι id = some p) {vs : List AV} {el : TypeId} {g z : Bool} (ho : h.obj id = .cells vs el g z) {c : Array Value} {fz fz' : Nat × Nat} (hb : w.heap[p.1]? = some (.cells c el fz)) :
    Sat K ι (h.put id (.cells vs el g true)) { w with heap := w.heap.setIfInBounds p.1 (.cells c el fz') } := by
  obtain ⟨q, ob, hq, b1, b2, b3, hb', c', lo, hi, rfl, h1, h2, h3, h4⟩ := S.at ho trivial
  obtain rfl : p = q := by rw [hp] at hq; exact Option.some.inj hq
  rw [hb] at hb'; cases hb'
  exact S.putO hp (AH.obj_live ho trivial) trivial ⟨c, fz'.1, fz'.2, rfl, h1, h2, h3, fun h => by cases h⟩

theorem loadBytes_ok {b : Nat} {c : Array Value} {T : TypeId} {fz : Nat × Nat} (hb : w.heap[b]? = some (.cells c T fz)) : ∀ {l : List AV} {s : List UInt8} {off : Nat} {acc : ByteArray}, strOf l = some s → (∀ j a, l[j]? = some a → ∃ v, c[off + j]? = some v ∧ RV ι a v) →
    ∃ es, SRun P (loadBytes ⟨b, off, none⟩ acc l.length) w ⟨acc.data ++ s.toArray⟩ w es ∧ ∀ e ∈ es, ∃ o, e = ⟨.cell ⟨b, o, none⟩, false, false⟩
  | [], s, off, acc, e, hv => by
    unfold strOf at e; cases e
    refine ⟨[], ?_, by simp⟩
    have : (⟨acc.data ++ #[]⟩ : ByteArray) = acc := by simp
    rw [this]
    unfold loadBytes
    exact SRun.pure _
  | a :: l, s, off, acc, e, hv => by
    obtain ⟨n, r, rfl, hr, rfl⟩ := strOf_inv e
    obtain ⟨v, h1, h2⟩ := hv 0 _ rfl
    obtain rfl := int_inv h2
    obtain ⟨es, h3, h4⟩ := loadBytes_ok hb (off := off + 1) (acc := acc.push (UInt8.ofNat n.toNat)) hr (fun j a ha => by
      have := hv (j + 1) a (by simpa using ha)
      rw [show off + 1 + j = off + (j + 1) by omega]; exact this)
    refine ⟨[⟨.cell ⟨b, off, none⟩, false, false⟩] ++ es, ?_, ?_⟩
    · rw [List.length_cons, loadBytes]
      refine SRun.bind (SRun.load (v := .int .u8 n) (by rw [cell_of hb]; simpa using h1)) ?_
      rw [add_none]
      have e2 : (⟨(acc.push (UInt8.ofNat n.toNat)).data ++ r.toArray⟩ : ByteArray) = ⟨acc.data ++ (UInt8.ofNat n.toNat :: r).toArray⟩ := by
        congr 1
        apply Array.toList_inj.1
        simp [ByteArray.push]
      rw [e2] at h3
      exact h3
    · intro e' he'
      rcases List.mem_append.1 he' with h5 | h5
      · simp at h5; subst h5; exact ⟨off, rfl⟩
      · exact h4 e' h5

theorem liesAt_bytes {e : TypeId} {count off n : Nat} (hd : 1 ≤ P.depth) (hc : P.cellsOf e = 1) (hle : off + n ≤ count) : liesAt P P.depth e count off e n = true := by
  obtain ⟨d, hd'⟩ : ∃ d, P.depth = d + 1 := ⟨P.depth - 1, by omega⟩
  rw [hd', liesAt]
  rw [Bool.or_eq_true]
  left
  rw [hd', rowAt]
  simp only [hc]
  rw [if_neg (by decide)]
  rw [Bool.or_eq_true]
  left
  have hs : sameLayout P (d + 1) e e = true := by rw [sameLayout]; simp
  simp [hs]
  omega

theorem freeze_eq {b off n : Nat} {c : Array Value} {T : TypeId} {fz : Nat × Nat} (hb : w.heap[b]? = some (.cells c T fz)) (hn : n ≠ 0) :
    ∃ fz', w.freeze ⟨b, off, none⟩ n = { w with heap := w.heap.setIfInBounds b (.cells c T fz') } := by
  obtain ⟨lo, hi⟩ := fz
  refine ⟨if lo == hi then (off, off + n) else (min lo off, max hi (off + n)), ?_⟩
  unfold World.freeze
  rw [if_neg hn]
  congr 1
  apply Array.ext_getElem?
  intro i
  rw [Array.getElem?_modify]
  by_cases h : b = i
  · subst h
    obtain ⟨hlt, hb2⟩ := Array.getElem?_eq_some_iff.1 hb
    simp [hlt, hb2]
  · simp [h]

theorem byteT_of (F : Fits P E) {e : TypeId} (hb : byteT E e = true) : E.d e = some (.int .u8) ∧ P.cellsOf e = 1 := by
  unfold byteT at hb
  split at hb
  · rename_i ti hti
    split at hb
    · rename_i hk
      exact ⟨by unfold Env.d; rw [hti]; simp [hk], by rw [cellsOf_of F hti]; exact Nat.eq_of_beq_eq_true hb⟩
    · cases hb
  · cases hb

theorem unsafeStringA_ok (F : Fits P E) (hP : K.P = P) (S : Sat K ι h w) {pt tn ty : TypeId} {p n v : AV} {h' : AH} {vp vn : Value} (e : unsafeStringA E h pt p n = some (.val v h')) (hp : RV ι p vp) (hn : RV ι n vn) :
    LOk P K ι h w (Builtin.unsafeString_ #[pt, tn] ty #[vp, vn]) v h' := by
  unfold unsafeStringA at e
  split at e
  · rename_i k n'
    obtain ⟨h0, e⟩ := cond_some e
    cases e
    simp only [beq_iff_eq] at h0
    subst h0
    unfold RV at hp; subst hp
    obtain rfl := int_inv hn
    refine LOk.still S ?_ (v := .string ⟨#[]⟩) (by unfold RV; rfl)
    unfold Builtin.unsafeString_
    refine SRun.bind0 (a := 0) (SRun.pure _) ?_
    exact SRun.pure _
  · rename_i id off k n'
    split at e
    · rename_i el vs el2 g z hd ho
      · obtain ⟨hc, e'⟩ := condO_some e
        clear e
        have e := e'
        clear e'
        simp only [Bool.and_eq_true, decide_eq_true_eq] at hc
        obtain ⟨⟨⟨h4, h1⟩, h2⟩, h3⟩ := hc
        obtain rfl : el2 = el := Nat.eq_of_beq_eq_true h1
        split at e
        · rename_i c ht
          cases hs : strOf c with
          | none => rw [hs] at e; cases e
          | some s =>
            rw [hs] at e; cases e
            obtain ⟨q, hq, rfl⟩ := ptr_inv hp
            obtain rfl := int_inv hn
            obtain ⟨q', ob, hq', b1, b2, b3, hb, cc, lo, hi, rfl, ⟨l1, l2, hcc, hlr⟩, _⟩ := S.at ho trivial
            obtain rfl : q = q' := by rw [hq] at hq'; exact Option.some.inj hq'
            have hsz : P.cellsOf el2 = 1 := (byteT_of F h4).2
            obtain ⟨hcd, hcl⟩ := takeN_some ht
            have hclen : off + n'.toNat ≤ vs.length := by
              have := congrArg List.length hcd
              rw [hcl] at this
              simp at this; omega
            have hccs : vs.length ≤ cc.size := by
              have h5 := congrArg List.length hcc
              have h6 := hlr.length
              simp at h5; omega
            have hl : liesAt P P.depth el2 (cc.size / P.cellsOf el2) off el2 n'.toNat = true := liesAt_bytes F.depth hsz (by rw [hsz]; simp; omega)
            obtain ⟨es, g1, g2⟩ := loadBytes_ok (P := P) (ι := ι) hb (off := off) (acc := ByteArray.empty) hs (fun j a ha => by
              rw [hcd] at ha
              rw [List.getElem?_take] at ha
              split at ha
              · rw [List.getElem?_drop] at ha
                obtain ⟨v, hv1, hv2⟩ := hlr.get ha
                refine ⟨v, ?_, hv2⟩
                rw [← Array.getElem?_toList, hcc, List.getElem?_append_left]
                · exact hv1
                · rw [List.getElem?_eq_some_iff] at hv1; exact hv1.1
              · cases ha)
            rw [hcl] at g1
            have e2 : (⟨ByteArray.empty.data ++ s.toArray⟩ : ByteArray) = ⟨s.toArray⟩ := by
              show (⟨#[] ++ s.toArray⟩ : ByteArray) = _
              simp
            rw [e2] at g1
            have hge : ∀ e ∈ es, EvF K w.heap.size e := by
              intro e' he'
              obtain ⟨o, rfl⟩ := g2 e' he'
              exact ⟨b1, b2, b3⟩
            unfold Builtin.unsafeString_
            refine LOk.bind0 (x := n') (SRun.pure _) ?_
            have n1 : ¬ n' < 0 := by omega
            have n2 : ¬ n' > IntKind.i64.max := by simp only [IntKind.max, IntKind.bits, IntKind.signed]; omega
            have n3 : n' ≠ 0 := by omega
            have i1 : (#[pt, tn] : Array TypeId)[0]? = some pt := rfl
            simp only [i1, n1, n2, n3, if_false]
            refine LOk.bind0 (x := el2) ?_ ?_
            · unfold elemOf
              exact SRun.bind0 (SRun.underlying (desc_ptr F hd)) (SRun.pure _)
            refine LOk.bind0 (SRun_variablesAt hb) ?_
            simp only [hl, if_true]
            refine LOk.bindE g1 hge ?_
            obtain ⟨fz', hfz⟩ := freeze_eq (off := off) (n := n'.toNat) hb (by omega)
            intro hfr
            refine ⟨ι, _, .string ⟨s.toArray⟩, [], SRun.bind (e1 := []) (e2 := []) (SRun.freeze _ _) (SRun.pure _), by rw [AH.put_nx]; exact Grow.refl _ _, ?_, RV_str, ?_, AH.put_df⟩
            · rw [hfz]; exact S.refreeze hq ho hb
            · rw [hfz]; exact Fine.putO _ b1 b2 (by simp)
        · cases e
    · cases e
  · cases e
end
end Go.Ev
/- Activations and frames: what stands for what; the moves of control. -/
namespace Go.Ev
open Go.Conc (G)

def RI (ι : Nm) : AI → Item → Prop
  | .code c, i => i = .code c
  | .inBlock id, i => i = .inBlock id
  | .inLoop b, i => i = .inLoop b
  | .inScope b, i => i = .inScope b
  | .inRegion ops todo, i => ∃ k, todo = ops.toList.drop k ∧ i = .inRegion ops ((List.range ops.size).drop k)
  | .inRangeFunc id, i => ∃ p, ι id = some p ∧ i = .inRangeFunc p.1
  | .endRangeFunc id, i => ∃ p, ι id = some p ∧ i = .endRangeFunc p.1
  | .beginRound, i => i = .beginRound
  | .inDrawn ops n, i => ∃ rest, Left ops n rest ∧ i = .inRegion ops rest

def RIs (ι : Nm) : List AI → List Item → Prop
  | [], l => l = []
  | a :: as, l => ∃ i r, l = i :: r ∧ RI ι a i ∧ RIs ι as r

def RD (ι : Nm) (a : AD) (d : Deferred) : Prop :=
  match a.f with
  | .nilm => ∀ id, a.args = [.ptr id 0] → ∃ p, ι id = some p ∧ d = { target := .collected p.1, args := #[] }
  | .fn g first cap => ∃ fs as cs, RVs ι first fs ∧ RVs ι a.args as ∧ RVs ι cap cs.toList ∧ d = { target := .fn (.func g) cs, args := (fs ++ as).toArray }
  | _ => True

def RDs (ι : Nm) : List AD → List Deferred → Prop
  | [], l => l = []
  | a :: as, l => ∃ d r, l = d :: r ∧ RD ι a d ∧ RDs ι as r

structure RF (ι : Nm) (f : AF) (fr : Frame) : Prop where
  fn : fr.fn = f.x.fn
  tm : RT ι f.x.nt f.tm fr.tmps
  todo : RIs ι f.todo fr.todo
  ds : RDs ι f.ds fr.defers
  mode : fr.mode = if f.ret then .returning else .run
  kind : fr.kind = if f.x.deferred then .deferred else .normal
  round : match f.x.round with | none => fr.roundOf = none | some id => ∃ p, ι id = some p ∧ fr.roundOf = some p.1

section
variable {ι ι' : Nm}
theorem RI.mono (hE : Ext ι ι') {a : AI} {i : Item} (h : RI ι a i) : RI ι' a i := by
  cases a with
  | inRangeFunc id => obtain ⟨p, h1, h2⟩ := h; exact ⟨p, hE _ _ h1, h2⟩
  | endRangeFunc id => obtain ⟨p, h1, h2⟩ := h; exact ⟨p, hE _ _ h1, h2⟩
  | _ => exact h
theorem RIs.mono (hE : Ext ι ι') {l : List AI} {is : List Item} (h : RIs ι l is) : RIs ι' l is := by
  induction l generalizing is with
  | nil => exact h
  | cons a l ih => obtain ⟨i, r, h1, h2, h3⟩ := h; exact ⟨i, r, h1, h2.mono hE, ih h3⟩
theorem RD.mono (hE : Ext ι ι') {a : AD} {d : Deferred} (h : RD ι a d) : RD ι' a d := by
  unfold RD at h ⊢
  split at h
  · exact fun id hid => by obtain ⟨p, h1, h2⟩ := h id hid; exact ⟨p, hE _ _ h1, h2⟩
  · obtain ⟨fs, as, cs, h1, h2, h3, h4⟩ := h
    exact ⟨fs, as, cs, h1.mono hE, h2.mono hE, h3.mono hE, h4⟩
  · trivial
theorem RDs.mono (hE : Ext ι ι') {l : List AD} {ds : List Deferred} (h : RDs ι l ds) : RDs ι' l ds := by
  induction l generalizing ds with
  | nil => exact h
  | cons a l ih => obtain ⟨i, r, h1, h2, h3⟩ := h; exact ⟨i, r, h1, h2.mono hE, ih h3⟩
theorem RF.mono (hE : Ext ι ι') {f : AF} {fr : Frame} (h : RF ι f fr) : RF ι' f fr := by
  refine ⟨h.fn, h.tm.mono hE, h.todo.mono hE, h.ds.mono hE, h.mode, h.kind, ?_⟩
  have := h.round
  split at this
  · exact this
  · obtain ⟨p, h1, h2⟩ := this; exact ⟨p, hE _ _ h1, h2⟩
theorem RIs.cons {a : AI} {i : Item} {l : List AI} {is : List Item} (h : RI ι a i) (h' : RIs ι l is) : RIs ι (a :: l) (i :: is) := ⟨i, is, rfl, h, h'⟩
theorem RDs.append {l m : List AD} {ds es : List Deferred} (h : RDs ι l ds) (h' : RDs ι m es) : RDs ι (l ++ m) (ds ++ es) := by
  induction l generalizing ds with
  | nil =>
    have : ds = [] := h
    subst this; exact h'
  | cons a l ih => obtain ⟨d, r, rfl, h2, h3⟩ := h; exact ⟨d, _, rfl, h2, ih h3⟩

theorem exitA_ok {id : Nat} : ∀ {l : List AI} {is : List Item} {k : List AI}, exitA id l = some k → RIs ι l is → ∃ k', exitTo id is = some k' ∧ RIs ι k k'
  | [], _, _, e, _ => by cases e
  | a :: l, is, k, e, h => by
    obtain ⟨i, r, rfl, h1, h2⟩ := h
    cases a with
    | inBlock id' =>
      obtain rfl : i = .inBlock id' := h1
      simp only [exitA] at e
      rw [exitTo]
      cases hb : Nat.beq id' id with
      | true =>
        rw [hb] at e; simp only [cond_true, Option.some.injEq] at e
        subst e
        have : (id' == id) = true := by rw [← nat_beq]; exact hb
        rw [if_pos this]
        exact ⟨r, rfl, h2⟩
      | false =>
        rw [hb] at e; simp only [cond_false] at e
        have : ¬ (id' == id) = true := by rw [← nat_beq, hb]; simp
        rw [if_neg this]
        exact exitA_ok (l := l) (is := r) e h2
    | code c => obtain rfl : i = .code c := h1; exact exitA_ok (l := l) (is := r) e h2
    | inLoop c => obtain rfl : i = .inLoop c := h1; exact exitA_ok (l := l) (is := r) e h2
    | inScope c => obtain rfl : i = .inScope c := h1; exact exitA_ok (l := l) (is := r) e h2
    | inRegion ops td => obtain ⟨k', _, rfl⟩ := h1; exact exitA_ok (l := l) (is := r) e h2
    | inRangeFunc id' => obtain ⟨p, _, rfl⟩ := h1; exact exitA_ok (l := l) (is := r) e h2
    | endRangeFunc id' => obtain ⟨p, _, rfl⟩ := h1; exact exitA_ok (l := l) (is := r) e h2
    | beginRound => obtain rfl : i = .beginRound := h1; exact exitA_ok (l := l) (is := r) e h2
    | inDrawn ops n => obtain ⟨_, _, rfl⟩ := h1; exact exitA_ok (l := l) (is := r) e h2
theorem exitA_no {id : Nat} : ∀ {l : List AI} {is : List Item}, exitA id l = none → RIs ι l is → exitTo id is = none
  | [], is, _, h => by
    have : is = [] := h
    subst this; rfl
  | a :: l, is, e, h => by
    obtain ⟨i, r, rfl, h1, h2⟩ := h
    cases a with
    | inBlock id' =>
      obtain rfl : i = .inBlock id' := h1
      simp only [exitA] at e
      rw [exitTo]
      cases hb : Nat.beq id' id with
      | true => rw [hb] at e; cases e
      | false =>
        rw [hb] at e; simp only [cond_false] at e
        have : ¬ (id' == id) = true := by rw [← nat_beq, hb]; simp
        rw [if_neg this]
        exact exitA_no (l := l) (is := r) e h2
    | code c => obtain rfl : i = .code c := h1; exact exitA_no (l := l) (is := r) e h2
    | inLoop c => obtain rfl : i = .inLoop c := h1; exact exitA_no (l := l) (is := r) e h2
    | inScope c => obtain rfl : i = .inScope c := h1; exact exitA_no (l := l) (is := r) e h2
    | inRegion ops td => obtain ⟨k', _, rfl⟩ := h1; exact exitA_no (l := l) (is := r) e h2
    | inRangeFunc id' => obtain ⟨p, _, rfl⟩ := h1; exact exitA_no (l := l) (is := r) e h2
    | endRangeFunc id' => obtain ⟨p, _, rfl⟩ := h1; exact exitA_no (l := l) (is := r) e h2
    | beginRound => obtain rfl : i = .beginRound := h1; exact exitA_no (l := l) (is := r) e h2
    | inDrawn ops n => obtain ⟨_, _, rfl⟩ := h1; exact exitA_no (l := l) (is := r) e h2

theorem gotoA_ok {t : Nat} : ∀ {l : List AI} {is : List Item} {k : List AI}, gotoA t l = some k → RIs ι l is → ∃ k', gotoIn t is = some k' ∧ RIs ι k k'
  | [], _, _, e, _ => by cases e
  | a :: l, is, k, e, h => by
    obtain ⟨i, r, rfl, h1, h2⟩ := h
    cases a with
    | inScope c =>
      obtain rfl : i = .inScope c := h1
      simp only [gotoA] at e
      rw [gotoIn]
      split at e
      · rename_i rest hr
        simp only [Option.some.injEq] at e
        subst e
        simp only [hr]
        exact ⟨_, rfl, .cons rfl (.cons rfl h2)⟩
      · rename_i hr
        simp only [hr]
        exact gotoA_ok (l := l) (is := r) e h2
    | code c => obtain rfl : i = .code c := h1; exact gotoA_ok (l := l) (is := r) e h2
    | inLoop c => obtain rfl : i = .inLoop c := h1; exact gotoA_ok (l := l) (is := r) e h2
    | inBlock c => obtain rfl : i = .inBlock c := h1; exact gotoA_ok (l := l) (is := r) e h2
    | inRegion ops td => obtain ⟨k', _, rfl⟩ := h1; exact gotoA_ok (l := l) (is := r) e h2
    | inRangeFunc id' => obtain ⟨p, _, rfl⟩ := h1; exact gotoA_ok (l := l) (is := r) e h2
    | endRangeFunc id' => obtain ⟨p, _, rfl⟩ := h1; exact gotoA_ok (l := l) (is := r) e h2
    | beginRound => obtain rfl : i = .beginRound := h1; exact gotoA_ok (l := l) (is := r) e h2
    | inDrawn ops n => obtain ⟨_, _, rfl⟩ := h1; exact gotoA_ok (l := l) (is := r) e h2
theorem gotoA_no {t : Nat} : ∀ {l : List AI} {is : List Item}, gotoA t l = none → RIs ι l is → gotoIn t is = none
  | [], is, _, h => by
    have : is = [] := h
    subst this; rfl
  | a :: l, is, e, h => by
    obtain ⟨i, r, rfl, h1, h2⟩ := h
    cases a with
    | inScope c =>
      obtain rfl : i = .inScope c := h1
      simp only [gotoA] at e
      rw [gotoIn]
      split at e
      · cases e
      · rename_i hr
        simp only [hr]
        exact gotoA_no (l := l) (is := r) e h2
    | code c => obtain rfl : i = .code c := h1; exact gotoA_no (l := l) (is := r) e h2
    | inLoop c => obtain rfl : i = .inLoop c := h1; exact gotoA_no (l := l) (is := r) e h2
    | inBlock c => obtain rfl : i = .inBlock c := h1; exact gotoA_no (l := l) (is := r) e h2
    | inRegion ops td => obtain ⟨k', _, rfl⟩ := h1; exact gotoA_no (l := l) (is := r) e h2
    | inRangeFunc id' => obtain ⟨p, _, rfl⟩ := h1; exact gotoA_no (l := l) (is := r) e h2
    | endRangeFunc id' => obtain ⟨p, _, rfl⟩ := h1; exact gotoA_no (l := l) (is := r) e h2
    | beginRound => obtain rfl : i = .beginRound := h1; exact gotoA_no (l := l) (is := r) e h2
    | inDrawn ops n => obtain ⟨_, _, rfl⟩ := h1; exact gotoA_no (l := l) (is := r) e h2
end

/-! ### events -/
/-- What a step may list: 'disable' and 'enable' too. -/
def EvG (K : Ctx) (size : Nat) (e : Event) : Prop := EvF K size e ∨ e = ⟨.mark .disable, false, true⟩ ∨ e = ⟨.mark .enable, false, true⟩
structure FineG (K : Ctx) (w w' : World) (es : Array Event) : Prop where
  size : w.heap.size ≤ w'.heap.size
  kept : ∀ b, b < w.heap.size → ¬ (K.base ≤ b ∧ K.own b) → w'.heap[b]? = w.heap[b]?
  evs : ∀ e ∈ es, EvG K w'.heap.size e
  os : w'.os = w.os
  tape : w'.tape = w.tape
  output : w'.output = w.output

theorem deaf_cons (d : Nat) (e : Event) (l : List Event) : deafBehind d (e :: l).toArray = deafBehind (deafBehind d #[e]) l.toArray := by simp [deafBehind]
theorem deaf_still {es : Array Event} (h : ∀ e ∈ es, e.loc ≠ .mark .disable ∧ e.loc ≠ .mark .enable) (d : Nat) : deafBehind d es = d := by
  obtain ⟨l⟩ := es
  induction l with
  | nil => rfl
  | cons e l ih =>
    have he := h e (by simp)
    have h1 : deafBehind d #[e] = d := by
      obtain ⟨loc, wr, sy⟩ := e
      cases loc with
      | mark m => cases m <;> simp_all [deafBehind]
      | _ => simp [deafBehind]
    rw [deaf_cons, h1]
    exact ih (fun x hx => h x (by simp at hx ⊢; exact .inr hx))
theorem EvF.still {K : Ctx} {n : Nat} {e : Event} (h : EvF K n e) : e.loc ≠ .mark .disable ∧ e.loc ≠ .mark .enable := by
  obtain ⟨loc, wr, sy⟩ := e
  constructor <;> (intro hl; simp only at hl; subst hl; exact h)
/-- What the trace keeps of quiet accesses. -/
theorem seen_still {P : Program} {fn : FuncId} {K : Ctx} {n : Nat} {es : List Event} (h : ∀ e ∈ es, EvF K n e) (d : Nat) : deafBehind d (seen P fn es.toArray) = d :=
  deaf_still (fun e he => (h e (by simpa using Conc.mem_seen he)).still) d
end Go.Ev
/- 'loudOp', whole. -/
namespace Go.Ev
section
variable {P : Program} {K : Ctx} {ι : Nm} {h : AH} {w : World} {E : Env} {tm : Tr AV} {ρ : Operand → Value}

/-- What an operation yields: a value, or nothing. -/
def Yields (ι : Nm) (v : AV) : Next → Prop
  | .value u => RV ι v u
  | .skip => RV ι v undef
  | _ => False

def VOk (P : Program) (K : Ctx) (ι : Nm) (h : AH) (w : World) (s : Sem Next) (v : AV) (h' : AH) : Prop := Free ι h.nx h'.nx →
  ∃ ι' w' nx es, SRun P s w nx w' es ∧ Grow ι ι' h.nx h'.nx ∧ Sat K ι' h' w' ∧ Yields ι' v nx ∧ Fine K w w' es ∧ h'.df = h.df

theorem LOk.next {s : Sem Value} {v : AV} {h' : AH} (h1 : LOk P K ι h w s v h') : VOk P K ι h w (do Pure.pure (.value (← s))) v h' := fun hf => by
  obtain ⟨ι', w', nv, es, h2, h3, h4, h5, h6, h7⟩ := h1 hf
  refine ⟨ι', w', .value nv, es, ?_, h3, h4, h5, h6, h7⟩
  have := SRun.bind h2 (SRun.pure (P := P) (w := w') (Next.value nv)) (f := fun v => Pure.pure (Next.value v))
  simpa using this
theorem UOk.next {s : Sem Unit} {v : AV} {h' : AH} (h1 : UOk P K ι h w s h' ∧ v = undefA) : VOk P K ι h w (do s; Pure.pure .skip) v h' := fun hf => by
  obtain ⟨ι', w', es, h2, h3, h4, h6, h7⟩ := h1.1 hf
  refine ⟨ι', w', .skip, es, ?_, h3, h4, ?_, h6, h7⟩
  · have := SRun.bind h2 (SRun.pure (P := P) (w := w') Next.skip) (f := fun _ => Pure.pure Next.skip)
    simpa using this
  · rw [h1.2]; exact RV_undef

/-- What a loud operation comes to. -/
def ROk (P : Program) (K : Ctx) (ι : Nm) (h : AH) (w : World) (s : Sem Next) : OR → Prop
  | .val v h' => VOk P K ι h w s v h'
  | .alts l => ∃ p ∈ l, VOk P K ι h w s p.1 p.2
  | .call g args => ∃ vs : Array Value, RVs ι args vs.toList ∧ ∀ e0, s.runT P w e0 = (callFunc g vs).runT P w e0
  | .yield id args => ∃ (p : Nat × Nat) (vs : Array Value), ι id = some p ∧ RVs ι args vs.toList ∧ ∀ e0, s.runT P w e0 = (Instr.yield p.1 vs).runT P w e0
  | .dfr a => ∃ d, SRun P s w (.defer d) w [] ∧ RD ι a d
  | .stop => True

theorem RVs_toArray {l : List AV} {vs : List Value} (h : RVs ι l vs) : RVs ι l vs.toArray.toList := by simpa using h

theorem map_val {α : Type} {x : Option α} {f : α → OR} {r : OR} (e : x.map f = some r) (hf : ∀ a, ∃ v h', f a = .val v h') : ∃ v h', r = .val v h' := by
  cases x with
  | none => cases e
  | some a => cases e; exact hf a

theorem allocA_val {t : TypeId} {r : OR} (e : allocA E h t = some r) : ∃ v h', r = .val v h' := by
  unfold allocA at e; split at e <;> cases e; exact ⟨_, _, rfl⟩
theorem boxA_val {t : TypeId} {x : AV} {r : OR} (e : boxA E h t x = some r) : ∃ v h', r = .val v h' := by
  unfold boxA at e; split at e
  · obtain ⟨_, e⟩ := cond_none_some e; cases e; exact ⟨_, _, rfl⟩
  · cases e
theorem buildSliceA_val {t : TypeId} {l : Nat} {ps : List (Nat × AV)} {r : OR} (e : buildSliceA E h t l ps = some r) : ∃ v h', r = .val v h' := by
  unfold buildSliceA at e; split at e
  · split at e
    · obtain ⟨_, e⟩ := cond_none_some e; exact map_val e fun a => ⟨_, _, rfl⟩
    · cases e
  · cases e
theorem storeA_val {t : TypeId} {a v : AV} {r : OR} (e : storeA E h t a v = some r) : ∃ v h', r = .val v h' := by
  unfold storeA at e; split at e
  · obtain ⟨_, e⟩ := cond_none_some e
    obtain ⟨_, e⟩ := condO_some e
    exact map_val e fun a => ⟨_, _, rfl⟩
  · cases e
theorem makeSliceA_val {t : TypeId} {l c : AV} {r : OR} (e : makeSliceA E h t l c = some r) : ∃ v h', r = .val v h' := by
  unfold makeSliceA at e; split at e
  · split at e
    · obtain ⟨_, rfl⟩ := cond_some e; exact ⟨_, _, rfl⟩
    · cases e
  · cases e
theorem makeMapA_val {t : TypeId} {x : Option AV} {r : OR} (e : makeMapA E h t x = some r) : ∃ v h', r = .val v h' := by
  unfold makeMapA at e; split at e
  · cases e; exact ⟨_, _, rfl⟩
  · split at e <;> cases e; exact ⟨_, _, rfl⟩
  · cases e
theorem mapUpdateA_val {t : TypeId} {m k x : AV} {r : OR} (e : mapUpdateA E h t m k x = some r) : ∃ v h', r = .val v h' := by
  unfold mapUpdateA at e; split at e
  · split at e
    · split at e <;> cases e <;> exact ⟨_, _, rfl⟩
    · cases e
  · cases e
theorem mapEntryA_val {t : TypeId} {m k : AV} {r : OR} (e : mapEntryA E h t m k = some r) : ∃ v h', r = .val v h' := by
  unfold mapEntryA at e; split at e
  · split at e
    · split at e
      · cases e
      · split at e <;> cases e; exact ⟨_, _, rfl⟩
      · cases e; exact ⟨_, _, rfl⟩
    · cases e
  · cases e
theorem entryStoreA_val {m s x : AV} {r : OR} (e : entryStoreA h m s x = some r) : ∃ v h', r = .val v h' := by
  unfold entryStoreA at e; split at e
  · split at e
    · split at e <;> cases e; exact ⟨_, _, rfl⟩
    · cases e
  · cases e
theorem rangeA_val {t : TypeId} {x : AV} {r : OR} (e : rangeA E h t x = some r) : ∃ v h', r = .val v h' := by
  unfold rangeA at e; split at e
  · cases e; exact ⟨_, _, rfl⟩
  · cases e; exact ⟨_, _, rfl⟩
  · split at e <;> cases e; exact ⟨_, _, rfl⟩
  · cases e
theorem deleteA_val {t : TypeId} {m k : AV} {r : OR} (e : deleteA E h t m k = some r) : ∃ v h', r = .val v h' := by
  unfold deleteA at e; split at e
  · obtain ⟨_, e⟩ := cond_some e
    exact ⟨_, _, e.symm⟩
  · split at e
    · split at e <;> cases e <;> exact ⟨_, _, rfl⟩
    · cases e
  · cases e
theorem clearA_val {t : TypeId} {m : AV} {r : OR} (e : clearA E h t m = some r) : ∃ v h', r = .val v h' := by
  unfold clearA at e; split at e
  · split at e <;> cases e; exact ⟨_, _, rfl⟩
  · cases e
theorem unsafeStringA_val {t : TypeId} {m k : AV} {r : OR} (e : unsafeStringA E h t m k = some r) : ∃ v h', r = .val v h' := by
  unfold unsafeStringA at e; split at e
  · obtain ⟨_, rfl⟩ := cond_some e; exact ⟨_, _, rfl⟩
  · split at e
    · obtain ⟨_, e⟩ := condO_some e
      split at e
      · exact map_val e fun a => ⟨_, _, rfl⟩
      · cases e
    · cases e
  · cases e

theorem loudB_ok (hP : K.P = P) (F : Fits P E) (S : Sat K ι h w) {b : Builtin} {as : List AV} {ts : List TypeId} {r : OR} {args : Array Value} {tys : Array TypeId} {ty : TypeId} {cs : Array Bool}
    (e : loudB E h b as ts = some r) (ha : RVs ι as args.toList) (ht : tys.toList = ts) : ROk P K ι h w (builtin b tys ty cs args) r := by
  obtain ⟨tys⟩ := tys
  obtain ⟨args⟩ := args
  simp only at ha ht
  subst ht
  unfold loudB at e
  split at e
  · split at e
    · rename_i s x t u
      obtain ⟨v1, r1, rfl, h1, h2⟩ := RVs_cons_inv ha
      obtain ⟨v2, r2, rfl, h3, h4⟩ := RVs_cons_inv h2
      obtain rfl := RVs_nil_inv h4
      cases ha : appendA E h t u s x with
      | none => rw [ha] at e; cases e
      | some p => rw [ha] at e; cases e; exact (appendA_ok F hP S ha h1 h3).next
    · cases e
  · split at e
    · rename_i d s t ts'
      obtain ⟨v1, r1, rfl, h1, h2⟩ := RVs_cons_inv ha
      obtain ⟨v2, r2, rfl, h3, h4⟩ := RVs_cons_inv h2
      obtain rfl := RVs_nil_inv h4
      cases ha : copyA E h t d s with
      | none => rw [ha] at e; cases e
      | some p =>
        rw [ha] at e; cases e
        have := (copyA_ok (tx := t) (ty := ty) F S ha h1 h3).next
        exact this
    · cases e
  · split at e
    · rename_i m k t ts'
      obtain ⟨v1, r1, rfl, h1, h2⟩ := RVs_cons_inv ha
      obtain ⟨v2, r2, rfl, h3, h4⟩ := RVs_cons_inv h2
      obtain rfl := RVs_nil_inv h4
      obtain ⟨v, h', rfl⟩ := deleteA_val e
      have := (deleteA_ok (ty := ty) F S e h1 h3).next
      exact this
    · cases e
  · split at e
    · rename_i m t ts'
      obtain ⟨v1, r1, rfl, h1, h2⟩ := RVs_cons_inv ha
      obtain rfl := RVs_nil_inv h2
      obtain ⟨v, h', rfl⟩ := clearA_val e
      have := (clearA_ok (ty := ty) F S e h1).next
      exact this
    · cases e
  · split at e
    · rename_i p n t ts'
      obtain ⟨v1, r1, rfl, h1, h2⟩ := RVs_cons_inv ha
      obtain ⟨v2, r2, rfl, h3, h4⟩ := RVs_cons_inv h2
      obtain rfl := RVs_nil_inv h4
      obtain ⟨v, h', rfl⟩ := unsafeStringA_val e
      have := (unsafeStringA_ok (tn := t) (ty := ty) F hP S e h1 h3).next
      exact this
    · cases e
  · cases e

theorem invokeA_val {r0 : AV} {m : String} {args : List AV} {r : OR} (e : invokeA E r0 m args = some r) : ∃ t v g, r0 = .iface t v ∧ (t, m, g) ∈ E.meth ∧ r = .call g (v :: args) := by
  unfold invokeA at e
  split at e
  · rename_i t v
    split at e
    · rename_i p hp
      cases e
      have h1 := List.find?_some hp
      have h2 := List.mem_of_find?_eq_some hp
      rw [Bool.and_eq_true] at h1
      obtain ⟨t', m', g⟩ := p
      have e1 : t' = t := Nat.eq_of_beq_eq_true h1.1
      have e2 : m' = m := by simpa using h1.2
      subst e1; subst e2
      exact ⟨_, _, _, rfl, h2, rfl⟩
    · cases e
  · cases e

theorem SRun.thenT {α β : Type} {s : Sem α} {a : α} {w1 : World} (h1 : SRun P s w a w1 []) (f : α → Sem β) (e0 : Array Event) : (s >>= f).runT P w e0 = (f a).runT P w1 e0 := by
  have : e0 ++ ([] : List Event).toArray = e0 := by simp
  rw [runT_bind, h1 e0, this]

theorem callA_ok (hP : K.P = P) (F : Fits P E) (S : Sat K ι h w) (hρ : ∀ x, RV ι (ev tm x) (ρ x)) {c : Call} {ty : TypeId} {r : OR} (e' : callA c E tm h = some r) : ROk P K ι h w (do let d ← resolve ρ c ty; invoke d.target d.args) r := by
  unfold callA at e'
  have hargs : RVs ι (evs tm c.args.toList) (c.args.map ρ).toList := by simpa using RVs_evs hρ c.args.toList
  split at e'
  · rename_i b hc
    have h1 := loudB_ok (ty := ty) (cs := c.args.map fun | .const _ => true | _ => false) (args := c.args.map ρ) (tys := c.argTypes) hP F S e' hargs rfl
    have hr : ∀ w, SRun P (resolve ρ c ty) w { target := .builtin b c.argTypes ty (c.args.map fun | .const _ => true | _ => false), args := c.args.map ρ } w [] := by
      intro w
      unfold resolve
      rw [hc]
      exact SRun.pure _
    have hrun : ∀ e0, ((do let d ← resolve ρ c ty; invoke d.target d.args) : Sem Next).runT P w e0 = (builtin b c.argTypes ty (c.args.map fun | .const _ => true | _ => false) (c.args.map ρ)).runT P w e0 := by
      intro e0
      rw [SRun.thenT (hr w)]
      rfl
    have conv : ∀ {v : AV} {h' : AH}, VOk P K ι h w (builtin b c.argTypes ty (c.args.map fun | .const _ => true | _ => false) (c.args.map ρ)) v h' → VOk P K ι h w (do let d ← resolve ρ c ty; invoke d.target d.args) v h' := by
      intro v h' hv hf
      obtain ⟨ι', w', nx, es, k1, k2⟩ := hv hf
      exact ⟨ι', w', nx, es, fun e0 => by rw [hrun e0]; exact k1 e0, k2⟩
    cases r with
    | val v h' => exact conv h1
    | alts l => obtain ⟨p, hp, h2⟩ := h1; exact ⟨p, hp, conv h2⟩
    | call g args => obtain ⟨vs, h2, h3⟩ := h1; exact ⟨vs, h2, fun e0 => by rw [hrun e0]; exact h3 e0⟩
    | yield id args => obtain ⟨p, vs, h2, h3, h4⟩ := h1; exact ⟨p, vs, h2, h3, fun e0 => by rw [hrun e0]; exact h4 e0⟩
    | dfr a =>
      obtain ⟨d, h2, h3⟩ := h1
      exact ⟨d, fun e0 => by rw [hrun e0]; exact h2 e0, h3⟩
    | stop => trivial
  · rename_i g hc
    have hg := hρ g
    unfold callV at e'
    split at e'
    · rename_i i first cap hv
      cases e'
      rw [hv] at hg
      obtain ⟨fs, cs, hgv, hf, hcp⟩ := fn_inv hg
      refine ⟨(fs ++ c.args.map ρ) ++ cs, ?_, fun e0 => ?_⟩
      · simp only [Array.toList_append]
        exact (hf.append hargs).append hcp
      · have hr : SRun P (resolve ρ c ty) w { target := .fn (.func i) cs, args := fs ++ c.args.map ρ } w [] := by
          unfold resolve
          rw [hc]
          simp only [hgv]
          exact SRun.pure _
        rw [SRun.thenT hr]
        rfl
    · rename_i l hv
      cases e'
      rw [hv] at hg
      unfold RV at hg
      obtain ⟨p, hp, hgv⟩ := hg
      refine ⟨p, c.args.map ρ, hp, hargs, fun e0 => ?_⟩
      have hr : SRun P (resolve ρ c ty) w { target := .fn (.yield p.1) #[], args := #[] ++ c.args.map ρ } w [] := by
        unfold resolve
        rw [hc]
        simp only [hgv]
        exact SRun.pure _
      rw [SRun.thenT hr]
      have : (#[] : Array Value) ++ c.args.map ρ = c.args.map ρ := by simp
      rw [this]
      rfl
    · cases e'
  · rename_i r0 m hc
    obtain ⟨t, v, g, hr0, hm, rfl⟩ := invokeA_val e'
    have hr := hρ r0
    rw [hr0] at hr
    obtain ⟨u, hu, hv⟩ := iface_inv hr
    refine ⟨#[u] ++ c.args.map ρ, ?_, fun e0 => ?_⟩
    · simp only [Array.toList_append]
      exact RVs_cons hv hargs
    · have hrs : SRun P (resolve ρ c ty) w { target := .fn (.method m) #[], args := #[.iface t u] ++ c.args.map ρ } w [] := by
        unfold resolve
        rw [hc]
        simp only [hu]
        exact SRun.pure _
      rw [SRun.thenT hrs]
      have h1 : (#[Value.iface t u] ++ c.args.map ρ)[0]? = some (.iface t u) := by rw [Array.getElem?_append_left (by simp)]; rfl
      have h2 : (#[Value.iface t u] ++ c.args.map ρ).extract 1 (#[Value.iface t u] ++ c.args.map ρ).size = c.args.map ρ := by
        apply Array.toList_inj.1; simp
        exact List.take_of_length_le (by simp)
      have hinv : invoke (.fn (.method m) #[]) (#[.iface t u] ++ c.args.map ρ) = callMethod (.iface t u) m (c.args.map ρ) := by
        unfold invoke
        simp only [h1]
        rw [h2]
      simp only
      rw [hinv]
      unfold callMethod
      simp only
      rw [SRun.thenT SRun.program, SRun.thenT (F.meth t m g hm u w)]

set_option maxHeartbeats 2000000 in
/-- Every operation but the quiet ones. -/
theorem loud_ok (hP : K.P = P) (F : Fits P E) (S : Sat K ι h w) (hρ : ∀ x, RV ι (ev tm x) (ρ x)) {o : Oper} {r : OR} (e : loudOp o.op E tm h = some r) : ROk P K ι h w (execOp ρ o) r := by
  unfold execOp
  cases ho : o.op <;> rw [ho] at e
  case alloc t =>
    have e' : allocA E h t = some r := e
    obtain ⟨v, h', rfl⟩ := allocA_val e'
    exact (allocA_ok F S e').next
  case box t x =>
    have e' : boxA E h t (ev tm x) = some r := e
    obtain ⟨v, h', rfl⟩ := boxA_val e'
    exact (boxA_ok S e' (hρ x)).next
  case buildSlice t l ps =>
    have e' : buildSliceA E h t l (evp tm ps.toList) = some r := e
    obtain ⟨v, h', rfl⟩ := buildSliceA_val e'
    have hps : RVp ι (evp tm ps.toList) (ps.map fun (i, x) => (i, ρ x)).toList := by
      have := RVp_evp hρ ps.toList
      simpa using this
    exact (buildSliceA_ok (vs := ps.map fun (i, x) => (i, ρ x)) F S e' hps).next
  case store t a x =>
    have e' : storeA E h t (ev tm a) (ev tm x) = some r := e
    obtain ⟨v, h', rfl⟩ := storeA_val e'
    exact UOk.next (storeA_ok F S e' (hρ a) (hρ x))
  case insert t m k x =>
    have e' : mapUpdateA E h t (ev tm m) (ev tm k) (ev tm x) = some r := e
    obtain ⟨v, h', rfl⟩ := mapUpdateA_val e'
    exact UOk.next (mapUpdateA_ok F S e' (hρ m) (hρ k) (hρ x))
  case mapUpdate t m k x =>
    have e' : mapUpdateA E h t (ev tm m) (ev tm k) (ev tm x) = some r := e
    obtain ⟨v, h', rfl⟩ := mapUpdateA_val e'
    exact UOk.next (mapUpdateA_ok F S e' (hρ m) (hρ k) (hρ x))
  case mapEntry t m k =>
    have e' : mapEntryA E h t (ev tm m) (ev tm k) = some r := e
    obtain ⟨v, h', rfl⟩ := mapEntryA_val e'
    exact (mapEntryA_ok F S e' (hρ m) (hρ k)).next
  case entryStore t m s x =>
    have e' : entryStoreA h (ev tm m) (ev tm s) (ev tm x) = some r := e
    obtain ⟨v, h', rfl⟩ := entryStoreA_val e'
    exact UOk.next (entryStoreA_ok S e' (hρ m) (hρ s) (hρ x))
  case convert s d x =>
    have e' : convA E s d (ev tm x) h = some r := e
    obtain ⟨v, h', rfl, h1⟩ := convA_ok F hP S e' (hρ x)
    exact h1.next
  case makeMap t x =>
    have e' : makeMapA E h t (evo tm x) = some r := e
    obtain ⟨v, h', rfl⟩ := makeMapA_val e'
    exact (makeMapA_ok F S e' (RVo_evo hρ x)).next
  case makeSlice t l c =>
    have e' : makeSliceA E h t (ev tm l) (ev tm c) = some r := e
    obtain ⟨v, h', rfl⟩ := makeSliceA_val e'
    exact (makeSliceA_ok F S e' (hρ l) (hρ c)).next
  case range t x =>
    have e' : rangeA E h t (ev tm x) = some r := e
    obtain ⟨v, h', rfl⟩ := rangeA_val e'
    exact (rangeA_ok F S e' (hρ x)).next
  case next it isS =>
    have e' : nextA h (ev tm it) isS = some r := e
    have := nextA_ok (P := P) (ty := o.type) S e' (hρ it)
    cases r with
    | val v h' =>
      have h1 : LOk P K ι h w _ _ _ := this
      exact h1.next
    | alts l =>
      obtain ⟨p, hp, h1⟩ := this
      exact ⟨p, hp, h1.next⟩
    | _ => exact this.elim
  case call c => exact callA_ok (ty := o.type) hP F S hρ e
  case go c => cases e; trivial
  case defer c =>
    have e' : (match c.callee with
      | .value g => (match ev tm g with
        | .fn f a b => some (OR.dfr ⟨.fn f a b, evs tm c.args.toList⟩)
        | _ => none)
      | _ => none) = some r := e
    split at e'
    · rename_i g hc
      split at e'
      · rename_i f a b hv
        cases e'
        have hg := hρ g
        rw [hv] at hg
        obtain ⟨fs, cs, hgv, hf, hcp⟩ := fn_inv hg
        have hargs : RVs ι (evs tm c.args.toList) (c.args.map ρ).toList := by simpa using RVs_evs hρ c.args.toList
        refine ⟨{ target := .fn (.func f) cs, args := fs ++ c.args.map ρ }, ?_, fs.toList, (c.args.map ρ).toList, cs, hf, hargs, hcp, by simp⟩
        refine SRun.bind0 (a := { target := .fn (.func f) cs, args := fs ++ c.args.map ρ }) ?_ (SRun.pure _)
        unfold resolve
        rw [hc]
        simp only [hgv]
        exact SRun.pure _
      · cases e'
    · cases e'
  all_goals (cases e)
end
end Go.Ev
