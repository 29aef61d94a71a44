/- A part of the proof that the law ProofNil returns true for every input (its card: YtfemddccapnonaaGreatDoorMyCard): EvLoud6, EvSim, EvLoud7, EvStep, EvStep2, EvStep3. Conditions: those of the given row alone. -/
import Derived.Test.YtfemddccapnonaaGreatDoorEv2
import Derived.Conc.Own
import Derived.Conc.Listed
import GoSem.ClaimLeaving
namespace Go.Ev
section
variable {P : Program} {K : Ctx} {ι : Nm} {h : AH} {w : World} {E : Env}
theorem shape_of {b : Nat} {c : Array Value} {T : TypeId} {fz : Nat × Nat} (hb : w.heap[b]? = some (.cells c T fz)) : w.shape? b = some (T, c.size) := by
  unfold World.shape?; simp [hb]
theorem SRun_seenAt {b o : Nat} {c : Array Value} {T : TypeId} {fz : Nat × Nat} (hb : w.heap[b]? = some (.cells c T fz)) : SRun P (Conv.seenAt ⟨b, o, none⟩) w ⟨b, o, none⟩ w [] := by
  unfold Conv.seenAt
  refine SRun.bind0 (a := none) ?_ (SRun.pure _)
  unfold viewAt
  refine SRun.bind0 (SRun.shape _) ?_
  rw [shape_of hb]
  exact SRun.pure _
theorem SRun_cellsIn {b : Nat} {c : Array Value} {T : TypeId} {fz : Nat × Nat} (hb : w.heap[b]? = some (.cells c T fz)) : SRun P (cellsIn b) w (some c.size) w [] := by
  unfold cellsIn
  refine SRun.bind0 (SRun.shape _) ?_
  rw [shape_of hb]
  exact SRun.pure _
theorem SRun_variablesAt {b o n : Nat} {u : TypeId} {c : Array Value} {T : TypeId} {fz : Nat × Nat} (hb : w.heap[b]? = some (.cells c T fz)) : SRun P (variablesAt ⟨b, o, none⟩ u n) w (liesAt P P.depth T (c.size / P.cellsOf T) o u n) w [] := by
  unfold variablesAt
  refine SRun.bind0 SRun.program ?_
  refine SRun.bind0 (SRun.shape _) ?_
  rw [shape_of hb]
  exact SRun.pure _
theorem strOf_inv {a : AV} {l : List AV} {s : List UInt8} (e : strOf (a :: l) = some s) : ∃ (n : Int) (r : List UInt8), a = .int .u8 n ∧ strOf l = some r ∧ s = UInt8.ofNat n.toNat :: r := by
  unfold strOf at e
  split at e
  · rename_i heq; cases heq
  · rename_i n l' heq
    cases heq
    split at e
    · rename_i r hr
      cases e
      exact ⟨n, r, rfl, hr, rfl⟩
    · cases e
  · cases e
theorem bytesLoop {body : Value → ByteArray → Sem (ForInStep ByteArray)} (hb : ∀ (n : Int) acc, body (.int .u8 n) acc = Pure.pure (ForInStep.yield (acc.push (UInt8.ofNat n.toNat)))) :
    ∀ {l : List AV} {s : List UInt8} {vs : List Value} {acc : ByteArray}, strOf l = some s → RVs ι l vs → SRun P (forIn vs acc body) w ⟨acc.data ++ s.toArray⟩ w []
  | [], s, vs, acc, e, hv => by
    rw [RVs_nil_inv hv]
    unfold strOf at e; cases e
    simp only [List.forIn_nil]
    have : (⟨acc.data ++ #[]⟩ : ByteArray) = acc := by simp
    rw [this]
    exact SRun.pure _
  | a :: l, s, vs, acc, e, hv => by
    obtain ⟨n, r, rfl, hr, rfl⟩ := strOf_inv e
    obtain ⟨v, rest, rfl, h1, h2⟩ := RVs_cons_inv hv
    obtain rfl := int_inv h1
    rw [List.forIn_cons, hb]
    refine SRun.bind0 (SRun.pure _) ?_
    have := bytesLoop hb (acc := acc.push (UInt8.ofNat n.toNat)) hr h2
    have e2 : (⟨(acc.push (UInt8.ofNat n.toNat)).data ++ r.toArray⟩ : ByteArray) = ⟨acc.data ++ (UInt8.ofNat n.toNat :: r).toArray⟩ := by
      congr 1
      apply Array.toList_inj.1
      simp [ByteArray.push]
    rw [e2] at this
    exact this
theorem bytesToString_ok (hP : Of K P E) (S : Sat K ι h w) {id off len : Nat} {cp : Option Nat} {vs : List AV} {s : List UInt8} {v : Value} (hl : loadC E h id off len = some vs) (hs : strOf vs = some s) (hv : RV ι (.sl id off len cp) v) :
    LOk P K ι h w (Conv.bytesToString v) (.str s) h := by
  obtain ⟨p, hp, cap, rfl, _⟩ := sl_inv hv
  obtain ⟨cs, es, r1, r2, _, r3⟩ := SRun_loadCells (P := P) S hP hp hl
  unfold Conv.bytesToString
  refine LOk.bindE r1 r3 ?_
  refine LOk.bind0 (x := (⟨s.toArray⟩ : ByteArray)) ?_ (LOk.still S (SRun.pure _) RV_str)
  obtain ⟨l⟩ := cs
  rw [List.forIn_toArray]
  have := bytesLoop (P := P) (w := w) (ι := ι) (acc := ByteArray.empty) (body := fun c s => match c with | .int .u8 n => Pure.pure (ForInStep.yield (s.push (UInt8.ofNat n.toNat))) | _ => stuck "bytesToString: byte expected") (fun n acc => rfl) hs r2
  have e2 : (⟨ByteArray.empty.data ++ s.toArray⟩ : ByteArray) = ⟨s.toArray⟩ := by
    show (⟨#[] ++ s.toArray⟩ : ByteArray) = _
    simp
  rw [e2] at this
  exact this
theorem modify_push {α : Type} (a : Array α) (x : α) (f : α → α) : (a.push x).modify a.size f = a.push (f x) := by
  apply Array.ext_getElem?
  intro i
  rw [Array.getElem?_modify, Array.getElem?_push, Array.getElem?_push]
  by_cases h : a.size = i
  · subst h; simp
  · rw [if_neg h]
    by_cases h2 : i = a.size
    · exact absurd h2.symm h
    · rw [if_neg h2, if_neg h2]
theorem stringToBytes_ok (hP : K.P = P) (S : Sat K ι h w) {e : TypeId} (hc : P.cellsOf e = 1) {a : List UInt8} :
    LOk P K ι h w (Conv.stringToBytes e ⟨a.toArray⟩) (.sl h.nx 0 a.length none) (h.new (.cells (bytesOf a) e true false)) := by
  unfold Conv.stringToBytes
  have hs : (⟨a.toArray⟩ : ByteArray).size = a.length := size_mk a
  rw [hs]
  refine LOk.choose fun k d hk => ?_
  have hle : a.length ≤ k := by
    obtain ⟨t, hk | hk⟩ := hk
    · rw [hk]; simp only [Question.cut]; omega
    · exact absurd hk.2 (by simp [Question.forced])
  intro hfr
  have hf := free_new hfr
  have S' := S.drawn d
  obtain ⟨c, hcdef⟩ : ∃ c, c = a.toArray.map (fun b => Value.int .u8 b.toNat) ++ Array.replicate (k - a.length) (.int .u8 0) := ⟨_, rfl⟩
  have hcs : c.size = k := by rw [hcdef]; simp; omega
  have hr : RO K.P (upd ι h.nx (w.heap.size, k)) k (.cells (bytesOf a) e true false) (.cells c e (k, k + 1)) := by
    refine ⟨c, k, k + 1, rfl, ⟨_, (Array.replicate (k - a.length) (Value.int .u8 0)).toList, ?_, (bytesOf_ok a)⟩, fun h => (by cases h), fun _ => ?_, fun _ => ⟨fun o ho => by omega, fun h => by cases h⟩⟩
    · rw [hcdef]; simp
    · rw [hcs, hP, hc]; omega
  refine ⟨upd ι h.nx (w.heap.size, k), { w with heap := w.heap.push (.cells c e (k, k + 1)), drawn := d }, .slice (some ⟨w.heap.size, 0, none⟩) a.length k, [], ?_, by rw [AH.new_nx]; exact Grow.upd, S'.newO hf hr, ?_, by simpa using Fine.newO (w := { w with drawn := d }) (.cells c e (k, k + 1)) K, AH.new_df⟩
  · dsimp only
    rw [← hcdef]
    unfold newRow
    refine SRun.bind (e1 := []) (e2 := []) (SRun.bind (e1 := []) (e2 := []) (SRun.new _) (SRun.pure _)) ?_
    refine SRun.bind (e1 := []) (e2 := []) (a := ()) (w1 := { w with heap := w.heap.push (.cells c e (k, k + 1)), drawn := d }) ?_ (SRun.pure _)
    unfold markStringish
    refine SRun.bind (e1 := []) (e2 := []) (SRun.shape _) ?_
    have hsh : World.shape? { w with heap := w.heap.push (.cells c e (0, 0)), drawn := d } w.heap.size = some (e, c.size) := by unfold World.shape?; simp
    simp only [hsh]
    have := SRun.freeze (P := P) (w := { w with heap := w.heap.push (.cells c e (0, 0)), drawn := d }) ⟨w.heap.size, c.size, none⟩ 1
    have e3 : World.freeze { w with heap := w.heap.push (.cells c e (0, 0)), drawn := d } ⟨w.heap.size, c.size, none⟩ 1 = { w with heap := w.heap.push (.cells c e (k, k + 1)), drawn := d } := by
      unfold World.freeze
      rw [if_neg (by decide)]
      simp only
      congr 1
      rw [modify_push]
      simp [hcs]
    rw [e3] at this
    exact this
  · unfold RV
    exact ⟨_, upd_self _ _ _, k, rfl, hle, fun j hj => (by cases hj), fun _ _ => Nat.le_refl _⟩
theorem cellsOf_of (F : Fits P E) {t : TypeId} {ti : TI} (ht : E.tt.get t = some ti) : P.cellsOf t = ti.size := by
  obtain ⟨i, _, hi, hs, _⟩ := (tt_of F ht).info
  unfold Program.cellsOf; rw [hi]; exact hs
theorem convA_ok (F : Fits P E) (hP : Of K P E) (S : Sat K ι h w) {s d : TypeId} {x : AV} {vx : Value} {r : OR} (e : convA E s d x h = some r) (hx : RV ι x vx) : ∃ v h', r = .val v h' ∧ LOk P K ι h w (convert s d vx) v h' := by
  unfold convA at e
  split at e
  · rename_i el id off hs hd
    split at e
    · rename_i vs el2 g z ti ho ht
      obtain ⟨hc, rfl⟩ := cond_some e
      refine ⟨_, _, rfl, ?_⟩
      rw [Bool.and_eq_true] at hc
      obtain ⟨hne, hlt⟩ := hc
      rw [Nat.blt_eq] at hlt
      obtain ⟨p, hp, rfl⟩ := ptr_inv hx
      obtain ⟨q, ob, hq, b1, b2, b3, hb, c, lo, hi, rfl, ⟨l1, l2, hcc, hlr⟩, _⟩ := S.at ho trivial
      obtain rfl : p = q := by rw [hp] at hq; exact Option.some.inj hq
      have hsz : off < c.size := by
        have h1 := congrArg List.length hcc
        have h2 := hlr.length
        simp at h1; omega
      refine LOk.still S ?_ (RV_ptr hp)
      unfold convert
      refine SRun.bind0 (SRun.underlying (desc_ptr F hs)) ?_
      refine SRun.bind0 (SRun.underlying (desc_uptr F hd)) ?_
      unfold Conv.unsafePointer
      refine SRun.bind0 (SRun.underlying (desc_ptr F hs)) ?_
      refine SRun.bind0 (SRun.underlying (desc_uptr F hd)) ?_
      refine SRun.bind0 (SRun_seenAt hb) ?_
      refine SRun.bind0 (SRun_cellsIn hb) ?_
      refine SRun.bind0 (SRun_sizeOf (tt_of F ht)) ?_
      have h1 : ti.size ≠ 0 := by intro h0; rw [h0] at hne; cases hne
      simp only [h1, decide_false, Bool.false_or, Option.isNone_none, Bool.and_true]
      have h2 : ¬ (c.size ≤ off) := by omega
      simp [h2]
      exact SRun.pure _
    · cases e
  · rename_i u id hs hd
    split at e
    · rename_i vs el z ti ho ht
      split at e
      · rename_i ei hei
        obtain ⟨hc, rfl⟩ := cond_some e
        refine ⟨_, _, rfl, ?_⟩
        simp only [Bool.and_eq_true] at hc
        obtain ⟨⟨⟨hne, hne2⟩, hlen⟩, hlies⟩ := hc
        have hlen := Nat.eq_of_beq_eq_true hlen
        obtain ⟨p, hp, rfl⟩ := ptr_inv hx
        obtain ⟨q, ob, hq, b1, b2, b3, hb, c, lo, hi, rfl, ⟨l1, l2, hcc, hlr⟩, hg, _⟩ := S.at ho trivial
        obtain rfl : p = q := by rw [hp] at hq; exact Option.some.inj hq
        have hcs : c.size = vs.length := hg rfl
        have hn2 : ei.size ≠ 0 := by intro h0; rw [h0] at hne2; cases hne2
        have hcount : c.size / P.cellsOf el = 1 := by rw [cellsOf_of F hei, hcs, hlen]; exact Nat.div_self (by omega)
        have hl : liesAt P P.depth el (c.size / P.cellsOf el) 0 u 1 = true := by
          rw [hcount]
          rw [List.any_eq_true] at hlies
          obtain ⟨q, hq1, hq2⟩ := hlies
          rw [Bool.and_eq_true] at hq2
          obtain ⟨q1, q2⟩ := q
          have e1 : q1 = el := Nat.eq_of_beq_eq_true hq2.1
          have e2 : q2 = u := Nat.eq_of_beq_eq_true hq2.2
          subst e1; subst e2
          exact F.lies _ _ hq1
        refine LOk.still S ?_ (RV_ptr hp)
        unfold convert
        refine SRun.bind0 (SRun.underlying (desc_uptr F hs)) ?_
        refine SRun.bind0 (SRun.underlying (desc_ptr F hd)) ?_
        unfold Conv.unsafePointer
        refine SRun.bind0 (SRun.underlying (desc_uptr F hs)) ?_
        refine SRun.bind0 (SRun.underlying (desc_ptr F hd)) ?_
        refine SRun.bind0 (SRun_seenAt hb) ?_
        refine SRun.bind0 (SRun_sizeOf (tt_of F ht)) ?_
        refine SRun.bind0 (SRun_variablesAt hb) ?_
        simp only [hl, Bool.or_true, if_true]
        exact SRun.pure _
      · cases e
    · cases e
  · rename_i e1 hs hd
    split at e
    · rename_i he1
      cases e
      refine ⟨_, _, rfl, ?_⟩
      unfold RV at hx; subst hx
      refine LOk.still S ?_ (v := .string ⟨#[]⟩) (by unfold RV; rfl)
      unfold convert
      refine SRun.bind0 (SRun.underlying (desc_slice F hs)) ?_
      refine SRun.bind0 (SRun.underlying (desc_str F hd)) ?_
      refine SRun.bind0 (SRun.underlying (desc_int F he1)) ?_
      exact SRun.pure _
    · cases e
  · rename_i e1 id off len cp hs hd
    split at e
    · rename_i he1
      split at e
      · rename_i vs hl
        cases hst : strOf vs with
        | none => rw [hst] at e; cases e
        | some sr =>
          rw [hst] at e; cases e
          refine ⟨_, _, rfl, ?_⟩
          have := bytesToString_ok (P := P) hP S hl hst hx
          obtain ⟨p, hp, cap, rfl, _⟩ := sl_inv hx
          unfold convert
          refine LOk.bind0 (SRun.underlying (desc_slice F hs)) ?_
          refine LOk.bind0 (SRun.underlying (desc_str F hd)) ?_
          refine LOk.bind0 (SRun.underlying (desc_int F he1)) ?_
          exact this
      · cases e
    · cases e
  · rename_i e1 a hs hd
    split at e
    · rename_i ti hti
      split at e
      · rename_i hk
        obtain ⟨hc, rfl⟩ := cond_some e
        refine ⟨_, _, rfl, ?_⟩
        obtain rfl := str_inv hx
        have he1 : E.d e1 = some (.int .u8) := by unfold Env.d; rw [hti]; simp [hk]
        have hsz : P.cellsOf e1 = 1 := by rw [cellsOf_of F hti]; exact Nat.eq_of_beq_eq_true hc
        unfold convert
        refine LOk.bind0 (SRun.underlying (desc_str F hs)) ?_
        refine LOk.bind0 (SRun.underlying (desc_slice F hd)) ?_
        refine LOk.bind0 (SRun.underlying (desc_int F he1)) ?_
        exact stringToBytes_ok hP.P S hsz
      · cases e
    · cases e
  · cases e
theorem Sat.refreeze (S : Sat K ι h w) {id : Nat} {p : Nat × Nat} (hp : ι id = some p) {vs : List AV} {el : TypeId} {g z : Bool} (ho : h.obj id = .cells vs el g z) {c : Array Value} {fz fz' : Nat × Nat} (hb : w.heap[p.1]? = some (.cells c el fz)) :
    Sat K ι (h.put id (.cells vs el g true)) { w with heap := w.heap.setIfInBounds p.1 (.cells c el fz') } := by
  obtain ⟨q, ob, hq, b1, b2, b3, hb', c', lo, hi, rfl, h1, h2, h3, h4⟩ := S.at ho trivial
  obtain rfl : p = q := by rw [hp] at hq; exact Option.some.inj hq
  rw [hb] at hb'; cases hb'
  exact S.putO hp (AH.obj_live ho trivial) trivial ⟨c, fz'.1, fz'.2, rfl, h1, h2, h3, fun h => by cases h⟩
theorem loadBytes_ok {b : Nat} {c : Array Value} {T : TypeId} {fz : Nat × Nat} (hb : w.heap[b]? = some (.cells c T fz)) : ∀ {l : List AV} {s : List UInt8} {off : Nat} {acc : ByteArray}, strOf l = some s → (∀ j a, l[j]? = some a → ∃ v, c[off + j]? = some v ∧ RV ι a v) →
    ∃ es, SRun P (loadBytes ⟨b, off, none⟩ acc l.length) w ⟨acc.data ++ s.toArray⟩ w es ∧ ∀ e ∈ es, ∃ o, e = ⟨.cell ⟨b, o, none⟩, false, false⟩
  | [], s, off, acc, e, hv => by
    unfold strOf at e; cases e
    refine ⟨[], ?_, by simp⟩
    have : (⟨acc.data ++ #[]⟩ : ByteArray) = acc := by simp
    rw [this]
    unfold loadBytes
    exact SRun.pure _
  | a :: l, s, off, acc, e, hv => by
    obtain ⟨n, r, rfl, hr, rfl⟩ := strOf_inv e
    obtain ⟨v, h1, h2⟩ := hv 0 _ rfl
    obtain rfl := int_inv h2
    obtain ⟨es, h3, h4⟩ := loadBytes_ok hb (off := off + 1) (acc := acc.push (UInt8.ofNat n.toNat)) hr (fun j a ha => by
      have := hv (j + 1) a (by simpa using ha)
      rw [show off + 1 + j = off + (j + 1) by omega]; exact this)
    refine ⟨[⟨.cell ⟨b, off, none⟩, false, false⟩] ++ es, ?_, ?_⟩
    · rw [List.length_cons, loadBytes]
      refine SRun.bind (SRun.load (v := .int .u8 n) (by rw [cell_of hb]; simpa using h1)) ?_
      rw [add_none]
      have e2 : (⟨(acc.push (UInt8.ofNat n.toNat)).data ++ r.toArray⟩ : ByteArray) = ⟨acc.data ++ (UInt8.ofNat n.toNat :: r).toArray⟩ := by
        congr 1
        apply Array.toList_inj.1
        simp [ByteArray.push]
      rw [e2] at h3
      exact h3
    · intro e' he'
      rcases List.mem_append.1 he' with h5 | h5
      · simp at h5; subst h5; exact ⟨off, rfl⟩
      · exact h4 e' h5
theorem liesAt_bytes {e : TypeId} {count off n : Nat} (hd : 1 ≤ P.depth) (hc : P.cellsOf e = 1) (hle : off + n ≤ count) : liesAt P P.depth e count off e n = true := by
  obtain ⟨d, hd'⟩ : ∃ d, P.depth = d + 1 := ⟨P.depth - 1, by omega⟩
  rw [hd', liesAt]
  rw [Bool.or_eq_true]
  left
  rw [hd', rowAt]
  simp only [hc]
  rw [if_neg (by decide)]
  rw [Bool.or_eq_true]
  left
  have hs : sameLayout P (d + 1) e e = true := by rw [sameLayout]; simp
  simp [hs]
  omega
theorem freeze_eq {b off n : Nat} {c : Array Value} {T : TypeId} {fz : Nat × Nat} (hb : w.heap[b]? = some (.cells c T fz)) (hn : n ≠ 0) :
    ∃ fz', w.freeze ⟨b, off, none⟩ n = { w with heap := w.heap.setIfInBounds b (.cells c T fz') } := by
  obtain ⟨lo, hi⟩ := fz
  refine ⟨if lo == hi then (off, off + n) else (min lo off, max hi (off + n)), ?_⟩
  unfold World.freeze
  rw [if_neg hn]
  congr 1
  apply Array.ext_getElem?
  intro i
  rw [Array.getElem?_modify]
  by_cases h : b = i
  · subst h
    obtain ⟨hlt, hb2⟩ := Array.getElem?_eq_some_iff.1 hb
    simp [hlt, hb2]
  · simp [h]
theorem byteT_of (F : Fits P E) {e : TypeId} (hb : byteT E e = true) : E.d e = some (.int .u8) ∧ P.cellsOf e = 1 := by
  unfold byteT at hb
  split at hb
  · rename_i ti hti
    split at hb
    · rename_i hk
      exact ⟨by unfold Env.d; rw [hti]; simp [hk], by rw [cellsOf_of F hti]; exact Nat.eq_of_beq_eq_true hb⟩
    · cases hb
  · cases hb
theorem unsafeStringA_ok (F : Fits P E) (hP : K.P = P) (S : Sat K ι h w) {pt tn ty : TypeId} {p n v : AV} {h' : AH} {vp vn : Value} (e : unsafeStringA E h pt p n = some (.val v h')) (hp : RV ι p vp) (hn : RV ι n vn) :
    LOk P K ι h w (Builtin.unsafeString_ #[pt, tn] ty #[vp, vn]) v h' := by
  unfold unsafeStringA at e
  split at e
  · rename_i k n'
    obtain ⟨h0, e⟩ := cond_some e
    cases e
    simp only [beq_iff_eq] at h0
    subst h0
    unfold RV at hp; subst hp
    obtain rfl := int_inv hn
    refine LOk.still S ?_ (v := .string ⟨#[]⟩) (by unfold RV; rfl)
    unfold Builtin.unsafeString_
    refine SRun.bind0 (a := 0) (SRun.pure _) ?_
    exact SRun.pure _
  · rename_i id off k n'
    split at e
    · rename_i el vs el2 g z hd ho
      · obtain ⟨hc, e'⟩ := condO_some e
        clear e
        have e := e'
        clear e'
        simp only [Bool.and_eq_true, decide_eq_true_eq] at hc
        obtain ⟨⟨⟨h4, h1⟩, h2⟩, h3⟩ := hc
        obtain rfl : el2 = el := Nat.eq_of_beq_eq_true h1
        split at e
        · rename_i c ht
          cases hs : strOf c with
          | none => rw [hs] at e; cases e
          | some s =>
            rw [hs] at e; cases e
            obtain ⟨q, hq, rfl⟩ := ptr_inv hp
            obtain rfl := int_inv hn
            obtain ⟨q', ob, hq', b1, b2, b3, hb, cc, lo, hi, rfl, ⟨l1, l2, hcc, hlr⟩, _⟩ := S.at ho trivial
            obtain rfl : q = q' := by rw [hq] at hq'; exact Option.some.inj hq'
            have hsz : P.cellsOf el2 = 1 := (byteT_of F h4).2
            obtain ⟨hcd, hcl⟩ := takeN_some ht
            have hclen : off + n'.toNat ≤ vs.length := by
              have := congrArg List.length hcd
              rw [hcl] at this
              simp at this; omega
            have hccs : vs.length ≤ cc.size := by
              have h5 := congrArg List.length hcc
              have h6 := hlr.length
              simp at h5; omega
            have hl : liesAt P P.depth el2 (cc.size / P.cellsOf el2) off el2 n'.toNat = true := liesAt_bytes F.depth hsz (by rw [hsz]; simp; omega)
            obtain ⟨es, g1, g2⟩ := loadBytes_ok (P := P) (ι := ι) hb (off := off) (acc := ByteArray.empty) hs (fun j a ha => by
              rw [hcd] at ha
              rw [List.getElem?_take] at ha
              split at ha
              · rw [List.getElem?_drop] at ha
                obtain ⟨v, hv1, hv2⟩ := hlr.get ha
                refine ⟨v, ?_, hv2⟩
                rw [← Array.getElem?_toList, hcc, List.getElem?_append_left]
                · exact hv1
                · rw [List.getElem?_eq_some_iff] at hv1; exact hv1.1
              · cases ha)
            rw [hcl] at g1
            have e2 : (⟨ByteArray.empty.data ++ s.toArray⟩ : ByteArray) = ⟨s.toArray⟩ := by
              show (⟨#[] ++ s.toArray⟩ : ByteArray) = _
              simp
            rw [e2] at g1
            have hge : ∀ e ∈ es, EvF K w.heap.size e := by
              intro e' he'
              obtain ⟨o, rfl⟩ := g2 e' he'
              exact ⟨.inl ⟨b1, b2⟩, b3⟩
            unfold Builtin.unsafeString_
            refine LOk.bind0 (x := n') (SRun.pure _) ?_
            have n1 : ¬ n' < 0 := by omega
            have n2 : ¬ n' > IntKind.i64.max := by simp only [IntKind.max, IntKind.bits, IntKind.signed]; omega
            have n3 : n' ≠ 0 := by omega
            have i1 : (#[pt, tn] : Array TypeId)[0]? = some pt := rfl
            simp only [i1, n1, n2, n3, if_false]
            refine LOk.bind0 (x := el2) ?_ ?_
            · unfold elemOf
              exact SRun.bind0 (SRun.underlying (desc_ptr F hd)) (SRun.pure _)
            refine LOk.bind0 (SRun_variablesAt hb) ?_
            simp only [hl, if_true]
            refine LOk.bindE g1 hge ?_
            obtain ⟨fz', hfz⟩ := freeze_eq (off := off) (n := n'.toNat) hb (by omega)
            intro hfr
            refine ⟨ι, _, .string ⟨s.toArray⟩, [], SRun.bind (e1 := []) (e2 := []) (SRun.freeze _ _) (SRun.pure _), by rw [AH.put_nx]; exact Grow.refl _ _, ?_, RV_str, ?_, AH.put_df⟩
            · rw [hfz]; exact S.refreeze hq ho hb
            · rw [hfz]; exact Fine.putO _ b1 b2 (by simp)
        · cases e
    · cases e
  · cases e
end
end Go.Ev
namespace Go.Ev
open Go.Conc (G)
def RI (ι : Nm) : AI → Item → Prop
  | .code c, i => i = .code c
  | .inBlock id, i => i = .inBlock id
  | .inLoop b, i => i = .inLoop b
  | .inScope b, i => i = .inScope b
  | .inRegion ops todo, i => ∃ k, todo = ops.toList.drop k ∧ i = .inRegion ops ((List.range ops.size).drop k)
  | .inRangeFunc id, i => ∃ p, ι id = some p ∧ i = .inRangeFunc p.1
  | .endRangeFunc id, i => ∃ p, ι id = some p ∧ i = .endRangeFunc p.1
  | .beginRound, i => i = .beginRound
  | .inDrawn ops n, i => ∃ rest, Left ops n rest ∧ i = .inRegion ops rest
def RIs (ι : Nm) : List AI → List Item → Prop
  | [], l => l = []
  | a :: as, l => ∃ i r, l = i :: r ∧ RI ι a i ∧ RIs ι as r
def RD (ι : Nm) (a : AD) (d : Deferred) : Prop :=
  match a.f with
  | .nilm => ∀ id, a.args = [.ptr id 0] → ∃ p, ι id = some p ∧ d = { target := .collected p.1, args := #[] }
  | .fn g first cap => ∃ fs as cs, RVs ι first fs ∧ RVs ι a.args as ∧ RVs ι cap cs.toList ∧ d = { target := .fn (.func g) cs, args := (fs ++ as).toArray }
  | _ => True
def RDs (ι : Nm) : List AD → List Deferred → Prop
  | [], l => l = []
  | a :: as, l => ∃ d r, l = d :: r ∧ RD ι a d ∧ RDs ι as r
structure RF (ι : Nm) (f : AF) (fr : Frame) : Prop where
  fn : fr.fn = f.x.fn
  tm : RT ι f.x.nt f.tm fr.tmps
  todo : RIs ι f.todo fr.todo
  ds : RDs ι f.ds fr.defers
  mode : fr.mode = if f.ret then .returning else .run
  kind : fr.kind = if f.x.deferred then .deferred else .normal
  round : match f.x.round with | none => fr.roundOf = none | some id => ∃ p, ι id = some p ∧ fr.roundOf = some p.1
section
variable {ι ι' : Nm}
theorem RI.mono (hE : Ext ι ι') {a : AI} {i : Item} (h : RI ι a i) : RI ι' a i := by
  cases a with
  | inRangeFunc id => obtain ⟨p, h1, h2⟩ := h; exact ⟨p, hE _ _ h1, h2⟩
  | endRangeFunc id => obtain ⟨p, h1, h2⟩ := h; exact ⟨p, hE _ _ h1, h2⟩
  | _ => exact h
theorem RIs.mono (hE : Ext ι ι') {l : List AI} {is : List Item} (h : RIs ι l is) : RIs ι' l is := by
  induction l generalizing is with
  | nil => exact h
  | cons a l ih => obtain ⟨i, r, h1, h2, h3⟩ := h; exact ⟨i, r, h1, h2.mono hE, ih h3⟩
theorem RD.mono (hE : Ext ι ι') {a : AD} {d : Deferred} (h : RD ι a d) : RD ι' a d := by
  unfold RD at h ⊢
  split at h
  · exact fun id hid => by obtain ⟨p, h1, h2⟩ := h id hid; exact ⟨p, hE _ _ h1, h2⟩
  · obtain ⟨fs, as, cs, h1, h2, h3, h4⟩ := h
    exact ⟨fs, as, cs, h1.mono hE, h2.mono hE, h3.mono hE, h4⟩
  · trivial
theorem RDs.mono (hE : Ext ι ι') {l : List AD} {ds : List Deferred} (h : RDs ι l ds) : RDs ι' l ds := by
  induction l generalizing ds with
  | nil => exact h
  | cons a l ih => obtain ⟨i, r, h1, h2, h3⟩ := h; exact ⟨i, r, h1, h2.mono hE, ih h3⟩
theorem RF.mono (hE : Ext ι ι') {f : AF} {fr : Frame} (h : RF ι f fr) : RF ι' f fr := by
  refine ⟨h.fn, h.tm.mono hE, h.todo.mono hE, h.ds.mono hE, h.mode, h.kind, ?_⟩
  have := h.round
  split at this
  · exact this
  · obtain ⟨p, h1, h2⟩ := this; exact ⟨p, hE _ _ h1, h2⟩
theorem RIs.cons {a : AI} {i : Item} {l : List AI} {is : List Item} (h : RI ι a i) (h' : RIs ι l is) : RIs ι (a :: l) (i :: is) := ⟨i, is, rfl, h, h'⟩
theorem RDs.append {l m : List AD} {ds es : List Deferred} (h : RDs ι l ds) (h' : RDs ι m es) : RDs ι (l ++ m) (ds ++ es) := by
  induction l generalizing ds with
  | nil =>
    have : ds = [] := h
    subst this; exact h'
  | cons a l ih => obtain ⟨d, r, rfl, h2, h3⟩ := h; exact ⟨d, _, rfl, h2, ih h3⟩
theorem exitA_ok {id : Nat} : ∀ {l : List AI} {is : List Item} {k : List AI}, exitA id l = some k → RIs ι l is → ∃ k', exitTo id is = some k' ∧ RIs ι k k'
  | [], _, _, e, _ => by cases e
  | a :: l, is, k, e, h => by
    obtain ⟨i, r, rfl, h1, h2⟩ := h
    cases a with
    | inBlock id' =>
      obtain rfl : i = .inBlock id' := h1
      simp only [exitA] at e
      rw [exitTo]
      cases hb : Nat.beq id' id with
      | true =>
        rw [hb] at e; simp only [cond_true, Option.some.injEq] at e
        subst e
        have : (id' == id) = true := by rw [← nat_beq]; exact hb
        rw [if_pos this]
        exact ⟨r, rfl, h2⟩
      | false =>
        rw [hb] at e; simp only [cond_false] at e
        have : ¬ (id' == id) = true := by rw [← nat_beq, hb]; simp
        rw [if_neg this]
        exact exitA_ok (l := l) (is := r) e h2
    | code c => obtain rfl : i = .code c := h1; exact exitA_ok (l := l) (is := r) e h2
    | inLoop c => obtain rfl : i = .inLoop c := h1; exact exitA_ok (l := l) (is := r) e h2
    | inScope c => obtain rfl : i = .inScope c := h1; exact exitA_ok (l := l) (is := r) e h2
    | inRegion ops td => obtain ⟨k', _, rfl⟩ := h1; exact exitA_ok (l := l) (is := r) e h2
    | inRangeFunc id' => obtain ⟨p, _, rfl⟩ := h1; exact exitA_ok (l := l) (is := r) e h2
    | endRangeFunc id' => obtain ⟨p, _, rfl⟩ := h1; exact exitA_ok (l := l) (is := r) e h2
    | beginRound => obtain rfl : i = .beginRound := h1; exact exitA_ok (l := l) (is := r) e h2
    | inDrawn ops n => obtain ⟨_, _, rfl⟩ := h1; exact exitA_ok (l := l) (is := r) e h2
theorem exitA_no {id : Nat} : ∀ {l : List AI} {is : List Item}, exitA id l = none → RIs ι l is → exitTo id is = none
  | [], is, _, h => by
    have : is = [] := h
    subst this; rfl
  | a :: l, is, e, h => by
    obtain ⟨i, r, rfl, h1, h2⟩ := h
    cases a with
    | inBlock id' =>
      obtain rfl : i = .inBlock id' := h1
      simp only [exitA] at e
      rw [exitTo]
      cases hb : Nat.beq id' id with
      | true => rw [hb] at e; cases e
      | false =>
        rw [hb] at e; simp only [cond_false] at e
        have : ¬ (id' == id) = true := by rw [← nat_beq, hb]; simp
        rw [if_neg this]
        exact exitA_no (l := l) (is := r) e h2
    | code c => obtain rfl : i = .code c := h1; exact exitA_no (l := l) (is := r) e h2
    | inLoop c => obtain rfl : i = .inLoop c := h1; exact exitA_no (l := l) (is := r) e h2
    | inScope c => obtain rfl : i = .inScope c := h1; exact exitA_no (l := l) (is := r) e h2
    | inRegion ops td => obtain ⟨k', _, rfl⟩ := h1; exact exitA_no (l := l) (is := r) e h2
    | inRangeFunc id' => obtain ⟨p, _, rfl⟩ := h1; exact exitA_no (l := l) (is := r) e h2
    | endRangeFunc id' => obtain ⟨p, _, rfl⟩ := h1; exact exitA_no (l := l) (is := r) e h2
    | beginRound => obtain rfl : i = .beginRound := h1; exact exitA_no (l := l) (is := r) e h2
    | inDrawn ops n => obtain ⟨_, _, rfl⟩ := h1; exact exitA_no (l := l) (is := r) e h2
theorem gotoA_ok {t : Nat} : ∀ {l : List AI} {is : List Item} {k : List AI}, gotoA t l = some k → RIs ι l is → ∃ k', gotoIn t is = some k' ∧ RIs ι k k'
  | [], _, _, e, _ => by cases e
  | a :: l, is, k, e, h => by
    obtain ⟨i, r, rfl, h1, h2⟩ := h
    cases a with
    | inScope c =>
      obtain rfl : i = .inScope c := h1
      simp only [gotoA] at e
      rw [gotoIn]
      split at e
      · rename_i rest hr
        simp only [Option.some.injEq] at e
        subst e
        simp only [hr]
        exact ⟨_, rfl, .cons rfl (.cons rfl h2)⟩
      · rename_i hr
        simp only [hr]
        exact gotoA_ok (l := l) (is := r) e h2
    | code c => obtain rfl : i = .code c := h1; exact gotoA_ok (l := l) (is := r) e h2
    | inLoop c => obtain rfl : i = .inLoop c := h1; exact gotoA_ok (l := l) (is := r) e h2
    | inBlock c => obtain rfl : i = .inBlock c := h1; exact gotoA_ok (l := l) (is := r) e h2
    | inRegion ops td => obtain ⟨k', _, rfl⟩ := h1; exact gotoA_ok (l := l) (is := r) e h2
    | inRangeFunc id' => obtain ⟨p, _, rfl⟩ := h1; exact gotoA_ok (l := l) (is := r) e h2
    | endRangeFunc id' => obtain ⟨p, _, rfl⟩ := h1; exact gotoA_ok (l := l) (is := r) e h2
    | beginRound => obtain rfl : i = .beginRound := h1; exact gotoA_ok (l := l) (is := r) e h2
    | inDrawn ops n => obtain ⟨_, _, rfl⟩ := h1; exact gotoA_ok (l := l) (is := r) e h2
theorem gotoA_no {t : Nat} : ∀ {l : List AI} {is : List Item}, gotoA t l = none → RIs ι l is → gotoIn t is = none
  | [], is, _, h => by
    have : is = [] := h
    subst this; rfl
  | a :: l, is, e, h => by
    obtain ⟨i, r, rfl, h1, h2⟩ := h
    cases a with
    | inScope c =>
      obtain rfl : i = .inScope c := h1
      simp only [gotoA] at e
      rw [gotoIn]
      split at e
      · cases e
      · rename_i hr
        simp only [hr]
        exact gotoA_no (l := l) (is := r) e h2
    | code c => obtain rfl : i = .code c := h1; exact gotoA_no (l := l) (is := r) e h2
    | inLoop c => obtain rfl : i = .inLoop c := h1; exact gotoA_no (l := l) (is := r) e h2
    | inBlock c => obtain rfl : i = .inBlock c := h1; exact gotoA_no (l := l) (is := r) e h2
    | inRegion ops td => obtain ⟨k', _, rfl⟩ := h1; exact gotoA_no (l := l) (is := r) e h2
    | inRangeFunc id' => obtain ⟨p, _, rfl⟩ := h1; exact gotoA_no (l := l) (is := r) e h2
    | endRangeFunc id' => obtain ⟨p, _, rfl⟩ := h1; exact gotoA_no (l := l) (is := r) e h2
    | beginRound => obtain rfl : i = .beginRound := h1; exact gotoA_no (l := l) (is := r) e h2
    | inDrawn ops n => obtain ⟨_, _, rfl⟩ := h1; exact gotoA_no (l := l) (is := r) e h2
end
def EvG (K : Ctx) (size : Nat) (e : Event) : Prop := EvF K size e ∨ e = ⟨.mark .disable, false, true⟩ ∨ e = ⟨.mark .enable, false, true⟩
structure FineG (K : Ctx) (w w' : World) (es : Array Event) : Prop where
  size : w.heap.size ≤ w'.heap.size
  kept : ∀ b, b < w.heap.size → ¬ (K.base ≤ b ∧ K.own b) → w'.heap[b]? = w.heap[b]?
  evs : ∀ e ∈ es, EvG K w'.heap.size e
  os : w'.os = w.os
  tape : w'.tape = w.tape
  output : w'.output = w.output
theorem deaf_cons (d : Nat) (e : Event) (l : List Event) : deafBehind d (e :: l).toArray = deafBehind (deafBehind d #[e]) l.toArray := by simp [deafBehind]
theorem deaf_still {es : Array Event} (h : ∀ e ∈ es, e.loc ≠ .mark .disable ∧ e.loc ≠ .mark .enable) (d : Nat) : deafBehind d es = d := by
  obtain ⟨l⟩ := es
  induction l with
  | nil => rfl
  | cons e l ih =>
    have he := h e (by simp)
    have h1 : deafBehind d #[e] = d := by
      obtain ⟨loc, wr, sy⟩ := e
      cases loc with
      | mark m => cases m <;> simp_all [deafBehind]
      | _ => simp [deafBehind]
    rw [deaf_cons, h1]
    exact ih (fun x hx => h x (by simp at hx ⊢; exact .inr hx))
theorem EvF.still {K : Ctx} {n : Nat} {e : Event} (h : EvF K n e) : e.loc ≠ .mark .disable ∧ e.loc ≠ .mark .enable := by
  obtain ⟨loc, wr, sy⟩ := e
  constructor <;> (intro hl; simp only at hl; subst hl; exact h)
theorem seen_still {P : Program} {fn : FuncId} {K : Ctx} {n : Nat} {es : List Event} (h : ∀ e ∈ es, EvF K n e) (d : Nat) : deafBehind d (seen P fn es.toArray) = d :=
  deaf_still (fun e he => (h e (by simpa using Conc.mem_seen he)).still) d
end Go.Ev
namespace Go.Ev
section
variable {P : Program} {K : Ctx} {ι : Nm} {h : AH} {w : World} {E : Env} {tm : Tr AV} {ρ : Operand → Value}
def Yields (ι : Nm) (v : AV) : Next → Prop
  | .value u => RV ι v u
  | .skip => RV ι v undef
  | _ => False
def VOk (P : Program) (K : Ctx) (ι : Nm) (h : AH) (w : World) (s : Sem Next) (v : AV) (h' : AH) : Prop := Free ι h.nx h'.nx →
  ∃ ι' w' nx es, SRun P s w nx w' es ∧ Grow ι ι' h.nx h'.nx ∧ Sat K ι' h' w' ∧ Yields ι' v nx ∧ Fine K w w' es ∧ h'.df = h.df
theorem LOk.next {s : Sem Value} {v : AV} {h' : AH} (h1 : LOk P K ι h w s v h') : VOk P K ι h w (do Pure.pure (.value (← s))) v h' := fun hf => by
  obtain ⟨ι', w', nv, es, h2, h3, h4, h5, h6, h7⟩ := h1 hf
  refine ⟨ι', w', .value nv, es, ?_, h3, h4, h5, h6, h7⟩
  have := SRun.bind h2 (SRun.pure (P := P) (w := w') (Next.value nv)) (f := fun v => Pure.pure (Next.value v))
  simpa using this
theorem UOk.next {s : Sem Unit} {v : AV} {h' : AH} (h1 : UOk P K ι h w s h' ∧ v = undefA) : VOk P K ι h w (do s; Pure.pure .skip) v h' := fun hf => by
  obtain ⟨ι', w', es, h2, h3, h4, h6, h7⟩ := h1.1 hf
  refine ⟨ι', w', .skip, es, ?_, h3, h4, ?_, h6, h7⟩
  · have := SRun.bind h2 (SRun.pure (P := P) (w := w') Next.skip) (f := fun _ => Pure.pure Next.skip)
    simpa using this
  · rw [h1.2]; exact RV_undef
def ROk (P : Program) (K : Ctx) (ι : Nm) (h : AH) (w : World) (s : Sem Next) : OR → Prop
  | .val v h' => VOk P K ι h w s v h'
  | .alts l => ∃ p ∈ l, VOk P K ι h w s p.1 p.2
  | .call g args => ∃ vs : Array Value, RVs ι args vs.toList ∧ ∀ e0, s.runT P w e0 = (callFunc g vs).runT P w e0
  | .yield id args => ∃ (p : Nat × Nat) (vs : Array Value), ι id = some p ∧ RVs ι args vs.toList ∧ ∀ e0, s.runT P w e0 = (Instr.yield p.1 vs).runT P w e0
  | .dfr a => ∃ d, SRun P s w (.defer d) w [] ∧ RD ι a d
  | .stop => True
theorem RVs_toArray {l : List AV} {vs : List Value} (h : RVs ι l vs) : RVs ι l vs.toArray.toList := by simpa using h
theorem map_val {α : Type} {x : Option α} {f : α → OR} {r : OR} (e : x.map f = some r) (hf : ∀ a, ∃ v h', f a = .val v h') : ∃ v h', r = .val v h' := by
  cases x with
  | none => cases e
  | some a => cases e; exact hf a
theorem allocA_val {t : TypeId} {r : OR} (e : allocA E h t = some r) : ∃ v h', r = .val v h' := by
  unfold allocA at e; split at e <;> cases e; exact ⟨_, _, rfl⟩
theorem boxA_val {t : TypeId} {x : AV} {r : OR} (e : boxA E h t x = some r) : ∃ v h', r = .val v h' := by
  unfold boxA at e; split at e
  · obtain ⟨_, e⟩ := cond_none_some e; cases e; exact ⟨_, _, rfl⟩
  · cases e
theorem buildSliceA_val {t : TypeId} {l : Nat} {ps : List (Nat × AV)} {r : OR} (e : buildSliceA E h t l ps = some r) : ∃ v h', r = .val v h' := by
  unfold buildSliceA at e; split at e
  · split at e
    · obtain ⟨_, e⟩ := cond_none_some e; exact map_val e fun a => ⟨_, _, rfl⟩
    · cases e
  · cases e
theorem storeA_val {t : TypeId} {a v : AV} {r : OR} (e : storeA E h t a v = some r) : ∃ v h', r = .val v h' := by
  unfold storeA at e; split at e
  · obtain ⟨_, e⟩ := cond_none_some e
    obtain ⟨_, e⟩ := condO_some e
    exact map_val e fun a => ⟨_, _, rfl⟩
  · cases e
theorem makeSliceA_val {t : TypeId} {l c : AV} {r : OR} (e : makeSliceA E h t l c = some r) : ∃ v h', r = .val v h' := by
  unfold makeSliceA at e; split at e
  · split at e
    · obtain ⟨_, rfl⟩ := cond_some e; exact ⟨_, _, rfl⟩
    · cases e
  · cases e
theorem makeMapA_val {t : TypeId} {x : Option AV} {r : OR} (e : makeMapA E h t x = some r) : ∃ v h', r = .val v h' := by
  unfold makeMapA at e; split at e
  · cases e; exact ⟨_, _, rfl⟩
  · split at e <;> cases e; exact ⟨_, _, rfl⟩
  · cases e
theorem mapUpdateA_val {t : TypeId} {m k x : AV} {r : OR} (e : mapUpdateA E h t m k x = some r) : ∃ v h', r = .val v h' := by
  unfold mapUpdateA at e; split at e
  · split at e
    · split at e <;> cases e <;> exact ⟨_, _, rfl⟩
    · cases e
  · cases e
theorem mapEntryA_val {t : TypeId} {m k : AV} {r : OR} (e : mapEntryA E h t m k = some r) : ∃ v h', r = .val v h' := by
  unfold mapEntryA at e; split at e
  · split at e
    · split at e
      · cases e
      · split at e <;> cases e; exact ⟨_, _, rfl⟩
      · cases e; exact ⟨_, _, rfl⟩
    · cases e
  · cases e
theorem entryStoreA_val {m s x : AV} {r : OR} (e : entryStoreA h m s x = some r) : ∃ v h', r = .val v h' := by
  unfold entryStoreA at e; split at e
  · split at e
    · split at e <;> cases e; exact ⟨_, _, rfl⟩
    · cases e
  · cases e
theorem rangeA_val {t : TypeId} {x : AV} {r : OR} (e : rangeA E h t x = some r) : ∃ v h', r = .val v h' := by
  unfold rangeA at e; split at e
  · cases e; exact ⟨_, _, rfl⟩
  · cases e; exact ⟨_, _, rfl⟩
  · split at e <;> cases e; exact ⟨_, _, rfl⟩
  · cases e
theorem deleteA_val {t : TypeId} {m k : AV} {r : OR} (e : deleteA E h t m k = some r) : ∃ v h', r = .val v h' := by
  unfold deleteA at e; split at e
  · obtain ⟨_, e⟩ := cond_some e
    exact ⟨_, _, e.symm⟩
  · split at e
    · split at e <;> cases e <;> exact ⟨_, _, rfl⟩
    · cases e
  · cases e
theorem clearA_val {t : TypeId} {m : AV} {r : OR} (e : clearA E h t m = some r) : ∃ v h', r = .val v h' := by
  unfold clearA at e; split at e
  · split at e <;> cases e; exact ⟨_, _, rfl⟩
  · cases e
theorem unsafeStringA_val {t : TypeId} {m k : AV} {r : OR} (e : unsafeStringA E h t m k = some r) : ∃ v h', r = .val v h' := by
  unfold unsafeStringA at e; split at e
  · obtain ⟨_, rfl⟩ := cond_some e; exact ⟨_, _, rfl⟩
  · split at e
    · obtain ⟨_, e⟩ := condO_some e
      split at e
      · exact map_val e fun a => ⟨_, _, rfl⟩
      · cases e
    · cases e
  · cases e
theorem loudB_ok (hP : Of K P E) (F : Fits P E) (S : Sat K ι h w) {b : Builtin} {as : List AV} {ts : List TypeId} {r : OR} {args : Array Value} {tys : Array TypeId} {ty : TypeId} {cs : Array Bool}
    (e : loudB E h b as ts = some r) (ha : RVs ι as args.toList) (ht : tys.toList = ts) : ROk P K ι h w (builtin b tys ty cs args) r := by
  obtain ⟨tys⟩ := tys
  obtain ⟨args⟩ := args
  simp only at ha ht
  subst ht
  unfold loudB at e
  split at e
  · split at e
    · rename_i s x t u
      obtain ⟨v1, r1, rfl, h1, h2⟩ := RVs_cons_inv ha
      obtain ⟨v2, r2, rfl, h3, h4⟩ := RVs_cons_inv h2
      obtain rfl := RVs_nil_inv h4
      cases ha : appendA E h t u (unS E s) (unS E x) with
      | none => rw [ha] at e; cases e
      | some p => rw [ha] at e; cases e; exact (appendA_ok F hP S ha (unS_ok S hP h1) (unS_ok S hP h3)).next
    · cases e
  · split at e
    · rename_i d s t ts'
      obtain ⟨v1, r1, rfl, h1, h2⟩ := RVs_cons_inv ha
      obtain ⟨v2, r2, rfl, h3, h4⟩ := RVs_cons_inv h2
      obtain rfl := RVs_nil_inv h4
      cases ha : copyA E h t (unS E d) (unS E s) with
      | none => rw [ha] at e; cases e
      | some p =>
        rw [ha] at e; cases e
        have := (copyA_ok (tx := t) (ty := ty) F hP S ha (unS_ok S hP h1) (unS_ok S hP h3)).next
        exact this
    · cases e
  · split at e
    · rename_i m k t ts'
      obtain ⟨v1, r1, rfl, h1, h2⟩ := RVs_cons_inv ha
      obtain ⟨v2, r2, rfl, h3, h4⟩ := RVs_cons_inv h2
      obtain rfl := RVs_nil_inv h4
      obtain ⟨v, h', rfl⟩ := deleteA_val e
      have := (deleteA_ok (ty := ty) F S e h1 h3).next
      exact this
    · cases e
  · split at e
    · rename_i m t ts'
      obtain ⟨v1, r1, rfl, h1, h2⟩ := RVs_cons_inv ha
      obtain rfl := RVs_nil_inv h2
      obtain ⟨v, h', rfl⟩ := clearA_val e
      have := (clearA_ok (ty := ty) F S e h1).next
      exact this
    · cases e
  · split at e
    · rename_i p n t ts'
      obtain ⟨v1, r1, rfl, h1, h2⟩ := RVs_cons_inv ha
      obtain ⟨v2, r2, rfl, h3, h4⟩ := RVs_cons_inv h2
      obtain rfl := RVs_nil_inv h4
      obtain ⟨v, h', rfl⟩ := unsafeStringA_val e
      have := (unsafeStringA_ok (tn := t) (ty := ty) F hP.P S e h1 h3).next
      exact this
    · cases e
  · cases e
theorem invokeA_val {r0 : AV} {m : String} {args : List AV} {r : OR} (e : invokeA E r0 m args = some r) : ∃ t v g, r0 = .iface t v ∧ (t, m, g) ∈ E.meth ∧ r = .call g (v :: args) := by
  unfold invokeA at e
  split at e
  · rename_i t v
    split at e
    · rename_i p hp
      cases e
      have h1 := List.find?_some hp
      have h2 := List.mem_of_find?_eq_some hp
      rw [Bool.and_eq_true] at h1
      obtain ⟨t', m', g⟩ := p
      have e1 : t' = t := Nat.eq_of_beq_eq_true h1.1
      have e2 : m' = m := by simpa using h1.2
      subst e1; subst e2
      exact ⟨_, _, _, rfl, h2, rfl⟩
    · cases e
  · cases e
theorem SRun.thenT {α β : Type} {s : Sem α} {a : α} {w1 : World} (h1 : SRun P s w a w1 []) (f : α → Sem β) (e0 : Array Event) : (s >>= f).runT P w e0 = (f a).runT P w1 e0 := by
  have : e0 ++ ([] : List Event).toArray = e0 := by simp
  rw [runT_bind, h1 e0, this]
theorem callA_ok (hP : Of K P E) (F : Fits P E) (S : Sat K ι h w) (hρ : ∀ x, RV ι (ev tm x) (ρ x)) {c : Call} {ty : TypeId} {r : OR} (e' : callA c E tm h = some r) : ROk P K ι h w (do let d ← resolve ρ c ty; invoke d.target d.args) r := by
  unfold callA at e'
  have hargs : RVs ι (evs tm c.args.toList) (c.args.map ρ).toList := by simpa using RVs_evs hρ c.args.toList
  split at e'
  · rename_i b hc
    have h1 := loudB_ok (ty := ty) (cs := c.args.map fun | .const _ => true | _ => false) (args := c.args.map ρ) (tys := c.argTypes) hP F S e' hargs rfl
    have hr : ∀ w, SRun P (resolve ρ c ty) w { target := .builtin b c.argTypes ty (c.args.map fun | .const _ => true | _ => false), args := c.args.map ρ } w [] := by
      intro w
      unfold resolve
      rw [hc]
      exact SRun.pure _
    have hrun : ∀ e0, ((do let d ← resolve ρ c ty; invoke d.target d.args) : Sem Next).runT P w e0 = (builtin b c.argTypes ty (c.args.map fun | .const _ => true | _ => false) (c.args.map ρ)).runT P w e0 := by
      intro e0
      rw [SRun.thenT (hr w)]
      rfl
    have conv : ∀ {v : AV} {h' : AH}, VOk P K ι h w (builtin b c.argTypes ty (c.args.map fun | .const _ => true | _ => false) (c.args.map ρ)) v h' → VOk P K ι h w (do let d ← resolve ρ c ty; invoke d.target d.args) v h' := by
      intro v h' hv hf
      obtain ⟨ι', w', nx, es, k1, k2⟩ := hv hf
      exact ⟨ι', w', nx, es, fun e0 => by rw [hrun e0]; exact k1 e0, k2⟩
    cases r with
    | val v h' => exact conv h1
    | alts l => obtain ⟨p, hp, h2⟩ := h1; exact ⟨p, hp, conv h2⟩
    | call g args => obtain ⟨vs, h2, h3⟩ := h1; exact ⟨vs, h2, fun e0 => by rw [hrun e0]; exact h3 e0⟩
    | yield id args => obtain ⟨p, vs, h2, h3, h4⟩ := h1; exact ⟨p, vs, h2, h3, fun e0 => by rw [hrun e0]; exact h4 e0⟩
    | dfr a =>
      obtain ⟨d, h2, h3⟩ := h1
      exact ⟨d, fun e0 => by rw [hrun e0]; exact h2 e0, h3⟩
    | stop => trivial
  · rename_i g hc
    have hg := hρ g
    unfold callV at e'
    split at e'
    · rename_i i first cap hv
      cases e'
      rw [hv] at hg
      obtain ⟨fs, cs, hgv, hf, hcp⟩ := fn_inv hg
      refine ⟨(fs ++ c.args.map ρ) ++ cs, ?_, fun e0 => ?_⟩
      · simp only [Array.toList_append]
        exact (hf.append hargs).append hcp
      · have hr : SRun P (resolve ρ c ty) w { target := .fn (.func i) cs, args := fs ++ c.args.map ρ } w [] := by
          unfold resolve
          rw [hc]
          simp only [hgv]
          exact SRun.pure _
        rw [SRun.thenT hr]
        rfl
    · rename_i l hv
      cases e'
      rw [hv] at hg
      unfold RV at hg
      obtain ⟨p, hp, hgv⟩ := hg
      refine ⟨p, c.args.map ρ, hp, hargs, fun e0 => ?_⟩
      have hr : SRun P (resolve ρ c ty) w { target := .fn (.yield p.1) #[], args := #[] ++ c.args.map ρ } w [] := by
        unfold resolve
        rw [hc]
        simp only [hgv]
        exact SRun.pure _
      rw [SRun.thenT hr]
      have : (#[] : Array Value) ++ c.args.map ρ = c.args.map ρ := by simp
      rw [this]
      rfl
    · cases e'
  · rename_i r0 m hc
    obtain ⟨t, v, g, hr0, hm, rfl⟩ := invokeA_val e'
    have hr := hρ r0
    rw [hr0] at hr
    obtain ⟨u, hu, hv⟩ := iface_inv hr
    refine ⟨#[u] ++ c.args.map ρ, ?_, fun e0 => ?_⟩
    · simp only [Array.toList_append]
      exact RVs_cons hv hargs
    · have hrs : SRun P (resolve ρ c ty) w { target := .fn (.method m) #[], args := #[.iface t u] ++ c.args.map ρ } w [] := by
        unfold resolve
        rw [hc]
        simp only [hu]
        exact SRun.pure _
      rw [SRun.thenT hrs]
      have h1 : (#[Value.iface t u] ++ c.args.map ρ)[0]? = some (.iface t u) := by rw [Array.getElem?_append_left (by simp)]; rfl
      have h2 : (#[Value.iface t u] ++ c.args.map ρ).extract 1 (#[Value.iface t u] ++ c.args.map ρ).size = c.args.map ρ := by
        apply Array.toList_inj.1; simp
        exact List.take_of_length_le (by simp)
      have hinv : invoke (.fn (.method m) #[]) (#[.iface t u] ++ c.args.map ρ) = callMethod (.iface t u) m (c.args.map ρ) := by
        unfold invoke
        simp only [h1]
        rw [h2]
      simp only
      rw [hinv]
      unfold callMethod
      simp only
      rw [SRun.thenT SRun.program, SRun.thenT (F.meth t m g hm u w)]
set_option maxHeartbeats 2000000 in
theorem loud_ok (hP : Of K P E) (F : Fits P E) (S : Sat K ι h w) (hρ : ∀ x, RV ι (ev tm x) (ρ x)) {o : Oper} {r : OR} (e : loudOp o.op E tm h = some r) : ROk P K ι h w (execOp ρ o) r := by
  unfold execOp
  cases ho : o.op <;> rw [ho] at e
  case alloc t =>
    have e' : allocA E h t = some r := e
    obtain ⟨v, h', rfl⟩ := allocA_val e'
    exact (allocA_ok F S e').next
  case box t x =>
    have e' : boxA E h t (ev tm x) = some r := e
    obtain ⟨v, h', rfl⟩ := boxA_val e'
    exact (boxA_ok S e' (hρ x)).next
  case buildSlice t l ps =>
    have e' : buildSliceA E h t l (evp tm ps.toList) = some r := e
    obtain ⟨v, h', rfl⟩ := buildSliceA_val e'
    have hps : RVp ι (evp tm ps.toList) (ps.map fun (i, x) => (i, ρ x)).toList := by
      have := RVp_evp hρ ps.toList
      simpa using this
    exact (buildSliceA_ok (vs := ps.map fun (i, x) => (i, ρ x)) F S e' hps).next
  case store t a x =>
    have e' : storeA E h t (ev tm a) (ev tm x) = some r := e
    obtain ⟨v, h', rfl⟩ := storeA_val e'
    exact UOk.next (storeA_ok F S e' (hρ a) (hρ x))
  case insert t m k x =>
    have e' : mapUpdateA E h t (ev tm m) (ev tm k) (ev tm x) = some r := e
    obtain ⟨v, h', rfl⟩ := mapUpdateA_val e'
    exact UOk.next (mapUpdateA_ok F S e' (hρ m) (hρ k) (hρ x))
  case mapUpdate t m k x =>
    have e' : mapUpdateA E h t (ev tm m) (ev tm k) (ev tm x) = some r := e
    obtain ⟨v, h', rfl⟩ := mapUpdateA_val e'
    exact UOk.next (mapUpdateA_ok F S e' (hρ m) (hρ k) (hρ x))
  case mapEntry t m k =>
    have e' : mapEntryA E h t (ev tm m) (ev tm k) = some r := e
    obtain ⟨v, h', rfl⟩ := mapEntryA_val e'
    exact (mapEntryA_ok F S e' (hρ m) (hρ k)).next
  case entryStore t m s x =>
    have e' : entryStoreA h (ev tm m) (ev tm s) (ev tm x) = some r := e
    obtain ⟨v, h', rfl⟩ := entryStoreA_val e'
    exact UOk.next (entryStoreA_ok S e' (hρ m) (hρ s) (hρ x))
  case convert s d x =>
    have e' : convA E s d (ev tm x) h = some r := e
    obtain ⟨v, h', rfl, h1⟩ := convA_ok F hP S e' (hρ x)
    exact h1.next
  case makeMap t x =>
    have e' : makeMapA E h t (evo tm x) = some r := e
    obtain ⟨v, h', rfl⟩ := makeMapA_val e'
    exact (makeMapA_ok F S e' (RVo_evo hρ x)).next
  case makeSlice t l c =>
    have e' : makeSliceA E h t (ev tm l) (ev tm c) = some r := e
    obtain ⟨v, h', rfl⟩ := makeSliceA_val e'
    exact (makeSliceA_ok F S e' (hρ l) (hρ c)).next
  case range t x =>
    have e' : rangeA E h t (ev tm x) = some r := e
    obtain ⟨v, h', rfl⟩ := rangeA_val e'
    exact (rangeA_ok F S e' (hρ x)).next
  case next it isS =>
    have e' : nextA h (ev tm it) isS = some r := e
    have := nextA_ok (P := P) (ty := o.type) S e' (hρ it)
    cases r with
    | val v h' =>
      have h1 : LOk P K ι h w _ _ _ := this
      exact h1.next
    | alts l =>
      obtain ⟨p, hp, h1⟩ := this
      exact ⟨p, hp, h1.next⟩
    | _ => exact this.elim
  case call c => exact callA_ok (ty := o.type) hP F S hρ e
  case go c => cases e; trivial
  case defer c =>
    have e' : (match c.callee with
      | .value g => (match ev tm g with
        | .fn f a b => some (OR.dfr ⟨.fn f a b, evs tm c.args.toList⟩)
        | _ => none)
      | _ => none) = some r := e
    split at e'
    · rename_i g hc
      split at e'
      · rename_i f a b hv
        cases e'
        have hg := hρ g
        rw [hv] at hg
        obtain ⟨fs, cs, hgv, hf, hcp⟩ := fn_inv hg
        have hargs : RVs ι (evs tm c.args.toList) (c.args.map ρ).toList := by simpa using RVs_evs hρ c.args.toList
        refine ⟨{ target := .fn (.func f) cs, args := fs ++ c.args.map ρ }, ?_, fs.toList, (c.args.map ρ).toList, cs, hf, hargs, hcp, by simp⟩
        refine SRun.bind0 (a := { target := .fn (.func f) cs, args := fs ++ c.args.map ρ }) ?_ (SRun.pure _)
        unfold resolve
        rw [hc]
        simp only [hgv]
        exact SRun.pure _
      · cases e'
    · cases e'
  all_goals (cases e)
end
end Go.Ev
namespace Go.Ev
open Go.Conc (G)
def EOk (P : Program) (K : Ctx) (ι : Nm) (h : AH) (w : World) (s : Sem Next) (v : AV) (h' : AH) : Prop := Free ι h.nx h'.nx →
  ∃ ι' w' nx es, SRun P s w nx w' es ∧ Grow ι ι' h.nx h'.nx ∧ Sat K ι' h' w' ∧ Yields ι' v nx ∧ (∀ fn, FineG K w w' (seen P fn es.toArray) ∧ deafBehind h.df (seen P fn es.toArray) = h'.df)
structure FitsF (P : Program) (E : Env) : Prop where
  code : ∀ g c n rs x, E.ft.get g = some ⟨some c, n, rs, x⟩ → ∃ fn, P.funcs[g]? = some fn ∧ fn.body = some c ∧ fn.ntmps = n ∧ fn.results.toList = rs ∧ (fn.name == "runtime.NumGoroutine") = false
  ext : ∀ g n rs x, E.ft.get g = some ⟨none, n, rs, x⟩ → ∀ (K : Ctx) ι h w args (vs : Array Value) v h', Of K P E → Sat K ι h w → RVs ι args vs.toList → extA x args h = some (.val v h') → EOk P K ι h w (callFunc g vs) v h'
  mixed : P.follows .mixedOrders = true
  recov : P.follows .rangeFuncRecover = P.follows .rangeFuncRecover
section
variable {P : Program} {main : Bool} {K : Ctx} {ι : Nm} {h : AH} {w : World} {E : Env}
theorem Sat.fineG {w' : World} {h' : AH} {ι' : Nm} (S : Sat K ι h w) (S' : Sat K ι' h' w') {es : List Event} (hf : Fine K w w' es) (fn : FuncId) : FineG K w w' (seen P fn es.toArray) :=
  ⟨hf.size, hf.kept, fun e he => .inl (hf.evs e (by simpa using Conc.mem_seen he)), S'.os.trans S.os.symm, S'.tape.trans S.tape.symm, S'.output.trans S.output.symm⟩
theorem FineG.refl (w : World) : FineG K w w #[] := ⟨Nat.le_refl _, fun _ _ _ => rfl, by simp, rfl, rfl, rfl⟩
theorem FineG.drawn (w : World) (d : Nat) : FineG K w { w with drawn := d } #[] := ⟨Nat.le_refl _, fun _ _ _ => rfl, by simp, rfl, rfl, rfl⟩
theorem VOk.ext {s : Sem Next} {v : AV} {h' : AH} (S : Sat K ι h w) (hv : VOk P K ι h w s v h') : EOk P K ι h w s v h' := fun hf => by
  obtain ⟨ι', w', nx, es, h1, h2, h3, h4, h5, h6⟩ := hv hf
  exact ⟨ι', w', nx, es, h1, h2, h3, h4, fun fn => ⟨S.fineG h3 h5 fn, by rw [seen_still h5.evs, h6]⟩⟩
theorem NOk.ext {s : Sem Next} {v : AV} (S : Sat K ι h w) (hv : NOk P K ι w s v) : EOk P K ι h w s v h := fun _ => by
  obtain ⟨u, es, h1, h2, h3⟩ := hv
  exact ⟨ι, w, .value u, es, h1, Grow.refl _ _, S, h2, fun fn => ⟨S.fineG S (Fine.refl K w h3) fn, by rw [seen_still h3]⟩⟩
def yv : Next → Value
  | .value v => v
  | _ => undef
def Waits (ι : Nm) (f : AF) (dst : Option Tmp) (fr : Frame) : Prop :=
  ∀ ι' v u, Ext ι ι' → RV ι' v u → RF ι' ⟨f.x, fin f.x dst v f.tm, f.todo, f.ds, false⟩ (fr.finish u)
structure AtOp (ι : Nm) (x : AX) (tm : Tr AV) (ds : List AD) (ops : Array Oper) (i : Nat) (rest : List Nat) (k' : List Item) (fr : Frame) : Prop where
  fn : fr.fn = x.fn
  tm : RT ι x.nt tm fr.tmps
  todo : fr.todo = .inRegion ops (i :: rest) :: k'
  ds : RDs ι ds fr.defers
  mode : fr.mode = .run
  kind : fr.kind = if x.deferred then .deferred else .normal
  round : match x.round with | none => fr.roundOf = none | some id => ∃ p, ι id = some p ∧ fr.roundOf = some p.1
structure AtRest (ι : Nm) (x : AX) (tm : Tr AV) (ds : List AD) (ops : Array Oper) (rest : List Nat) (k' : List Item) (fr : Frame) : Prop where
  fn : fr.fn = x.fn
  tm : RT ι x.nt tm fr.tmps
  todo : fr.todo = .inRegion ops rest :: k'
  ds : RDs ι ds fr.defers
  mode : fr.mode = .run
  kind : fr.kind = if x.deferred then .deferred else .normal
  round : match x.round with | none => fr.roundOf = none | some id => ∃ p, ι id = some p ∧ fr.roundOf = some p.1
theorem round_mono {ι' : Nm} (hE : Ext ι ι') {x : AX} {r : Option Nat} (h : match x.round with | none => r = none | some id => ∃ p, ι id = some p ∧ r = some p.1) :
    match x.round with | none => r = none | some id => ∃ p, ι' id = some p ∧ r = some p.1 := by
  split at h
  · exact h
  · obtain ⟨p, h1, h2⟩ := h; exact ⟨p, hE _ _ h1, h2⟩
theorem fin_put {ι : Nm} {x : AX} {tm : Tr AV} {tmps : Array Value} (h : RT ι x.nt tm tmps) (d : Option Tmp) {v : AV} {u : Value} (hv : RV ι v u) :
    RT ι x.nt (fin x d v tm) (match d with | some d => tmps.setIfInBounds d u | none => tmps) := by
  cases d with
  | none => exact h
  | some d => exact h.put hv
theorem AtOp.finish {x : AX} {tm : Tr AV} {ds : List AD} {ops : Array Oper} {i : Nat} {rest : List Nat} {k' : List Item} {fr : Frame} (H : AtOp ι x tm ds ops i rest k' fr) {o : Oper} (ho : ops[i]? = some o)
    {ι' : Nm} (hE : Ext ι ι') {v : AV} {u : Value} (hv : RV ι' v u) : AtRest ι' x (fin x o.dst v tm) ds ops rest k' (fr.finish u) := by
  have hd : (ops[i]?).bind (·.dst) = o.dst := by rw [ho]; rfl
  unfold Frame.finish
  rw [H.todo]
  simp only [hd]
  refine ⟨H.fn, ?_, rfl, H.ds.mono hE, H.mode, H.kind, round_mono hE H.round⟩
  exact fin_put (H.tm.mono hE) o.dst hv
theorem step_none {x : AX} {tm : Tr AV} {ds : List AD} {ops : Array Oper} {i : Nat} {rest : List Nat} {k' : List Item} {fr : Frame} {cs : List Frame} (H : AtOp ι x tm ds ops i rest k' fr)
    (hw : ∀ o, ops[i]? = some o → Region.wanted o (yielded ops fr.tmps) = false) : stepG P main (G fr cs) w = .go (G (fr.finish undef) cs) w #[] := by
  have hm := H.mode
  have ht := H.todo
  have : ((ops[i]?).map (Region.wanted · (yielded ops fr.tmps))).getD false = false := by
    cases ho : ops[i]? with
    | none => rfl
    | some o => simp [hw o ho]
  simp [G, stepG, hm, stepG.exec, ht, this]
theorem step_oper {x : AX} {tm : Tr AV} {ds : List AD} {ops : Array Oper} {i : Nat} {rest : List Nat} {k' : List Item} {fr : Frame} {cs : List Frame} (H : AtOp ι x tm ds ops i rest k' fr) {o : Oper} (ho : ops[i]? = some o)
    (hw : Region.wanted o (yielded ops fr.tmps) = true) (hd : fr.roundOf = none ∨ ∀ c, o.op ≠ .defer c) : stepG P main (G fr cs) w = stepG.apply P true fr cs none (execOp fr.eval o) w := by
  have hm := H.mode
  have ht := H.todo
  have h1 : ((ops[i]?).map (Region.wanted · (yielded ops fr.tmps))).getD false = true := by simp [ho, hw]
  have h2 : fr.oper? = some o := by unfold Frame.oper?; rw [ht]; exact ho
  have h3 : stepG.oper P true fr cs none w = stepG.apply P true fr cs none (execOp fr.eval o) w := by
    unfold stepG.oper
    rw [h2]
    simp only
    rcases hd with hd | hd
    · rw [hd]
    · cases hr : fr.roundOf with
      | none => rfl
      | some l =>
        cases hop : o.op <;> first
          | rfl
          | exact absurd hop (hd _)
  have h4 : stepG P main (G fr cs) w = stepG.exec P main true fr cs none w := by
    simp [G, stepG, hm]
  rw [h4]
  unfold stepG.exec
  simp only [ht]
  rw [if_pos h1]
  exact h3
theorem kind_not_early {x : AX} {k : CallKind} (hk : k = if x.deferred then .deferred else .normal) : (k == CallKind.early) = false := by
  subst hk; cases x.deferred <;> rfl
theorem apply_yields {x : AX} {tm : Tr AV} {ds : List AD} {ops : Array Oper} {i : Nat} {rest : List Nat} {k' : List Item} {fr : Frame} {cs : List Frame} (H : AtOp ι x tm ds ops i rest k' fr) {s : Sem Next} {nx : Next} {w' : World} {es : List Event}
    (hs : SRun P s w nx w' es) {v : AV} {ι' : Nm} (hy : Yields ι' v nx) : stepG.apply P true fr cs none s w = .go (G (fr.finish (yv nx)) cs) w' (seen P fr.fn es.toArray) := by
  have hk := kind_not_early H.kind
  have hr := hs #[]
  simp only [Array.empty_append] at hr
  unfold stepG.apply
  simp only [if_true, hr, hk]
  cases nx with
  | value u => simp [GStep.after, G, yv]
  | skip => simp [GStep.after, G, yv]
  | _ => exact hy.elim
theorem apply_thenT {fr : Frame} {cs : List Frame} {s s' : Sem Next} (h : s.runT P w #[] = s'.runT P w #[]) : stepG.apply P true fr cs none s w = stepG.apply P true fr cs none s' w := by
  unfold stepG.apply
  simp only [if_true, h]
theorem Yields.rv {v : AV} {nx : Next} (h : Yields ι v nx) : RV ι v (yv nx) := by
  cases nx <;> first | exact h | exact h.elim
end
end Go.Ev
namespace Go.Ev
open Go.Conc (G)
section
variable {P : Program} {main : Bool} {K : Ctx} {ι : Nm} {h : AH} {w : World} {E : Env}
theorem getD_some {tmps : Array Value} {d : Nat} {v : Value} (h : tmps.getD d undef = v) (hne : v ≠ undef) : tmps[d]? = some v := by
  rw [Array.getD_eq_getD_getElem?] at h
  cases hd : tmps[d]? with
  | none => rw [hd] at h; exact absurd h.symm hne
  | some x => rw [hd] at h; exact congrArg some h
theorem wanted_ok {o : Oper} {ops : Array Oper} {nt : Nat} {tm : Tr AV} {tmps : Array Value} (hT : RT ι nt tm tmps) {b : Bool} (e : wantedA o ops tm = some b) : Region.wanted o (yielded ops tmps) = b := by
  unfold wantedA at e
  unfold Region.wanted
  split at e
  · rename_i hg; rw [hg]; exact Option.some.inj e
  · rename_i p hg
    rw [hg]
    obtain ⟨j, want⟩ := p
    simp only at e ⊢
    unfold guardA at e
    unfold yielded
    split at e
    · rename_i hj; rw [hj]; cases e; rfl
    · rename_i oj hj
      rw [hj]
      simp only [Option.bind_some]
      split at e
      · rename_i hd; rw [hd]; cases e; rfl
      · rename_i d hd
        rw [hd]
        simp only [Option.bind_some]
        split at e
        · rename_i b' ht
          have hv := hT.2 d _ ht
          unfold RV at hv
          have := getD_some hv (by unfold undef; simp)
          rw [this]
          cases e
          cases want <;> cases b' <;> rfl
        · rename_i ht
          have hv := hT.2 d _ ht
          unfold RV at hv
          obtain ⟨cs, hv, hn⟩ := hv
          have hn' := RVs_nil_inv hn
          cases e
          rw [Array.getD_eq_getD_getElem?] at hv
          cases hx : tmps[d]? with
          | none => rfl
          | some x =>
            rw [hx] at hv
            have : x = .tuple cs := hv
            subst this
            rfl
        · cases e
def GoTo (P : Program) (main : Bool) (K : Ctx) (ι : Nm) (h : AH) (w : World) (fr : Frame) (cs : List Frame) (T : Nm → Frame → Prop) (h' : AH) : Prop := Free ι h.nx h'.nx →
  ∃ ι' fr' w' es, stepG P main (G fr cs) w = .go (G fr' cs) w' es ∧ Grow ι ι' h.nx h'.nx ∧ Sat K ι' h' w' ∧ T ι' fr' ∧ FineG K w w' es ∧ deafBehind h.df es = h'.df
theorem GoTo.mono {fr : Frame} {cs : List Frame} {T T' : Nm → Frame → Prop} {h' : AH} (hT : ∀ ι' fr', T ι' fr' → T' ι' fr') (H : GoTo P main K ι h w fr cs T h') : GoTo P main K ι h w fr cs T' h' := fun hf => by
  obtain ⟨ι', fr', w', es, h1, h2, h3, h4, h5⟩ := H hf
  exact ⟨ι', fr', w', es, h1, h2, h3, hT _ _ h4, h5⟩
def CallTo (P : Program) (main : Bool) (K : Ctx) (ι : Nm) (h : AH) (w : World) (fr : Frame) (cs : List Frame) (W : Nm → Frame → Prop) (g : FuncId) (args : List AV) (kind : CallKind) (h' : AH) : Prop := Free ι h.nx h'.nx →
  ∃ ι' fr' vs w' es, stepG P main (G fr cs) w = .go (G (Frame.enter P g vs kind) (fr' :: cs)) w' es ∧ Grow ι ι' h.nx h'.nx ∧ Sat K ι' h' w' ∧ RVs ι' args vs.toList ∧ W ι' fr' ∧ FineG K w w' es ∧ deafBehind h.df es = h'.df
def RoundTo (P : Program) (main : Bool) (K : Ctx) (ι : Nm) (w : World) (fr : Frame) (cs : List Frame) (id : Nat) (args : List AV) (h : AH) : Prop :=
  ∀ g, roundA h id args = some g → ∃ fr2 es, stepG P main (G fr cs) w = .go (G fr2 (fr :: cs)) w es ∧ FineG K w w es ∧ deafBehind h.df es = h.df ∧ RF ι g fr2
def WaitsR (f : AF) (dst : Option Tmp) : Nm → Frame → Prop := fun ι fr => Waits ι f dst fr
theorem RT_setPs {nt : Nat} : ∀ {ps : List Nat} {args : List AV} {vs : List Value} {tm : Tr AV} {tmps : Array Value}, RT ι nt tm tmps → RVs ι args vs →
    RT ι nt (setPs (ps.zip args) nt tm) ((ps.zip vs).foldl (fun tmps (t, a) => tmps.setIfInBounds t a) tmps)
  | [], _, _, _, _, h, _ => h
  | p :: ps, [], vs, _, _, h, ha => by
    rw [RVs_nil_inv ha]; exact h
  | p :: ps, a :: l, vs, _, _, h, ha => by
    obtain ⟨v, r, rfl, h1, h2⟩ := RVs_cons_inv ha
    exact RT_setPs (ps := ps) (h.put h1) h2
section op
variable {x : AX} {tm : Tr AV} {ds : List AD} {ops : Array Oper} {i : Nat} {rest : List Nat} {k' : List Item} {fr : Frame} {cs : List Frame} {o : Oper}
theorem op_yields (S : Sat K ι h w) (H : AtOp ι x tm ds ops i rest k' fr) (ho : ops[i]? = some o) (hw : Region.wanted o (yielded ops fr.tmps) = true) (hd : fr.roundOf = none ∨ ∀ c, o.op ≠ .defer c)
    {s : Sem Next} (hs : (execOp fr.eval o).runT P w #[] = s.runT P w #[]) {v : AV} {h' : AH} (hv : EOk P K ι h w s v h') (hf0 : True) :
    Free ι h.nx h'.nx → ∃ ι' u w' es, stepG P main (G fr cs) w = .go (G (fr.finish u) cs) w' es ∧ Grow ι ι' h.nx h'.nx ∧ Sat K ι' h' w' ∧ RV ι' v u ∧ FineG K w w' es ∧ deafBehind h.df es = h'.df := fun hf => by
  obtain ⟨ι', w', nx, es, h1, h2, h3, h4, h5⟩ := hv hf
  refine ⟨ι', yv nx, w', seen P fr.fn es.toArray, ?_, h2, h3, h4.rv, (h5 fr.fn).1, (h5 fr.fn).2⟩
  rw [step_oper H ho hw hd, apply_thenT hs]
  exact apply_yields H h1 h4
theorem callFunc_enter {g : FuncId} {vs : Array Value} {fn : Func} (hg : P.funcs[g]? = some fn) (hb : fn.body.isSome = true) (hn : (fn.name == "runtime.NumGoroutine") = false) : SRun P (callFunc g vs) w (.enter g vs) w [] := by
  unfold callFunc
  refine SRun.bind0 SRun.program ?_
  simp only [hg, hn]
  have : fn.body.isNone = false := by cases hb' : fn.body <;> simp_all
  simp only [this]
  exact SRun.pure _
theorem op_enters (FF : FitsF P E) (H : AtOp ι x tm ds ops i rest k' fr) (ho : ops[i]? = some o) (hw : Region.wanted o (yielded ops fr.tmps) = true) (hd : fr.roundOf = none ∨ ∀ c, o.op ≠ .defer c)
    {g : FuncId} {vs : Array Value} (hs : (execOp fr.eval o).runT P w #[] = (callFunc g vs).runT P w #[]) {c : Code} {n : Nat} {rs : List ResultVar} {e : EX} (hg : E.ft.get g = some ⟨some c, n, rs, e⟩) :
    stepG P main (G fr cs) w = .go (G (Frame.enter P g vs .normal) (fr :: cs)) w #[] := by
  obtain ⟨fn, h1, h2, _, _, h5⟩ := FF.code g c n rs e hg
  have hr := callFunc_enter (w := w) (vs := vs) h1 (by rw [h2]; rfl) h5 #[]
  rw [step_oper H ho hw hd, apply_thenT hs]
  have hk := kind_not_early H.kind
  unfold stepG.apply
  simp only [if_true, hr, hk, H.todo]
  simp [GStep.after, G, seen]
theorem op_rounds (S : Sat K ι h w) (H : AtOp ι x tm ds ops i rest k' fr) (ho : ops[i]? = some o) (hw : Region.wanted o (yielded ops fr.tmps) = true) (hd : fr.roundOf = none ∨ ∀ c, o.op ≠ .defer c)
    {id : Nat} {args : List AV} {p : Nat × Nat} {vs : Array Value} (hp : ι id = some p) (ha : RVs ι args vs.toList) (hs : (execOp fr.eval o).runT P w #[] = (Instr.yield p.1 vs).runT P w #[]) : RoundTo P main K ι w fr cs id args h := fun g hg => by
  unfold roundA at hg
  split at hg
  · rename_i st pd fn nt tm' ps a b d hobj
    obtain ⟨p', ob, hp', hb1, hb2, hb3, hb4, hb5⟩ := S.at hobj trivial
    obtain rfl : p = p' := by rw [hp] at hp'; exact Option.some.inj hp'
    obtain ⟨q, hq, L, rfl, e1, e2, e3, e4, e5, e6, e7, e8⟩ := hb5
    cases hl : Nat.beq args.length ps.length with
    | false => rw [hl] at hg; cases hg
    | true =>
      rw [hl] at hg
      simp only [cond_true, Option.some.injEq] at hg
      subst hg
      have hlen : vs.size = L.params.size := by
        have h1 := Nat.eq_of_beq_eq_true hl
        have h2 := ha.length
        rw [← e5] at h1
        simp at h1 h2; omega
      have hrun : SRun P (Instr.yield p.1 vs) w (.round p.1 L.fn ((L.params.zip vs).foldl (fun tmps (t, a) => tmps.setIfInBounds t a) L.tmps) L.assign L.body) w [⟨.obj p.1, false, false⟩] := by
        unfold Instr.yield
        refine SRun.bind (w1 := w) (e2 := []) (e1 := [⟨.obj p.1, false, false⟩]) (a := L) ?_ ?_
        · unfold Instr.getLoop
          have := SRun.getObj (P := P) hb4 (by simp)
          refine SRun.bind (w1 := w) (e2 := []) (e1 := [⟨.obj p.1, false, false⟩]) this ?_
          exact SRun.pure _
        · simp only [hlen, ne_eq, not_true_eq_false, if_false]
          exact SRun.pure _
      have hE : ∀ e ∈ [(⟨.obj p.1, false, false⟩ : Event)], EvF K w.heap.size e := by
        intro e he
        simp only [List.mem_singleton] at he
        subst he
        exact ⟨hb1, hb2, hb3, rfl⟩
      refine ⟨Frame.round p.1 L.fn ((L.params.zip vs).foldl (fun tmps (t, a) => tmps.setIfInBounds t a) L.tmps) L.assign L.body .normal, seen P fr.fn #[⟨.obj p.1, false, false⟩], ?_, ?_, ?_, ?_⟩
      · have hr := hrun #[]
        have hk := kind_not_early H.kind
        rw [step_oper H ho hw hd, apply_thenT hs]
        unfold stepG.apply
        simp only [if_true, hr, hk]
        simp [GStep.after, G]
      · exact S.fineG S (Fine.refl K w hE) fr.fn
      · exact seen_still hE h.df
      · refine ⟨e3, ?_, ?_, rfl, rfl, rfl, ⟨p, hp, rfl⟩⟩
        · show RT ι nt (setPs (ps.zip args) nt tm') _
          rw [← Array.foldl_toList]
          rw [Array.toList_zip, e5]
          exact RT_setPs e4 ha
        · exact ⟨_, _, rfl, by show _ = _; rw [e6], _, _, rfl, rfl, _, _, rfl, by show _ = _; rw [e7], rfl⟩
  · cases hg
end op
end
end Go.Ev
namespace Go.Ev
open Go.Conc (G)
section
variable {P : Program} {main : Bool} {K : Ctx} {ι : Nm} {h : AH} {w : World} {E : Env}
variable {x : AX} {tm : Tr AV} {ds : List AD} {ops : Array Oper} {i : Nat} {rest : List Nat} {k' : List Item} {fr : Frame} {cs : List Frame} {o : Oper}
theorem AtOp.rho (H : AtOp ι x tm ds ops i rest k' fr) (y : Operand) : RV ι (ev tm y) (fr.eval y) := H.tm.ev fr rfl y
theorem defer_quiet {c : Call} (ho : o.op = .defer c) : quietOp o.op E tm h = none := by rw [ho]; rfl
theorem no_defer (H : AtOp ι x tm ds ops i rest k' fr) (hd : x.round = none ∨ ∀ c, o.op ≠ .defer c) : fr.roundOf = none ∨ ∀ c, o.op ≠ .defer c := by
  rcases hd with hd | hd
  · have := H.round
    rw [hd] at this
    exact .inl this
  · exact .inr hd
theorem quiet_step (hP : Of K P E) (F : Fits P E) (S : Sat K ι h w) (H : AtOp ι x tm ds ops i rest k' fr) (ho : ops[i]? = some o) (hw : Region.wanted o (yielded ops fr.tmps) = true)
    {v : AV} (e : quietOp o.op E tm h = some v) : GoTo P main K ι h w fr cs (fun ι' fr' => AtRest ι' x (fin x o.dst v tm) ds ops rest k' fr') h := fun hf => by
  have hd : fr.roundOf = none ∨ ∀ c, o.op ≠ .defer c := .inr fun c hc => by rw [defer_quiet hc] at e; cases e
  obtain ⟨ι', u, w', es, h1, h2, h3, h4, h5, h6⟩ := op_yields (main := main) (cs := cs) S H ho hw hd rfl (NOk.ext S (quiet_ok hP F S H.rho e)) trivial hf
  exact ⟨ι', _, w', es, h1, h2, h3, H.finish ho (h2.ext hf) h4, h5, h6⟩
theorem loud_notdefer {r : OR} (e : loudOp o.op E tm h = some r) (hr : ∀ a, r ≠ .dfr a) : ∀ c, o.op ≠ .defer c := fun c hc => by
  rw [hc] at e
  have e' : (match c.callee with
      | .value g => (match ev tm g with
        | .fn f a b => some (OR.dfr ⟨.fn f a b, evs tm c.args.toList⟩)
        | _ => none)
      | _ => none) = some r := e
  split at e'
  · split at e'
    · cases e'; exact hr _ rfl
    · cases e'
  · cases e'
theorem loud_val (hP : Of K P E) (F : Fits P E) (S : Sat K ι h w) (H : AtOp ι x tm ds ops i rest k' fr) (ho : ops[i]? = some o) (hw : Region.wanted o (yielded ops fr.tmps) = true)
    {v : AV} {h' : AH} (e : loudOp o.op E tm h = some (.val v h')) : GoTo P main K ι h w fr cs (fun ι' fr' => AtRest ι' x (fin x o.dst v tm) ds ops rest k' fr') h' := fun hf => by
  have hd := loud_notdefer e (by simp)
  obtain ⟨ι', u, w', es, h1, h2, h3, h4, h5, h6⟩ := op_yields (main := main) (cs := cs) S H ho hw (.inr hd) rfl (VOk.ext S (loud_ok hP F S H.rho e)) trivial hf
  exact ⟨ι', _, w', es, h1, h2, h3, H.finish ho (h2.ext hf) h4, h5, h6⟩
theorem loud_alts (hP : Of K P E) (F : Fits P E) (S : Sat K ι h w) (H : AtOp ι x tm ds ops i rest k' fr) (ho : ops[i]? = some o) (hw : Region.wanted o (yielded ops fr.tmps) = true)
    {l : List (AV × AH)} (e : loudOp o.op E tm h = some (.alts l)) : ∃ p ∈ l, GoTo P main K ι h w fr cs (fun ι' fr' => AtRest ι' x (fin x o.dst p.1 tm) ds ops rest k' fr') p.2 := by
  have hd := loud_notdefer e (by simp)
  obtain ⟨p, hp, hv⟩ := loud_ok hP F S H.rho e
  refine ⟨p, hp, fun hf => ?_⟩
  obtain ⟨ι', u, w', es, h1, h2, h3, h4, h5, h6⟩ := op_yields (main := main) (cs := cs) S H ho hw (.inr hd) rfl (VOk.ext S hv) trivial hf
  exact ⟨ι', _, w', es, h1, h2, h3, H.finish ho (h2.ext hf) h4, h5, h6⟩
theorem loud_call (hP : Of K P E) (F : Fits P E) (FF : FitsF P E) (S : Sat K ι h w) (H : AtOp ι x tm ds ops i rest k' fr) (ho : ops[i]? = some o) (hw : Region.wanted o (yielded ops fr.tmps) = true)
    {g : FuncId} {args : List AV} (e : loudOp o.op E tm h = some (.call g args)) {c : Code} {n : Nat} {rs : List ResultVar} {ex : EX} (hg : E.ft.get g = some ⟨some c, n, rs, ex⟩) :
    ∃ vs : Array Value, RVs ι args vs.toList ∧ stepG P main (G fr cs) w = .go (G (Frame.enter P g vs .normal) (fr :: cs)) w #[] := by
  have hd := loud_notdefer e (by simp)
  obtain ⟨vs, h1, h2⟩ := loud_ok hP F S H.rho e
  exact ⟨vs, h1, op_enters FF H ho hw (.inr hd) (h2 #[]) hg⟩
theorem loud_ext (hP : Of K P E) (F : Fits P E) (FF : FitsF P E) (S : Sat K ι h w) (H : AtOp ι x tm ds ops i rest k' fr) (ho : ops[i]? = some o) (hw : Region.wanted o (yielded ops fr.tmps) = true)
    {g : FuncId} {args : List AV} (e : loudOp o.op E tm h = some (.call g args)) {n : Nat} {rs : List ResultVar} {ex : EX} (hg : E.ft.get g = some ⟨none, n, rs, ex⟩) {v : AV} {h' : AH} (hx : extA ex args h = some (.val v h')) :
    GoTo P main K ι h w fr cs (fun ι' fr' => AtRest ι' x (fin x o.dst v tm) ds ops rest k' fr') h' := fun hf => by
  have hd := loud_notdefer e (by simp)
  obtain ⟨vs, h1, h2⟩ := loud_ok hP F S H.rho e
  obtain ⟨ι', u, w', es, g1, g2, g3, g4, g5, g6⟩ := op_yields (main := main) (cs := cs) S H ho hw (.inr hd) (h2 #[]) (FF.ext g n rs ex hg K ι h w args vs v h' hP S h1 hx) trivial hf
  exact ⟨ι', _, w', es, g1, g2, g3, H.finish ho (g2.ext hf) g4, g5, g6⟩
theorem loud_yield (hP : Of K P E) (F : Fits P E) (S : Sat K ι h w) (H : AtOp ι x tm ds ops i rest k' fr) (ho : ops[i]? = some o) (hw : Region.wanted o (yielded ops fr.tmps) = true)
    {id : Nat} {args : List AV} (e : loudOp o.op E tm h = some (.yield id args)) : RoundTo P main K ι w fr cs id args h := by
  have hd := loud_notdefer e (by simp)
  obtain ⟨p, vs, h1, h2, h3⟩ := loud_ok hP F S H.rho e
  exact op_rounds S H ho hw (.inr hd) h1 h2 (h3 #[])
theorem loud_dfr (hP : Of K P E) (F : Fits P E) (S : Sat K ι h w) (H : AtOp ι x tm ds ops i rest k' fr) (ho : ops[i]? = some o) (hw : Region.wanted o (yielded ops fr.tmps) = true) (hr : x.round = none)
    {a : AD} (e : loudOp o.op E tm h = some (.dfr a)) : GoTo P main K ι h w fr cs (fun ι' fr' => AtRest ι' x (fin x o.dst undefA tm) (a :: ds) ops rest k' fr') h := fun _ => by
  obtain ⟨d, h1, h2⟩ := loud_ok hP F S H.rho e
  have hrd : fr.roundOf = none := by have := H.round; rw [hr] at this; exact this
  have hk := kind_not_early H.kind
  have hrun := h1 #[]
  simp only [Array.empty_append] at hrun
  refine ⟨ι, ({ fr with defers := d :: fr.defers } : Frame).finish undef, w, #[], ?_, Grow.refl _ _, S, ?_, FineG.refl w, rfl⟩
  · rw [step_oper H ho hw (.inl hrd)]
    unfold stepG.apply
    simp only [if_true, hrun, hk]
    simp [GStep.after, G, seen]
  · have H' : AtOp ι x tm (a :: ds) ops i rest k' { fr with defers := d :: fr.defers } := ⟨H.fn, H.tm, H.todo, ⟨d, fr.defers, rfl, h2, H.ds⟩, H.mode, H.kind, H.round⟩
    exact H'.finish ho (Ext.refl ι) RV_undef
end
end Go.Ev
namespace Go.Ev
open Go.Conc (G)
section
variable {P : Program} {main : Bool} {K : Ctx} {ι : Nm} {h : AH} {w : World} {E : Env}
def RetTo (P : Program) (main : Bool) (K : Ctx) (ι : Nm) (h : AH) (w : World) (fr : Frame) (cs : List Frame) (v : AV) (h' : AH) : Prop :=
  ∃ u w' es, stepG P main (G fr cs) w = GStep.after es (doReturn P main fr cs none u w') ∧ Sat K ι h' w' ∧ RV ι v u ∧ FineG K w w' es ∧ deafBehind h.df es = h'.df ∧ h'.nx = h.nx
def A1Ok (P : Program) (main : Bool) (K : Ctx) (ι : Nm) (h : AH) (w : World) (fr : Frame) (cs : List Frame) : A1 → Prop
  | .go f' h' => GoTo P main K ι h w fr cs (fun ι' fr' => RF ι' f' fr') h'
  | .alts l => ∃ p ∈ l, GoTo P main K ι h w fr cs (fun ι' fr' => RF ι' p.1 fr') p.2
  | .call f' d g args h' => CallTo P main K ι h w fr cs (fun ι' fr' => Waits ι' f' d fr' ∧ fr'.mode = .run) g args .normal h'
  | .dcall f' g args h' => CallTo P main K ι h w fr cs (fun ι' fr' => RF ι' f' fr' ∧ fr'.mode = .returning) g args .deferred h'
  | .round f' d id args h' => h' = h ∧ RoundTo P main K ι w fr cs id args h ∧ Waits ι f' d fr
  | .drawn x tm ops k ds h' => h' = h ∧ ∃ t d k', stepG P main (G fr cs) w = .go (G { fr with todo := .inRegion ops (Region.linearise .any ops t) :: k' } cs) { w with drawn := d } #[] ∧ RIs ι k k' ∧
      AtRest ι x tm ds ops (Region.linearise .any ops t) k' { fr with todo := .inRegion ops (Region.linearise .any ops t) :: k' }
  | .ret v h' => RetTo P main K ι h w fr cs v h'
  | .stop => True
section
variable {x : AX} {tm : Tr AV} {todo : List AI} {ds : List AD} {fr : Frame} {cs : List Frame}
theorem RF.runs (R : RF ι ⟨x, tm, todo, ds, false⟩ fr) : stepG P main (G fr cs) w = stepG.exec P main true fr cs none w := by
  have hm : fr.mode = .run := by have := R.mode; simpa using this
  simp [G, stepG, hm]
theorem RF.to (R : RF ι ⟨x, tm, todo, ds, false⟩ fr) {todo' : List AI} {l : List Item} (hl : RIs ι todo' l) : RF ι ⟨x, tm, todo', ds, false⟩ { fr with todo := l } :=
  ⟨R.fn, R.tm, hl, R.ds, R.mode, R.kind, R.round⟩
theorem goTo_todo (S : Sat K ι h w) (R : RF ι ⟨x, tm, todo, ds, false⟩ fr) {todo' : List AI} {l : List Item} (hl : RIs ι todo' l) (hs : stepG P main (G fr cs) w = .go (G { fr with todo := l } cs) w #[]) :
    A1Ok P main K ι h w fr cs (.go ⟨x, tm, todo', ds, false⟩ h) := fun _ =>
  ⟨ι, _, w, #[], hs, Grow.refl _ _, S, R.to hl, FineG.refl w, rfl⟩
theorem exec_leave {jump : Option Code} : (stepG.exec P main true fr cs none w = stepG.exec P main true fr cs none w) → True := fun _ => trivial
def leaveG (P : Program) (main : Bool) (fr : Frame) (cs : List Frame) (w : World) (jump : Option Code) : GStep :=
  match fr.roundOf with
  | none => if jump matches none | some .ret then .go (G { fr with mode := .returning } cs) w else .ended (.stuck "exit, goto: no such block or label" (fr.pos P)) w
  | some l =>
    let (r, es) := (Instr.endRound l jump).runT P w #[]
    GStep.after (seen P fr.fn es) <| match r with
    | .ok v w => doReturn P main fr cs none v w
    | .halt _ w => .ended (.stuck "range over a function: no such loop" (fr.pos P)) w
theorem leave_ok (S : Sat K ι h w) (R : RF ι ⟨x, tm, todo, ds, false⟩ fr) {jump : Option Code} {r : A1} (e : leaveA x tm todo ds h jump = some r) (hs : stepG P main (G fr cs) w = leaveG P main fr cs w jump) :
    A1Ok P main K ι h w fr cs r := by
  unfold leaveA at e
  have hr := R.round
  split at e
  · rename_i hx
    rw [hx] at hr
    have hr : fr.roundOf = none := hr
    split at e
    all_goals first
      | (cases e; done)
      | (cases e
         refine fun _ => ⟨ι, { fr with mode := .returning }, w, #[], ?_, Grow.refl _ _, S, ⟨R.fn, R.tm, R.todo, R.ds, rfl, R.kind, R.round⟩, FineG.refl w, rfl⟩
         rw [hs]
         unfold leaveG
         rw [hr]
         rfl)
  · rename_i l hx
    rw [hx] at hr
    obtain ⟨p, hp, hr⟩ := hr
    have hr : fr.roundOf = some p.1 := hr
    split at e
    · rename_i st pd fn nt t ps a b d hobj
      cases e
      obtain ⟨p', ob, hp', hb1, hb2, hb3, hb4, hb5⟩ := S.at hobj trivial
      obtain rfl : p = p' := by rw [hp] at hp'; exact Option.some.inj hp'
      obtain ⟨q, hq, L, rfl, e1, e2, e3, e4, e5, e6, e7, e8⟩ := hb5
      have hro : RO K.P ι p.2 (.loop (cond jump.isNone .ready .done) jump fn nt t ps a b d) (.loop { L with state := if jump.isNone then .ready else .done, pending := jump }) :=
        ⟨q, hq, _, rfl, by cases jump <;> rfl, rfl, e3, e4, e5, e6, e7, e8⟩
      have hset := setObj_ok (P := P) S hp hobj trivial hb4 (by simp) hro rfl
      obtain ⟨ι', w', es, g1, g2, g3, g4, g5⟩ := hset (fun i h1 h2 => by rw [AH.put_nx] at h2; omega)
      have hι : ι' = ι := by
        funext i
        refine g2.same i ?_
        rw [AH.put_nx]; omega
      subst hι
      have hrun : SRun P (Instr.endRound p.1 jump) w (.bool jump.isNone) w' ([⟨.obj p.1, false, false⟩] ++ es) := by
        unfold Instr.endRound
        refine SRun.bind (w1 := w) (e1 := [⟨.obj p.1, false, false⟩]) (e2 := es) (a := L) ?_ ?_
        · unfold Instr.getLoop
          exact SRun.bind (w1 := w) (e2 := []) (e1 := [⟨.obj p.1, false, false⟩]) (SRun.getObj (P := P) hb4 (by simp)) (SRun.pure _)
        · have := SRun.bind (e2 := []) g1 (SRun.pure (P := P) (w := w') (Value.bool jump.isNone)) (f := fun _ => Pure.pure (Value.bool jump.isNone))
          simpa using this
      have hf : Fine K w w' ([⟨.obj p.1, false, false⟩] ++ es) := by
        have h0 : Fine K w w [(⟨.obj p.1, false, false⟩ : Event)] := Fine.refl K w (by intro e he; simp only [List.mem_singleton] at he; subst he; exact ⟨hb1, hb2, hb3, rfl⟩)
        exact h0.trans g4
      refine ⟨.bool jump.isNone, w', seen P fr.fn ([(⟨.obj p.1, false, false⟩ : Event)] ++ es).toArray, ?_, g3, by unfold RV; rfl, S.fineG g3 hf fr.fn, by rw [seen_still hf.evs, AH.put_df], AH.put_nx⟩
      rw [hs]
      unfold leaveG
      rw [hr]
      have := hrun #[]
      simp only [Array.empty_append] at this
      simp only [this]
    · cases e
end
end
end Go.Ev
namespace Go.Ev
open Go.Conc (G)
section
variable {P : Program} {main : Bool} {K : Ctx} {ι : Nm} {h : AH} {w : World} {E : Env}
variable {x : AX} {tm : Tr AV} {todo : List AI} {ds : List AD} {fr : Frame} {cs : List Frame}
theorem mapM_results (F : Fits P E) (hP : Of K P E) (S : Sat K ι h w) {nt : Nat} {tmps : Array Value} (hT : RT ι nt tm tmps) : ∀ {rs : List ResultVar} {l : List AV}, resA E rs tm h = some l →
    ∃ vs es, SRun P (rs.mapM fun r => match r with | .tmp t => (Pure.pure (tmps.getD t undef) : Sem Value) | .cell a t => do loadVar t (← asAddr (tmps.getD a undef))) w vs w es ∧ RVs ι l vs ∧ ∀ e ∈ es, EvF K w.heap.size e := by
  intro rs
  induction rs with
  | nil => intro l e; cases e; exact ⟨[], [], SRun.pure _, RVs_nil, by simp⟩
  | cons r rs ih =>
    intro l e
    cases r with
    | tmp t =>
      simp only [resA] at e
      split at e
      · rename_i r' hr'
        cases e
        obtain ⟨vs, es, h1, h2, h3⟩ := ih hr'
        refine ⟨_ :: vs, es, ?_, RVs_cons (hT.ev { (default : Frame) with tmps := tmps } rfl (.tmp t)) h2, h3⟩
        rw [List.mapM_cons]
        refine SRun.bind0 (SRun.pure _) ?_
        have := SRun.bind h1 (SRun.pure (P := P) (w := w) (tmps.getD t undef :: vs)) (f := fun x => Pure.pure (tmps.getD t undef :: x))
        rw [List.append_nil] at this
        exact this
      · cases e
    | cell a t =>
      simp only [resA] at e
      split at e
      · rename_i id off hv
        split at e
        · rename_i v hl
          split at e
          · rename_i r' hr'
            cases e
            obtain ⟨vs, es, h1, h2, h3⟩ := ih hr'
            have hp := hT.ev { (default : Frame) with tmps := tmps } rfl (.tmp a)
            rw [hv] at hp
            obtain ⟨p, hp, hpv⟩ := ptr_inv hp
            have hpv : tmps.getD a undef = .pointer (some ⟨p.1, off, none⟩) := hpv
            obtain ⟨u, es', g1, g2, g3⟩ := SRun_loadVar S hP F hp hl
            refine ⟨u :: vs, es' ++ es, ?_, RVs_cons g2 h2, fun e he => (List.mem_append.1 he).elim (g3 e) (h3 e)⟩
            rw [List.mapM_cons]
            refine SRun.bind (w1 := w) (a := u) ?_ ?_
            · simp only [hpv]
              refine SRun.bind0 (a := ⟨p.1, off, none⟩) ?_ g1
              unfold asAddr
              exact SRun.pure _
            · have := SRun.bind h1 (SRun.pure (P := P) (w := w) (u :: vs)) (f := fun x => Pure.pure (u :: x))
              rw [List.append_nil] at this
              exact this
          · cases e
        · cases e
      · cases e
def retV : List AV → AV
  | [v] => v
  | l => .tup l
theorem results_ok (F : Fits P E) (hP : Of K P E) (S : Sat K ι h w) {nt : Nat} {tmps : Array Value} (hT : RT ι nt tm tmps) {fn : Func} {rs : List ResultVar} (hrs : fn.results.toList = rs) {l : List AV} (e : resA E rs tm h = some l) :
    ∃ v es, SRun P (results fn tmps) w v w es ∧ RV ι (retV l) v ∧ ∀ e ∈ es, EvF K w.heap.size e := by
  obtain ⟨vs, es, h1, h2, h3⟩ := mapM_results F hP S hT e
  refine ⟨if h : vs.toArray.size = 1 then vs.toArray[0] else .tuple vs.toArray, es, ?_, ?_, h3⟩
  · unfold results
    have hm : SRun P (fn.results.mapM fun
      | .tmp t => (Pure.pure (tmps.getD t undef) : Sem Value)
      | .cell a t => do loadVar t (← asAddr (tmps.getD a undef))) w vs.toArray w es := by
      rw [Array.mapM_eq_mapM_toList, hrs]
      have := SRun.bind h1 (SRun.pure (P := P) (w := w) vs.toArray) (f := fun x => Pure.pure x.toArray)
      rw [List.append_nil] at this
      exact this
    have := SRun.bind hm (SRun.pure (P := P) (w := w) (if h : vs.toArray.size = 1 then vs.toArray[0] else Value.tuple vs.toArray)) (f := fun vs => Pure.pure (if h : vs.size = 1 then vs[0] else Value.tuple vs))
    rw [List.append_nil] at this
    exact this
  · cases l with
    | nil =>
      rw [RVs_nil_inv h2]
      unfold RV
      exact ⟨#[], rfl, RVs_nil⟩
    | cons a l =>
      obtain ⟨v, r, rfl, g1, g2⟩ := RVs_cons_inv h2
      cases l with
      | nil =>
        rw [RVs_nil_inv g2]
        exact g1
      | cons b l =>
        obtain ⟨v', r', rfl, g3, g4⟩ := RVs_cons_inv g2
        have : ¬ (v :: v' :: r').toArray.size = 1 := by simp
        rw [dif_neg this]
        show RV ι (.tup (a :: b :: l)) _
        unfold RV
        exact ⟨_, rfl, RVs_cons g1 (RVs_cons g3 g4)⟩
theorem unwinds (R : RF ι ⟨x, tm, todo, ds, true⟩ fr) : stepG P main (G fr cs) w = unwind P main fr cs none w := by
  have hm : fr.mode = .returning := by have := R.mode; simpa using this
  simp [G, stepG, hm]
theorem callDeferred_eq {d : Deferred} {g : FuncId} {c : Array Value} (ht : d.target = .fn (.func g) c) {s : Sem Next} (hs : (callFunc g (d.args ++ c)).runT P w #[] = s.runT P w #[]) {nx : Next} {w' : World} {es : List Event} (hr : SRun P s w nx w' es) :
    callDeferred P fr cs none d w = GStep.after (seen P fr.fn es.toArray) (match nx with
      | .enter f args => .go (G (Frame.enter P f args .deferred) (fr :: cs)) w'
      | .value _ => .go (G fr cs) w'
      | .skip => .go (G fr cs) w'
      | nx => match callDeferred P fr cs none d w with | .go g w es => .go g w es | s => s) ∨ (¬ ∃ v, nx = .value v) ∧ nx ≠ .skip ∧ ∀ f a, nx ≠ .enter f a := by
  by_cases hn : (¬ ∃ v, nx = .value v) ∧ nx ≠ .skip ∧ ∀ f a, nx ≠ .enter f a
  · exact .inr hn
  · left
    have hr' := hr #[]
    simp only [Array.empty_append] at hr'
    have hinv : (invoke d.target d.args).runT P w #[] = (.ok nx w', es.toArray) := by
      rw [ht]
      show (callFunc g (d.args ++ c)).runT P w #[] = _
      rw [hs, hr']
    unfold callDeferred
    rw [if_neg (by rw [ht]; simp)]
    simp only [hinv]
    cases nx with
    | value v => rfl
    | skip => rfl
    | enter f a => rfl
    | _ => exact absurd ⟨by simp, by simp, by simp⟩ hn
theorem ret_ok (hP : Of K P E) (F : Fits P E) (FF : FitsF P E) (S : Sat K ι h w) (R : RF ι ⟨x, tm, todo, ds, true⟩ fr) {r : A1} (e : retA E x tm todo ds h = some r) : A1Ok P main K ι h w fr cs r := by
  have hm : fr.mode = .returning := by have := R.mode; simpa using this
  unfold retA at e
  split at e
  · rename_i _ d ds'
    obtain ⟨d', dr, hd, h1, h2⟩ := R.ds
    split at e
    · rename_i hf
      split at e
      · rename_i id hargs
        split at e
        · rename_i hobj
          cases e
          unfold RD at h1
          rw [hf] at h1
          obtain ⟨p, hp, rfl⟩ := h1 id hargs
          obtain ⟨p', ob, hp', hb1, hb2, hb3, hb4, hb5⟩ := S.at hobj trivial
          obtain rfl : p = p' := by rw [hp] at hp'; exact Option.some.inj hp'
          have hb5 : ob = .deferred (some []) := hb5
          subst hb5
          have hset := setObj_ok (P := P) S hp hobj trivial hb4 (by simp) (o := .dfr true) (ob := .deferred none) rfl rfl
          intro hfr
          obtain ⟨ι', w', es, g1, g2, g3, g4, g5⟩ := hset hfr
          have hrun : SRun P (Instr.takeDeferred p.1) w [] w' ([(⟨.obj p.1, false, false⟩ : Event)] ++ es) := by
            unfold Instr.takeDeferred
            refine SRun.bind (w1 := w) (e1 := [⟨.obj p.1, false, false⟩]) (e2 := es) (SRun.getObj (P := P) hb4 (by simp)) ?_
            have := SRun.bind (e2 := []) g1 (SRun.pure (P := P) (w := w') ([] : List Deferred)) (f := fun _ => Pure.pure ([] : List Deferred))
            simpa using this
          have hfi : Fine K w w' ([(⟨.obj p.1, false, false⟩ : Event)] ++ es) :=
            (Fine.refl K w (by intro e he; simp only [List.mem_singleton] at he; subst he; exact ⟨hb1, hb2, hb3, rfl⟩) : Fine K w w [(⟨.obj p.1, false, false⟩ : Event)]).trans g4
          refine ⟨ι', { fr with defers := dr }, w', seen P fr.fn ([(⟨.obj p.1, false, false⟩ : Event)] ++ es).toArray, ?_, g2, g3, ?_, S.fineG g3 hfi fr.fn, by rw [seen_still hfi.evs, AH.put_df]⟩
          · rw [unwinds R]
            unfold unwind
            rw [hd]
            have := hrun #[]
            simp only [Array.empty_append] at this
            simp only [this]
            simp [GStep.after, G]
          · have hE := g2.ext hfr
            exact ⟨R.fn, R.tm.mono hE, R.todo.mono hE, h2.mono hE, R.mode, R.kind, round_mono hE R.round⟩
        · cases e
      · cases e
    · rename_i g first cap hf
      unfold RD at h1
      rw [hf] at h1
      obtain ⟨fs, as, c, ha1, ha2, ha3, rfl⟩ := h1
      have R' : RF ι ⟨x, tm, todo, ds', true⟩ { fr with defers := dr } := ⟨R.fn, R.tm, R.todo, h2, R.mode, R.kind, R.round⟩
      have hargs : RVs ι (first ++ d.args ++ cap) ((fs ++ as).toArray ++ c).toList := by
        simp only [Array.toList_append]
        exact (ha1.append ha2).append ha3
      have hu : stepG P main (G fr cs) w = callDeferred P { fr with defers := dr } cs none { target := .fn (.func g) c, args := (fs ++ as).toArray } w := by
        rw [unwinds R]
        unfold unwind
        rw [hd]
      split at e
      · rename_i c0 n rs ex hg
        cases e
        obtain ⟨fn, k1, k2, _, _, k5⟩ := FF.code g c0 n rs ex hg
        have hr := callFunc_enter (w := w) (vs := (fs ++ as).toArray ++ c) k1 (by rw [k2]; rfl) k5
        rcases callDeferred_eq (cs := cs) (fr := { fr with defers := dr }) (d := { target := .fn (.func g) c, args := (fs ++ as).toArray }) rfl rfl hr with hcd | hcd
        · intro _
          refine ⟨ι, { fr with defers := dr }, (fs ++ as).toArray ++ c, w, #[], ?_, Grow.refl _ _, S, hargs, ⟨R', hm⟩, FineG.refl w, rfl⟩
          rw [hu, hcd]
          simp [GStep.after, seen]
        · exact absurd rfl (hcd.2.2 _ _)
      · rename_i n rs ex hg
        split at e
        · rename_i v h' hx
          cases e
          intro hfr
          obtain ⟨ι', w', nx, es, g1, g2, g3, g4, g5⟩ := FF.ext g n rs ex hg K ι h w _ ((fs ++ as).toArray ++ c) v h' hP S hargs hx hfr
          rcases callDeferred_eq (cs := cs) (fr := { fr with defers := dr }) (d := { target := .fn (.func g) c, args := (fs ++ as).toArray }) rfl rfl g1 with hcd | hcd
          · have hE := g2.ext hfr
            refine ⟨ι', { fr with defers := dr }, w', seen P fr.fn es.toArray, ?_, g2, g3, ⟨R.fn, R.tm.mono hE, R.todo.mono hE, h2.mono hE, R.mode, R.kind, round_mono hE R.round⟩, (g5 fr.fn).1, (g5 fr.fn).2⟩
            rw [hu, hcd]
            cases nx with
            | value u => simp [GStep.after]
            | skip => simp [GStep.after]
            | _ => exact g4.elim
          · cases nx with
            | value u => exact absurd ⟨_, rfl⟩ hcd.1
            | skip => exact absurd rfl hcd.2.1
            | _ => exact g4.elim
        · cases e; trivial
        · cases e
      · cases e
    · cases e
  · have hds : fr.defers = [] := R.ds
    split at e
    · rename_i c n rs ex hg
      obtain ⟨fn, k1, k2, _, k4, _⟩ := FF.code x.fn c n rs ex hg
      have key : ∀ {l : List AV}, resA E rs tm h = some l → RetTo P main K ι h w fr cs (retV l) h := by
        intro l hl
        obtain ⟨v, es, g1, g2, g3⟩ := results_ok F hP S R.tm k4 hl
        refine ⟨v, w, seen P fr.fn es.toArray, ?_, S, g2, S.fineG S (Fine.refl K w g3) fr.fn, seen_still g3 h.df, rfl⟩
        rw [unwinds R]
        unfold unwind
        rw [hds]
        have := g1 #[]
        simp only [Array.empty_append] at this
        have hfn : P.funcs[fr.fn]? = some fn := by rw [R.fn]; exact k1
        simp only [hm, hfn, this]
      cases hl : resA E rs tm h with
      | none => rw [hl] at e; cases e
      | some l =>
        rw [hl] at e
        have := key hl
        match l, e, this with
        | [], e, this => cases e; exact this
        | [v], e, this => cases e; exact this
        | a :: b :: l, e, this => cases e; exact this
    · cases e
end
end Go.Ev
namespace Go.Ev
open Go.Conc (G)
section
variable {P : Program} {main : Bool} {K : Ctx} {ι : Nm} {h : AH} {w : World} {E : Env}
variable {x : AX} {tm : Tr AV} {todo : List AI} {ds : List AD} {fr : Frame} {cs : List Frame}
theorem AtRest.rf {k : List AI} {k' : List Item} {ops : Array Oper} {j : Nat} {todo : List Oper} (H : AtRest ι x tm ds ops ((List.range ops.size).drop j) k' fr) (hk : RIs ι k k') (ht : todo = ops.toList.drop j) : RF ι ⟨x, tm, inR ops todo k, ds, false⟩ fr :=
  ⟨H.fn, H.tm, by rw [H.todo]; exact ⟨_, _, rfl, ⟨j, ht, rfl⟩, hk⟩, H.ds, by simpa using H.mode, H.kind, H.round⟩
theorem callR_ok (hP : Of K P E) (F : Fits P E) (FF : FitsF P E) (S : Sat K ι h w) {ops : Array Oper} {j : Nat} {rest : List Oper} {k : List AI} {k' : List Item} (H : AtOp ι x tm ds ops j ((List.range ops.size).drop (j + 1)) k' fr) {o : Oper} (ho : ops[j]? = some o)
    (hrest : rest = ops.toList.drop (j + 1)) (hk : RIs ι k k') (hw : Region.wanted o (yielded ops fr.tmps) = true) {g : FuncId} {args : List AV} (hl : loudOp o.op E tm h = some (.call g args)) {r : A1} (e : callR E x tm o.dst (inR ops rest k) ds h g args = some r) : A1Ok P main K ι h w fr cs r := by
  unfold callR at e
  split at e
  · rename_i c n rs ex hg
    cases e
    obtain ⟨vs, h1, h2⟩ := loud_call (main := main) (cs := cs) hP F FF S H ho hw hl hg
    exact fun _ => ⟨ι, fr, vs, w, #[], h2, Grow.refl _ _, S, h1, ⟨fun ι' v u hE hv => (H.finish ho hE hv).rf (hk.mono hE) hrest, H.mode⟩, FineG.refl w, rfl⟩
  · rename_i n rs ex hg
    unfold extR at e
    split at e
    · rename_i v h' hx
      cases e
      intro hf
      obtain ⟨ι', fr', w', es, g1, g2, g3, g4, g5⟩ := loud_ext (main := main) (cs := cs) hP F FF S H ho hw hl hg hx hf
      exact ⟨ι', fr', w', es, g1, g2, g3, g4.rf (hk.mono (g2.ext hf)) hrest, g5⟩
    · cases e; trivial
    · cases e
  · cases e
theorem opA_ok (hP : Of K P E) (F : Fits P E) (FF : FitsF P E) (S : Sat K ι h w) {ops : Array Oper} {j : Nat} {rest : List Oper} {k : List AI} {k' : List Item} (H : AtOp ι x tm ds ops j ((List.range ops.size).drop (j + 1)) k' fr) {o : Oper} (ho : ops[j]? = some o)
    (hrest : rest = ops.toList.drop (j + 1)) (hk : RIs ι k k') (hw : Region.wanted o (yielded ops fr.tmps) = true) {r : A1} (e : opA E x tm (inR ops rest k) ds h o = some r) : A1Ok P main K ι h w fr cs r := by
  unfold opA at e
  split at e
  · rename_i v hv
    cases e
    intro hf
    obtain ⟨ι', fr', w', es, g1, g2, g3, g4, g5⟩ := quiet_step (main := main) (cs := cs) hP F S H ho hw hv hf
    exact ⟨ι', fr', w', es, g1, g2, g3, g4.rf (hk.mono (g2.ext hf)) hrest, g5⟩
  · cases hl : loudOp o.op E tm h with
    | none => rw [hl] at e; cases e
    | some q =>
      rw [hl] at e
      cases q with
      | val v h' =>
        cases e
        intro hf
        obtain ⟨ι', fr', w', es, g1, g2, g3, g4, g5⟩ := loud_val (main := main) (cs := cs) hP F S H ho hw hl hf
        exact ⟨ι', fr', w', es, g1, g2, g3, g4.rf (hk.mono (g2.ext hf)) hrest, g5⟩
      | call g args => exact callR_ok hP F FF S H ho hrest hk hw hl e
      | yield id args =>
        cases e
        exact ⟨rfl, loud_yield hP F S H ho hw hl, fun ι' v u hE hv => (H.finish ho hE hv).rf (hk.mono hE) hrest⟩
      | dfr a =>
        simp only [loudR] at e
        split at e
        · rename_i hr
          cases e
          intro hf
          obtain ⟨ι', fr', w', es, g1, g2, g3, g4, g5⟩ := loud_dfr (main := main) (cs := cs) hP F S H ho hw hr hl hf
          exact ⟨ι', fr', w', es, g1, g2, g3, g4.rf (hk.mono (g2.ext hf)) hrest, g5⟩
        · cases e
      | alts l =>
        cases e
        obtain ⟨p, hp, hg⟩ := loud_alts (main := main) (cs := cs) hP F S H ho hw hl
        refine ⟨(⟨x, fin x o.dst p.1 tm, inR ops rest k, ds, false⟩, p.2), List.mem_map_of_mem (f := fun p => ((⟨x, fin x o.dst p.1 tm, inR ops rest k, ds, false⟩ : AF), p.2)) hp, fun hf => ?_⟩
        obtain ⟨ι', fr', w', es, g1, g2, g3, g4, g5⟩ := hg hf
        exact ⟨ι', fr', w', es, g1, g2, g3, g4.rf (hk.mono (g2.ext hf)) hrest, g5⟩
      | stop => cases e; trivial
theorem drop_cons {ops : Array Oper} {j : Nat} {o : Oper} {rest : List Oper} (e : o :: rest = ops.toList.drop j) : ops[j]? = some o ∧ rest = ops.toList.drop (j + 1) ∧ (List.range ops.size).drop j = j :: (List.range ops.size).drop (j + 1) := by
  have hj : j < ops.toList.length := by
    rcases Nat.lt_or_ge j ops.toList.length with h | h
    · exact h
    · rw [List.drop_eq_nil_of_le h] at e; cases e
  rw [List.drop_eq_getElem_cons hj] at e
  injection e with e1 e2
  refine ⟨?_, e2, ?_⟩
  · rw [e1]; simp at hj ⊢
  · have hj' : j < (List.range ops.size).length := by simpa using hj
    rw [List.drop_eq_getElem_cons hj']; simp
theorem regionA_ok (hP : Of K P E) (F : Fits P E) (FF : FitsF P E) (S : Sat K ι h w) {ops : Array Oper} {o : Oper} {rest : List Oper} {k : List AI} (R : RF ι ⟨x, tm, .inRegion ops (o :: rest) :: k, ds, false⟩ fr)
    {r : A1} (e : regionA E x tm ds h k ops o rest = some r) : A1Ok P main K ι h w fr cs r := by
  obtain ⟨i, k', ht, ⟨j, hj, rfl⟩, hk⟩ := R.todo
  obtain ⟨ho, hrest, hr⟩ := drop_cons hj
  rw [hr] at ht
  have H : AtOp ι x tm ds ops j ((List.range ops.size).drop (j + 1)) k' fr := ⟨R.fn, R.tm, ht, R.ds, by simpa using R.mode, R.kind, R.round⟩
  unfold regionA at e
  split at e
  · rename_i hw
    exact opA_ok hP F FF S H ho hrest hk (wanted_ok R.tm hw) e
  · rename_i hw
    cases e
    intro _
    refine ⟨ι, _, w, #[], step_none H (fun o' ho' => ?_), Grow.refl _ _, S, (H.finish ho (Ext.refl ι) RV_undef).rf hk hrest, FineG.refl w, rfl⟩
    rw [ho] at ho'; cases ho'
    exact wanted_ok R.tm hw
  · cases e
theorem enterLoop_ok (S : Sat K ι h w) (R : RF ι ⟨x, tm, todo, ds, false⟩ fr) {ps : Array Tmp} {a b : Code} {d : Nat} {h1 : AH} {mark : List AD}
    (e : (match x.round with
         | some l => (match h.obj l with | .loop _ _ _ _ _ _ _ _ d => some (d, h, []) | _ => none)
         | none => some (h.nx, h.new (.dfr false), [AD.mk .nilm [.ptr h.nx 0]])) = some (d, h1, mark)) :
    Free ι h.nx (h1.new (.loop .ready none x.fn x.nt tm ps.toList a b d)).nx → ∃ ι' w' l mk es, SRun P (Instr.enterLoop fr.fn fr.tmps ps a b fr.roundOf) w (l, mk) w' es ∧ Grow ι ι' h.nx (h1.new (.loop .ready none x.fn x.nt tm ps.toList a b d)).nx ∧
      Sat K ι' (h1.new (.loop .ready none x.fn x.nt tm ps.toList a b d)) w' ∧ Fine K w w' es ∧ (h1.new (.loop .ready none x.fn x.nt tm ps.toList a b d)).df = h.df ∧ RDs ι' mark mk ∧ ∃ p, ι' h1.nx = some p ∧ p.1 = l := fun hf => by
  have hr := R.round
  have new1 : ∀ {ι1 : Nm} {h1 : AH} {w1 : World} (S1 : Sat K ι1 h1 w1) (hf1 : ι1 h1.nx = none) {q : Nat × Nat} (hq : ι1 d = some q) (hE : Ext ι ι1),
      Sat K (upd ι1 h1.nx (w1.heap.size, 0)) (h1.new (.loop .ready none x.fn x.nt tm ps.toList a b d)) { w1 with heap := w1.heap.push (.loop { state := .ready, pending := none, fn := fr.fn, tmps := fr.tmps, params := ps, assign := a, body := b, defers := q.1 }) } := by
    intro ι1 h1 w1 S1 hf1 q hq hE
    refine S1.newO hf1 (cap := 0) ?_
    have hE1 := ext_upd (p := (w1.heap.size, 0)) hf1
    exact ⟨q, hE1 _ _ hq, _, rfl, rfl, rfl, R.fn, (R.tm.mono hE).mono hE1, rfl, rfl, rfl, rfl⟩
  split at e
  · rename_i l hx
    rw [hx] at hr
    obtain ⟨p, hp, hr⟩ := hr
    split at e
    · rename_i st pd fn nt t ps' a' b' d' hobj
      cases e
      obtain ⟨p', ob, hp', hb1, hb2, hb3, hb4, hb5⟩ := S.at hobj trivial
      obtain rfl : p = p' := by rw [hp] at hp'; exact Option.some.inj hp'
      obtain ⟨q, hq, L, rfl, e1, e2, e3, e4, e5, e6, e7, e8⟩ := hb5
      have hfn : ι h.nx = none := hf _ (Nat.le_refl _) (by rw [AH.new_nx]; omega)
      refine ⟨_, _, w.heap.size, [], [⟨.obj p.1, false, false⟩], ?_, by rw [AH.new_nx]; exact Grow.upd, new1 S hfn hq (Ext.refl ι), ?_, AH.new_df, rfl, (w.heap.size, 0), upd_self _ _ _, rfl⟩
      · have hr : fr.roundOf = some p.1 := hr
        rw [hr]
        unfold Instr.enterLoop
        refine SRun.bind (w1 := w) (e1 := [⟨.obj p.1, false, false⟩]) (e2 := []) (a := L) ?_ ?_
        · unfold Instr.getLoop
          exact SRun.bind (w1 := w) (e2 := []) (e1 := [⟨.obj p.1, false, false⟩]) (SRun.getObj (P := P) hb4 (by simp)) (SRun.pure _)
        · rw [e8]; exact SRun.bind0 (SRun.pure _) (SRun.bind0 (SRun.new _) (SRun.pure _))
      · have h0 : Fine K w w [(⟨.obj p.1, false, false⟩ : Event)] := Fine.refl K w (by intro e he; simp only [List.mem_singleton] at he; subst he; exact ⟨hb1, hb2, hb3, rfl⟩)
        have := h0.trans (Fine.newO (w := w) (.loop { state := .ready, pending := none, fn := fr.fn, tmps := fr.tmps, params := ps, assign := a, body := b, defers := q.1 }) K)
        simpa using this
    · cases e
  · rename_i hx
    rw [hx] at hr
    have hr : fr.roundOf = none := hr
    cases e
    have hfn : ι h.nx = none := hf _ (Nat.le_refl _) (by rw [AH.new_nx, AH.new_nx]; omega)
    have S1 := S.newO hfn (o := .dfr false) (ob := .deferred (some [])) (cap := 0) rfl
    have hE1 : Ext ι (upd ι h.nx (w.heap.size, 0)) := ext_upd hfn
    have hfn1 : (upd ι h.nx (w.heap.size, 0)) (h.new (.dfr false)).nx = none := by
      have e1 : (h.new (.dfr false)).nx = h.nx + 1 := AH.new_nx
      rw [upd_ne (by omega)]
      exact hf _ (by omega) (by have : ((h.new (.dfr false)).new (.loop .ready none x.fn x.nt tm ps.toList a b h.nx)).nx = (h.new (.dfr false)).nx + 1 := AH.new_nx
                                omega)
    have S2 := new1 S1 hfn1 (upd_self ι h.nx (w.heap.size, 0)) hE1
    refine ⟨_, _, w.heap.size + 1, [{ target := .collected w.heap.size, args := #[] }], [], ?_, ?_, S2, ?_, by rw [AH.new_df, AH.new_df], ⟨_, [], rfl, ?_, rfl⟩, _, upd_self _ _ _, ?_⟩
    · rw [hr]
      unfold Instr.enterLoop
      refine SRun.bind0 (SRun.new _) ?_
      refine SRun.bind0 (SRun.pure _) ?_
      refine SRun.bind0 (SRun.new _) ?_
      simp only [Array.size_push]
      exact SRun.pure _
    · have g1 : Grow ι (upd ι h.nx (w.heap.size, 0)) h.nx (h.new (.dfr false)).nx := by rw [AH.new_nx]; exact Grow.upd
      have g2 : ∀ p, Grow (upd ι h.nx (w.heap.size, 0)) (upd (upd ι h.nx (w.heap.size, 0)) (h.new (.dfr false)).nx p) (h.new (.dfr false)).nx ((h.new (.dfr false)).new (.loop .ready none x.fn x.nt tm ps.toList a b h.nx)).nx := fun p => by
        rw [AH.new_nx (h := h.new (.dfr false))]; exact Grow.upd
      exact g1.trans (g2 _)
    · have h0 := Fine.newO (w := w) (.deferred (some [])) K
      have := h0.trans (Fine.newO (w := { w with heap := w.heap.push (.deferred (some [])) }) (.loop { state := .ready, pending := none, fn := fr.fn, tmps := fr.tmps, params := ps, assign := a, body := b, defers := w.heap.size }) K)
      simpa using this
    · show RD _ ⟨.nilm, [.ptr h.nx 0]⟩ _
      unfold RD
      intro id hid
      simp only [List.cons.injEq, AV.ptr.injEq, and_true] at hid
      subst hid
      exact ⟨(w.heap.size, 0), ext_upd hfn1 _ _ (upd_self _ _ _), rfl⟩
    · simp
end
end Go.Ev
namespace Go.Ev
open Go.Conc (G)
section
variable {P : Program} {main : Bool} {K : Ctx} {ι : Nm} {h : AH} {w : World} {E : Env}
variable {x : AX} {tm : Tr AV} {todo : List AI} {ds : List AD} {fr : Frame} {cs : List Frame}
theorem rangeFunc_ok (FF : FitsF P E) (S : Sat K ι h w) {k : List AI} {g : Operand} {ps : Array Tmp} {a b : Code} (R : RF ι ⟨x, tm, .code (.rangeFunc g ps a b) :: k, ds, false⟩ fr)
    {r : A1} (e : rangeFuncA E x tm ds h k g ps a b = some r) : A1Ok P main K ι h w fr cs r := by
  obtain ⟨i, k', ht, rfl, hk⟩ := R.todo
  have hmode : fr.mode = .run := by simpa using R.mode
  unfold rangeFuncA at e
  split at e
  · rename_i d h1 mark he
    split at e
    · rename_i i first cap hv
      split at e
      · rename_i c n rs ex hg
        cases e
        intro hf
        obtain ⟨ι', w', l, mk, es, h2, h3, h4, h5, h6, h7, p, hp, rfl⟩ := enterLoop_ok (P := P) (ps := ps) (a := a) (b := b) S R he hf
        have hE := h3.ext hf
        have hgv := R.tm.ev fr rfl g
        rw [hv] at hgv
        obtain ⟨fs, ccs, hgv, hfs, hcs⟩ := fn_inv hgv
        obtain ⟨fn, k1, k2, _, _, k5⟩ := FF.code i c n rs ex hg
        let fr1 : Frame := { fr with todo := .inRangeFunc p.1 :: k', defers := mk ++ fr.defers }
        have hargs : RVs ι' (first ++ [.yield h1.nx] ++ cap) ((fs ++ #[Value.func (.yield p.1) #[] #[]]) ++ ccs).toList := by
          simp only [Array.toList_append]
          refine ((hfs.mono hE).append (RVs_cons ?_ RVs_nil)).append (hcs.mono hE)
          unfold RV; exact ⟨p, hp, rfl⟩
        refine ⟨ι', fr1, (fs ++ #[Value.func (.yield p.1) #[] #[]]) ++ ccs, w', seen P fr.fn es.toArray, ?_, h3, h4, hargs, ⟨fun ι'' v u hE' _ => ?_, hmode⟩, S.fineG h4 h5 fr.fn, by rw [seen_still h5.evs, h6]⟩
        · have hs : stepG P main (G fr cs) w = stepG.exec P main true fr cs none w := by simp [G, stepG, hmode]
          rw [hs]
          unfold stepG.exec
          simp only [ht]
          have hl := h2 #[]
          simp only [Array.empty_append] at hl
          simp only [hl]
          have he1 : ∀ y, fr1.eval y = fr.eval y := fun y => by cases y <;> rfl
          have hres : SRun P (resolve fr1.eval { callee := .value g, args := #[.const (.func (.yield p.1) #[] #[])], argTypes := #[] } 0) w' { target := .fn (.func i) ccs, args := fs ++ #[Value.func (.yield p.1) #[] #[]] } w' [] := by
            unfold resolve
            simp only [he1, hgv]
            rw [show Array.map fr1.eval #[Operand.const (Value.func (Fn.yield p.1) #[] #[])] = #[Value.func (.yield p.1) #[] #[]] from by simp [Frame.eval]]
            exact SRun.pure _
          have hthen := SRun.thenT hres (fun d => invoke d.target d.args) #[]
          have hinv : (invoke (.fn (.func i) ccs) (fs ++ #[Value.func (.yield p.1) #[] #[]])).runT P w' #[] = (callFunc i (fs ++ #[Value.func (.yield p.1) #[] #[]] ++ ccs)).runT P w' #[] := rfl
          have hen := callFunc_enter (w := w') (vs := fs ++ #[Value.func (.yield p.1) #[] #[]] ++ ccs) k1 (by rw [k2]; rfl) k5 #[]
          have hall : (resolve fr1.eval { callee := .value g, args := #[.const (.func (.yield p.1) #[] #[])], argTypes := #[] } 0 >>= fun d => invoke d.target d.args).runT P w' #[] = (.ok (.enter i (fs ++ #[Value.func (.yield p.1) #[] #[]] ++ ccs)) w', #[]) := by
            rw [hthen]
            show (invoke (.fn (.func i) ccs) (fs ++ #[Value.func (.yield p.1) #[] #[]])).runT P w' #[] = _
            rw [hinv, hen]
            simp
          have hk := kind_not_early R.kind
          have hap : stepG.apply P true fr1 cs none (resolve fr1.eval { callee := .value g, args := #[.const (.func (.yield p.1) #[] #[])], argTypes := #[] } 0 >>= fun d => invoke d.target d.args) w' = .go (G (Frame.enter P i (fs ++ #[Value.func (.yield p.1) #[] #[]] ++ ccs) .normal) (fr1 :: cs)) w' #[] := by
            unfold stepG.apply
            simp only [if_true, hall, fr1]
            simp [GStep.after, G, seen, hk]
          have := hap
          simp only [fr1] at this
          rw [this]
          simp [GStep.after, fr1]
        · refine ⟨R.fn, (R.tm.mono hE).mono hE', ?_, ?_, hmode, R.kind, round_mono hE' (round_mono hE R.round)⟩
          · exact ⟨_, _, rfl, ⟨p, hE' _ _ hp, rfl⟩, (hk.mono hE).mono hE'⟩
          · exact ((h7.append (R.ds.mono hE))).mono hE'
      · cases e
    · cases e
  · cases e
theorem code_ok (FF : FitsF P E) (S : Sat K ι h w) {c : Code} {k : List AI} (R : RF ι ⟨x, tm, .code c :: k, ds, false⟩ fr) {r : A1} (e : codeA E c k x tm ds h = some r) : A1Ok P main K ι h w fr cs r := by
  obtain ⟨i, k', ht, rfl, hk⟩ := R.todo
  have hrun := RF.runs (P := P) (main := main) (w := w) (cs := cs) R
  have hmode : fr.mode = .run := by simpa using R.mode
  have he : ∀ l, stepG.exec P main true fr cs none w = .go (G { fr with todo := l } cs) w → stepG P main (G fr cs) w = .go (G { fr with todo := l } cs) w #[] := fun l hl => by rw [hrun, hl]
  cases c with
  | skip =>
    cases e
    exact goTo_todo S R hk (he _ (by unfold stepG.exec; simp only [ht]; rfl))
  | label n =>
    cases e
    exact goTo_todo S R hk (he _ (by unfold stepG.exec; simp only [ht]; rfl))
  | ret =>
    refine leave_ok S R (jump := some .ret) e ?_
    rw [hrun]; unfold stepG.exec; simp only [ht]; unfold leaveG; simp only [ht]; rfl
  | seq a b =>
    cases e
    exact goTo_todo S R (.cons rfl (.cons rfl hk)) (he _ (by unfold stepG.exec; simp only [ht]; rfl))
  | cond c a b =>
    have e : (match ev tm c with
     | .bool t => some (A1.go ⟨x, tm, .code (cond t a b) :: k, ds, false⟩ h)
     | _ => none) = some r := e
    split at e
    · rename_i t hv
      cases e
      have hc := R.tm.ev fr rfl c
      rw [hv] at hc
      have hc : fr.eval c = .bool t := bool_inv hc
      refine goTo_todo S R (.cons (i := .code (if t then a else b)) (by cases t <;> rfl) hk) (he _ ?_)
      unfold stepG.exec; simp only [ht, hc]; rfl
    · cases e
  | block id body =>
    cases e
    exact goTo_todo S R (.cons rfl (.cons rfl hk)) (he _ (by unfold stepG.exec; simp only [ht]; rfl))
  | loop body =>
    cases e
    exact goTo_todo S R (.cons rfl (.cons rfl hk)) (he _ (by unfold stepG.exec; simp only [ht]; rfl))
  | scope body =>
    cases e
    exact goTo_todo S R (.cons rfl (.cons rfl hk)) (he _ (by unfold stepG.exec; simp only [ht]; rfl))
  | exit id =>
    have e : (match exitA id k with
     | some k' => some (A1.go ⟨x, tm, k', ds, false⟩ h)
     | none => leaveA x tm (.code (.exit id) :: k) ds h (some (.exit id))) = some r := e
    split at e
    · rename_i k2 hx
      cases e
      obtain ⟨k3, h1, h2⟩ := exitA_ok hx hk
      refine goTo_todo S R h2 (he _ ?_)
      unfold stepG.exec; simp only [ht, h1]; rfl
    · rename_i hx
      have h1 := exitA_no hx hk
      refine leave_ok S R e ?_
      rw [hrun]; unfold stepG.exec; simp only [ht, h1]; unfold leaveG; rfl
  | goto l =>
    have e : (match gotoA l k with
     | some k' => some (A1.go ⟨x, tm, k', ds, false⟩ h)
     | none => leaveA x tm (.code (.goto l) :: k) ds h (some (.goto l))) = some r := e
    split at e
    · rename_i k2 hx
      cases e
      obtain ⟨k3, h1, h2⟩ := gotoA_ok hx hk
      refine goTo_todo S R h2 (he _ ?_)
      unfold stepG.exec; simp only [ht, h1]; rfl
    · rename_i hx
      have h1 := gotoA_no hx hk
      refine leave_ok S R e ?_
      rw [hrun]; unfold stepG.exec; simp only [ht, h1]; unfold leaveG; rfl
  | rangeFunc g ps a b => exact rangeFunc_ok FF S R e
  | region id ops draw =>
    cases draw with
    | false =>
      cases e
      exact goTo_todo S R (.cons ⟨0, rfl, rfl⟩ hk) (he _ (by unfold stepG.exec; simp only [ht]; rfl))
    | true =>
      cases e
      obtain ⟨t, w', hr, ⟨d, rfl⟩, _⟩ := SRun.choose (P := P) (w := w) (.order fr.fn id)
      refine ⟨rfl, t, d, k', ?_, hk, ⟨R.fn, R.tm, rfl, R.ds, hmode, R.kind, R.round⟩⟩
      rw [hrun]
      unfold stepG.exec
      simp only [ht, Bool.not_true, Bool.false_eq_true, if_false, hr.run, FF.mixed]
      simp [Region.schedule, G]
  | refuse s => cases e
def popA (p : Option Code) (k : List AI) : List AI := match p with | some c => .code c :: k | none => k
def isBusy (st : LoopState) : Bool := match st with | .busy => true | _ => false
theorem item_ok (hP : Of K P E) (F : Fits P E) (FF : FitsF P E) (S : Sat K ι h w) {i : AI} {k : List AI} (R : RF ι ⟨x, tm, i :: k, ds, false⟩ fr) {r : A1} (e : itemA E i k x tm ds h = some r) : A1Ok P main K ι h w fr cs r := by
  have hrun := RF.runs (P := P) (main := main) (w := w) (cs := cs) R
  have hmode : fr.mode = .run := by simpa using R.mode
  have he : ∀ l, stepG.exec P main true fr cs none w = .go (G { fr with todo := l } cs) w → stepG P main (G fr cs) w = .go (G { fr with todo := l } cs) w #[] := fun l hl => by rw [hrun, hl]
  cases i with
  | code c => exact code_ok FF S R e
  | inBlock id =>
    obtain ⟨i, k', ht, rfl, hk⟩ := R.todo
    cases e
    exact goTo_todo S R hk (he _ (by unfold stepG.exec; simp only [ht]; rfl))
  | inScope id =>
    obtain ⟨i, k', ht, rfl, hk⟩ := R.todo
    cases e
    exact goTo_todo S R hk (he _ (by unfold stepG.exec; simp only [ht]; rfl))
  | inLoop body =>
    obtain ⟨i, k', ht, rfl, hk⟩ := R.todo
    cases e
    exact goTo_todo S R (.cons rfl (.cons rfl hk)) (he _ (by unfold stepG.exec; simp only [ht]; rfl))
  | inRegion ops l =>
    cases l with
    | nil =>
      obtain ⟨i, k', ht, ⟨j, hj, rfl⟩, hk⟩ := R.todo
      cases e
      have hn : (List.range ops.size).drop j = [] := by
        apply List.drop_eq_nil_of_le
        have : ops.toList.length ≤ j := by
          rcases Nat.lt_or_ge j ops.toList.length with h | h
          · rw [List.drop_eq_getElem_cons h] at hj; cases hj
          · exact h
        simpa using this
      rw [hn] at ht
      exact goTo_todo S R hk (he _ (by unfold stepG.exec; simp only [ht]; rfl))
    | cons o rest => exact regionA_ok hP F FF S R e
  | inRangeFunc id => cases e
  | endRangeFunc l =>
    obtain ⟨i, k', ht, ⟨p, hp, rfl⟩, hk⟩ := R.todo
    have e : (match h.obj l with
     | .loop st p fn nt t ps a b d => cond (isBusy st) none
         (some (A1.go ⟨x, tm, popA p k, ds, false⟩ (h.put l (.loop .exhausted p fn nt t ps a b d))))
     | _ => none) = some r := e
    split at e
    · rename_i st pd fn nt t ps a b d hobj
      obtain ⟨p', ob, hp', hb1, hb2, hb3, hb4, hb5⟩ := S.at hobj trivial
      obtain rfl : p = p' := by rw [hp] at hp'; exact Option.some.inj hp'
      obtain ⟨q, hq, L, rfl, e1, e2, e3, e4, e5, e6, e7, e8⟩ := hb5
      have hst : (st == LoopState.busy) = false := by
        cases st <;> first | rfl | cases e
      have e : A1.go ⟨x, tm, popA pd k, ds, false⟩ (h.put l (.loop .exhausted pd fn nt t ps a b d)) = r := by
        cases st <;> first | exact Option.some.inj e | cases e
      subst e
      have hro : RO K.P ι p.2 (.loop .exhausted pd fn nt t ps a b d) (.loop { L with state := .exhausted }) := ⟨q, hq, _, rfl, rfl, e2, e3, e4, e5, e6, e7, e8⟩
      have hset := setObj_ok (P := P) S hp hobj trivial hb4 (by simp) hro rfl
      intro hf
      obtain ⟨ι', w', es, g1, g2, g3, g4, g5⟩ := hset hf
      have hE := g2.ext hf
      have hr : SRun P (Instr.endLoop p.1) w L.pending w' ([(⟨.obj p.1, false, false⟩ : Event)] ++ es) := by
        unfold Instr.endLoop
        refine SRun.bind (w1 := w) (e1 := [⟨.obj p.1, false, false⟩]) (e2 := es) (a := L) ?_ ?_
        · unfold Instr.getLoop
          exact SRun.bind (w1 := w) (e2 := []) (e1 := [⟨.obj p.1, false, false⟩]) (SRun.getObj (P := P) hb4 (by simp)) (SRun.pure _)
        · rw [e1, hst]
          have := SRun.bind (e2 := []) g1 (SRun.pure (P := P) (w := w') L.pending) (f := fun _ => Pure.pure L.pending)
          simpa using this
      have hfi : Fine K w w' ([(⟨.obj p.1, false, false⟩ : Event)] ++ es) :=
        (Fine.refl K w (by intro e he; simp only [List.mem_singleton] at he; subst he; exact ⟨hb1, hb2, hb3, rfl⟩) : Fine K w w [(⟨.obj p.1, false, false⟩ : Event)]).trans g4
      refine ⟨ι', { fr with todo := (L.pending.map Item.code).toList ++ k' }, w', seen P fr.fn ([(⟨.obj p.1, false, false⟩ : Event)] ++ es).toArray, ?_, g2, g3, ?_, S.fineG g3 hfi fr.fn, by rw [seen_still hfi.evs, AH.put_df]⟩
      · rw [hrun]
        unfold stepG.exec
        simp only [ht]
        have := hr #[]
        simp only [Array.empty_append] at this
        simp only [this]
        simp [GStep.after, G]
      · refine ⟨R.fn, R.tm.mono hE, ?_, R.ds.mono hE, R.mode, R.kind, round_mono hE R.round⟩
        rw [e2]
        cases pd with
        | none => exact hk.mono hE
        | some c => exact ⟨_, _, rfl, rfl, hk.mono hE⟩
    · cases e
  | inDrawn ops n => cases e
  | beginRound =>
    obtain ⟨i, k', ht, rfl, hk⟩ := R.todo
    have e : (match x.round with
     | some l => (match h.obj l with
       | .loop .ready p fn nt t ps a b d => some (A1.go ⟨x, tm, k, ds, false⟩ (h.put l (.loop .busy p fn nt t ps a b d)))
       | _ => none)
     | none => none) = some r := e
    split at e
    · rename_i l hx
      have hr := R.round
      simp only [hx] at hr
      obtain ⟨p, hp, hr⟩ := hr
      split at e
      · rename_i pd fn nt t ps a b d hobj
        cases e
        obtain ⟨p', ob, hp', hb1, hb2, hb3, hb4, hb5⟩ := S.at hobj trivial
        obtain rfl : p = p' := by rw [hp] at hp'; exact Option.some.inj hp'
        obtain ⟨q, hq, L, rfl, e1, e2, e3, e4, e5, e6, e7, e8⟩ := hb5
        have hro : RO K.P ι p.2 (.loop .busy pd fn nt t ps a b d) (.loop { L with state := .busy }) := ⟨q, hq, _, rfl, rfl, e2, e3, e4, e5, e6, e7, e8⟩
        have hset := setObj_ok (P := P) S hp hobj trivial hb4 (by simp) hro rfl
        intro hf
        obtain ⟨ι', w', es, g1, g2, g3, g4, g5⟩ := hset hf
        have hE := g2.ext hf
        have hb : SRun P (Instr.beginRound p.1) w () w' ([(⟨.obj p.1, false, false⟩ : Event)] ++ es) := by
          unfold Instr.beginRound
          refine SRun.bind (w1 := w) (e1 := [⟨.obj p.1, false, false⟩]) (e2 := es) (a := L) ?_ ?_
          · unfold Instr.getLoop
            exact SRun.bind (w1 := w) (e2 := []) (e1 := [⟨.obj p.1, false, false⟩]) (SRun.getObj (P := P) hb4 (by simp)) (SRun.pure _)
          · rw [e1]
            have := SRun.bind (e2 := []) g1 (SRun.pure (P := P) (w := w') ()) (f := fun _ => Pure.pure ())
            simpa using this
        have hs : SRun P (do fr.roundOf.elim (stuck "beginRound: no round") Instr.beginRound; Pure.pure Next.skip) w .skip w' ([(⟨.obj p.1, false, false⟩ : Event)] ++ es) := by
          rw [hr]
          have := SRun.bind (e2 := []) hb (SRun.pure (P := P) (w := w') Next.skip) (f := fun _ => Pure.pure Next.skip)
          simpa using this
        have hfi : Fine K w w' ([(⟨.obj p.1, false, false⟩ : Event)] ++ es) :=
          (Fine.refl K w (by intro e he; simp only [List.mem_singleton] at he; subst he; exact ⟨hb1, hb2, hb3, rfl⟩) : Fine K w w [(⟨.obj p.1, false, false⟩ : Event)]).trans g4
        refine ⟨ι', { fr with todo := k' }, w', seen P fr.fn ([(⟨.obj p.1, false, false⟩ : Event)] ++ es).toArray, ?_, g2, g3, ?_, S.fineG g3 hfi fr.fn, by rw [seen_still hfi.evs, AH.put_df]⟩
        · rw [hrun]
          unfold stepG.exec
          simp only [ht]
          have hk := kind_not_early R.kind
          have := hs #[]
          simp only [Array.empty_append] at this
          unfold stepG.apply
          simp only [if_true, this, hk, ht]
          simp [GStep.after, G, Frame.finish, ht]
        · exact ⟨R.fn, R.tm.mono hE, hk.mono hE, R.ds.mono hE, R.mode, R.kind, round_mono hE R.round⟩
      · cases e
    · cases e
theorem step_ok (hP : Of K P E) (F : Fits P E) (FF : FitsF P E) (S : Sat K ι h w) {f : AF} (R : RF ι f fr) {r : A1} (e : stepA E f h = some r) : A1Ok P main K ι h w fr cs r := by
  obtain ⟨x, tm, todo, ds, ret⟩ := f
  cases ret with
  | true => exact ret_ok hP F FF S R e
  | false =>
    cases todo with
    | nil =>
      refine leave_ok S R (jump := none) e ?_
      have ht : fr.todo = [] := R.todo
      rw [RF.runs R]; unfold stepG.exec; simp only [ht]; unfold leaveG
      simp only [ht]
      rfl
    | cons i k => exact item_ok hP F FF S R e
end
end Go.Ev
namespace Go.Ev
section
variable {E : Env} {h : AH}
theorem nx_put {i : Nat} {o : AO} : h.nx ≤ (h.put i o).nx := by rw [AH.put_nx]; exact Nat.le_refl _
theorem nx_new {o : AO} : h.nx ≤ (h.new o).nx := by rw [AH.new_nx]; omega
def OR.Up (h : AH) : OR → Prop
  | .val _ h' => h.nx ≤ h'.nx
  | .alts l => ∀ p ∈ l, h.nx ≤ p.2.nx
  | _ => True
theorem storeC_up {id off : Nat} {vs : List AV} {h' : AH} (e : storeC h id off vs = some h') : h.nx ≤ h'.nx := by
  unfold storeC at e
  split at e
  · rename_i l el g ho
    cases hb : (Nat.ble (off + vs.length) l.length && scalL vs) with
    | false => rw [hb] at e; cases e
    | true => rw [hb] at e; cases e; exact nx_put
  · cases e
theorem map_up {α : Type} {x : Option α} {f : α → OR} {r : OR} (e : x.map f = some r) (hf : ∀ a, x = some a → (f a).Up h) : r.Up h := by
  cases x with
  | none => cases e
  | some a => cases e; exact hf a rfl
theorem cond_up {b : Bool} {x y : Option OR} {r : OR} (e : cond b x y = some r) (hx : x = some r → r.Up h) (hy : y = some r → r.Up h) : r.Up h := by
  cases b with
  | true => exact hx e
  | false => exact hy e
theorem allocA_up {t : TypeId} {r : OR} (e : allocA E h t = some r) : r.Up h := by
  unfold allocA at e; split at e
  · cases e; exact nx_new
  · cases e
theorem boxA_up {t : TypeId} {v : AV} {r : OR} (e : boxA E h t v = some r) : r.Up h := by
  unfold boxA at e; split at e
  · exact cond_up e (fun e => by cases e) (fun e => by cases e; exact nx_new)
  · cases e
theorem buildSliceA_up {t : TypeId} {l : Nat} {ps : List (Nat × AV)} {r : OR} (e : buildSliceA E h t l ps = some r) : r.Up h := by
  unfold buildSliceA at e
  repeat' split at e
  all_goals first
    | (cases e; done)
    | exact cond_up e (fun e => by cases e) (fun e => map_up e fun a _ => nx_new)
theorem storeA_up {t : TypeId} {a v : AV} {r : OR} (e : storeA E h t a v = some r) : r.Up h := by
  unfold storeA at e
  split at e
  · exact cond_up e (fun e => by cases e) (fun e => cond_up e (fun e => map_up e fun a ha => storeC_up ha) (fun e => by cases e))
  · cases e
theorem makeSliceA_up {t : TypeId} {l c : AV} {r : OR} (e : makeSliceA E h t l c = some r) : r.Up h := by
  unfold makeSliceA at e
  repeat' split at e
  all_goals first
    | (cases e; done)
    | exact cond_up e (fun e => by cases e; exact nx_new) (fun e => by cases e)
theorem makeMapA_up {t : TypeId} {x : Option AV} {r : OR} (e : makeMapA E h t x = some r) : r.Up h := by
  unfold makeMapA at e
  repeat' split at e
  all_goals first
    | (cases e; done)
    | (cases e; exact nx_new)
theorem mapUpdateA_up {t : TypeId} {m k x : AV} {r : OR} (e : mapUpdateA E h t m k x = some r) : r.Up h := by
  unfold mapUpdateA at e
  repeat' split at e
  all_goals first
    | (cases e; done)
    | (cases e; exact nx_put)
theorem mapEntryA_up {t : TypeId} {m k : AV} {r : OR} (e : mapEntryA E h t m k = some r) : r.Up h := by
  unfold mapEntryA at e
  repeat' split at e
  all_goals first
    | (cases e; done)
    | (cases e; exact nx_put)
theorem entryStoreA_up {m s x : AV} {r : OR} (e : entryStoreA h m s x = some r) : r.Up h := by
  unfold entryStoreA at e
  repeat' split at e
  all_goals first
    | (cases e; done)
    | (cases e; exact nx_put)
theorem rangeA_up {t : TypeId} {x : AV} {r : OR} (e : rangeA E h t x = some r) : r.Up h := by
  unfold rangeA at e
  repeat' split at e
  all_goals first
    | (cases e; done)
    | (cases e; exact nx_new)
theorem nextMap_up {id m since : Nat} {seen : List Nat} {last : Nat} {r : OR} (e : nextMap h id m since seen last = some r) : r.Up h := by
  unfold nextMap at e
  split at e
  · refine cond_up e (fun e => by cases e) (fun e => cond_up e (fun e => ?_) (fun e => by cases e))
    split at e
    · cases e; exact Nat.le_refl _
    · cases e
      intro p hp
      obtain ⟨x, _, rfl⟩ := List.mem_map.1 hp
      exact nx_put
  · cases e
theorem nextA_up {it : AV} {isS : Bool} {r : OR} (e : nextA h it isS = some r) : r.Up h := by
  unfold nextA at e
  repeat' split at e
  all_goals first
    | (cases e; done)
    | (cases e; exact Nat.le_refl _)
    | exact nextMap_up e
    | exact cond_up e (fun e => by cases e; exact nx_put) (fun e => by cases e)
theorem deleteA_up {t : TypeId} {m k : AV} {r : OR} (e : deleteA E h t m k = some r) : r.Up h := by
  unfold deleteA at e
  repeat' split at e
  all_goals first
    | (cases e; done)
    | (cases e; exact nx_put)
    | exact cond_up e (fun e => by cases e; exact Nat.le_refl _) (fun e => by cases e)
theorem clearA_up {t : TypeId} {m : AV} {r : OR} (e : clearA E h t m = some r) : r.Up h := by
  unfold clearA at e
  repeat' split at e
  all_goals first
    | (cases e; done)
    | (cases e; exact nx_put)
theorem unsafeStringA_up {t : TypeId} {p n : AV} {r : OR} (e : unsafeStringA E h t p n = some r) : r.Up h := by
  unfold unsafeStringA at e
  repeat' split at e
  all_goals first
    | (cases e; done)
    | exact cond_up e (fun e => by cases e; exact Nat.le_refl _) (fun e => by cases e)
    | exact cond_up e (fun e => map_up e fun a _ => nx_put) (fun e => by cases e)
    | exact cond_up e (fun e => by cases e) (fun e => by cases e)
theorem appendA_up {ts tx : TypeId} {s x : AV} {p : AV × AH} (e : appendA E h ts tx s x = some p) : h.nx ≤ p.2.nx := by
  have cond_up : ∀ {b : Bool} {x y : Option (AV × AH)}, cond b x y = some p → (x = some p → h.nx ≤ p.2.nx) → (y = some p → h.nx ≤ p.2.nx) → h.nx ≤ p.2.nx := by
    intro b x y e hx hy
    cases b with
    | true => exact hx e
    | false => exact hy e
  unfold appendA at e
  split at e
  · split at e
    · cases e
    · refine cond_up e (fun e => by cases e) (fun e => ?_)
      split at e
      · cases e
      · refine cond_up e (fun e => by cases e) (fun e => ?_)
        split at e
        · exact cond_up e (fun e => by cases e; exact Nat.le_refl _) (fun e => by cases e; exact nx_new)
        · refine cond_up e (fun e => ?_) (fun e => cond_up e (fun e => by cases e) (fun e => ?_))
          · cases hs : storeC h _ _ _ with
            | none => rw [hs] at e; cases e
            | some h' => rw [hs] at e; cases e; exact storeC_up hs
          · cases hs : loadC E h _ _ _ with
            | none => rw [hs] at e; cases e
            | some h' => rw [hs] at e; cases e; exact nx_new
        · refine cond_up e (fun e => by cases e) (fun e => ?_)
          split at e
          · refine cond_up e (fun e => ?_) (fun e => by cases e)
            cases e
            exact Nat.le_trans nx_put nx_new
          · cases e
        · cases e
  · cases e
theorem omap_up {α : Type} {x : Option AH} {f : AH → AV × AH} {p : AV × AH} (e : x.map f = some p) (hf : ∀ a, x = some a → h.nx ≤ (f a).2.nx) : h.nx ≤ p.2.nx := by
  cases x with
  | none => cases e
  | some a => cases e; exact hf a rfl
theorem copyA_up {td : TypeId} {d s : AV} {p : AV × AH} (e : copyA E h td d s = some p) : h.nx ≤ p.2.nx := by
  unfold copyA at e
  split at e
  · split at e
    · cases e
    · split at e
      · dsimp only at e
        split at e
        · exact omap_up (α := Nat) e fun a ha => storeC_up ha
        · cases e
      · dsimp only at e
        exact omap_up (α := Nat) e fun a ha => storeC_up ha
      · cases e; exact Nat.le_refl _
      · cases e; exact Nat.le_refl _
      · cases e; exact Nat.le_refl _
      · cases e
  · cases e
theorem convA_up {s d : TypeId} {x : AV} {r : OR} (e : convA E s d x h = some r) : r.Up h := by
  unfold convA at e
  repeat' split at e
  all_goals first
    | (cases e; done)
    | (cases e; exact Nat.le_refl _)
    | exact cond_up e (fun e => by cases e; exact Nat.le_refl _) (fun e => by cases e)
    | exact cond_up e (fun e => by cases e; exact nx_new) (fun e => by cases e)
    | exact map_up e fun a _ => Nat.le_refl _
theorem loudB_up {b : Builtin} {args : List AV} {ts : List TypeId} {r : OR} (e : loudB E h b args ts = some r) : r.Up h := by
  unfold loudB at e
  split at e
  · split at e
    · exact map_up e fun p hp => appendA_up hp
    · cases e
  · split at e
    · exact map_up e fun p hp => copyA_up hp
    · cases e
  · split at e
    · exact deleteA_up e
    · cases e
  · split at e
    · exact clearA_up e
    · cases e
  · split at e
    · exact unsafeStringA_up e
    · cases e
  · cases e
theorem callA_up {tm : Tr AV} {c : Call} {r : OR} (e : callA c E tm h = some r) : r.Up h := by
  unfold callA at e
  split at e
  · exact loudB_up e
  · unfold callV at e
    split at e
    · cases e; trivial
    · cases e; trivial
    · cases e
  · unfold invokeA at e
    split at e
    · split at e
      · cases e; trivial
      · cases e
    · cases e
theorem loud_up {tm : Tr AV} {op : Op} {r : OR} (e : loudOp op E tm h = some r) : r.Up h := by
  cases op
  case alloc t => exact allocA_up (E := E) e
  case box t x => exact boxA_up (E := E) e
  case buildSlice t l ps => exact buildSliceA_up (E := E) e
  case store t a x => exact storeA_up (E := E) e
  case insert t m k x => exact mapUpdateA_up (E := E) e
  case mapUpdate t m k x => exact mapUpdateA_up (E := E) e
  case mapEntry t m k => exact mapEntryA_up (E := E) e
  case entryStore t m s x => exact entryStoreA_up e
  case convert s d x => exact convA_up (E := E) e
  case makeMap t x => exact makeMapA_up (E := E) e
  case makeSlice t l c => exact makeSliceA_up (E := E) e
  case range t x => exact rangeA_up (E := E) e
  case next it isS => exact nextA_up e
  case call c => exact callA_up (E := E) e
  case go c => cases e; trivial
  case defer c =>
    have e' : (match c.callee with
      | .value g => (match ev tm g with
        | .fn f a b => some (OR.dfr ⟨.fn f a b, evs tm c.args.toList⟩)
        | _ => none)
      | _ => none) = some r := e
    split at e'
    · split at e'
      · cases e'; trivial
      · cases e'
    · cases e'
  all_goals (cases e)
theorem ext_up' {x : EX} {args : List AV} {r : OR} (e : extA x args h = some r) : r.Up h := by
  unfold extA at e
  repeat' split at e
  all_goals first
    | (cases e; done)
    | (cases e; exact Nat.le_refl _)
    | (cases e; show h.nx ≤ (h.new _).nx; rw [AH.new_nx]; omega)
    | (cases e; trivial)
    | exact cond_up e (fun e => by cases e) (fun e => by cases e; exact Nat.le_refl _)
    | exact cond_up e (fun e => map_up e fun a ha => storeC_up ha) (fun e => by cases e)
    | exact cond_up e (fun e => by cases e; exact Nat.le_refl _) (fun e => by cases e)
    | exact cond_up e (fun e => cond_up e (fun e => map_up e fun a ha => storeC_up ha) (fun e => by cases e; exact Nat.le_refl _)) (fun e => by cases e)
def A1.Up (h : AH) : A1 → Prop
  | .go _ h' | .call _ _ _ _ h' | .dcall _ _ _ h' | .round _ _ _ _ h' | .drawn _ _ _ _ _ h' | .ret _ h' => h.nx ≤ h'.nx
  | .alts l => ∀ p ∈ l, h.nx ≤ p.2.nx
  | .stop => True
section
variable {x : AX} {tm : Tr AV} {todo td : List AI} {ds : List AD} {r : A1}
theorem leave_up {j : Option Code} (e : leaveA x tm todo ds h j = some r) : r.Up h := by
  unfold leaveA at e
  repeat' split at e
  all_goals first
    | (cases e; done)
    | (cases e; exact Nat.le_refl _)
    | (cases e; exact nx_put)
theorem retA_up (e : retA E x tm todo ds h = some r) : r.Up h := by
  unfold retA at e
  repeat' split at e
  all_goals first
    | (cases e; done)
    | (cases e; exact nx_put)
    | (cases e; exact Nat.le_refl _)
    | (cases e; trivial)
    | (cases e; rename_i hx; exact ext_up' hx)
theorem extR_up {d : Option Tmp} {o : Option OR} (ho : ∀ q, o = some q → q.Up h) (e : extR x tm d td ds o = some r) : r.Up h := by
  unfold extR at e
  split at e
  · cases e; exact ho _ rfl
  · cases e; trivial
  · cases e
theorem callR_up {d : Option Tmp} {g : FuncId} {args : List AV} (e : callR E x tm d td ds h g args = some r) : r.Up h := by
  unfold callR at e
  split at e
  · cases e; exact Nat.le_refl _
  · exact extR_up (fun q hq => ext_up' hq) e
  · cases e
theorem opA_up {o : Oper} (e : opA E x tm td ds h o = some r) : r.Up h := by
  unfold opA at e
  split at e
  · cases e; exact Nat.le_refl _
  · cases hl : loudOp o.op E tm h with
    | none => rw [hl] at e; cases e
    | some q =>
      have hu := loud_up hl
      rw [hl] at e
      cases q with
      | val v h' => cases e; exact hu
      | call g args => exact callR_up e
      | yield l args => cases e; exact Nat.le_refl _
      | dfr a =>
        simp only [loudR] at e
        split at e
        · cases e; exact Nat.le_refl _
        · cases e
      | alts l =>
        cases e
        intro p hp
        obtain ⟨q, hq, rfl⟩ := List.mem_map.1 hp
        exact hu q hq
      | stop => cases e; trivial
theorem regionA_up {k : List AI} {ops : Array Oper} {o : Oper} {rest : List Oper} (e : regionA E x tm ds h k ops o rest = some r) : r.Up h := by
  unfold regionA at e
  split at e
  · exact opA_up e
  · cases e; exact Nat.le_refl _
  · cases e
theorem rangeFuncA_up {k : List AI} {g : Operand} {ps : Array Tmp} {a b : Code} (e : rangeFuncA E x tm ds h k g ps a b = some r) : r.Up h := by
  unfold rangeFuncA at e
  split at e
  · rename_i d h1 mark he
    have hh : h.nx ≤ h1.nx := by
      split at he
      · split at he
        · cases he; exact Nat.le_refl _
        · cases he
      · cases he; exact nx_new
    repeat' split at e
    all_goals first
      | (cases e; done)
      | (cases e; exact Nat.le_trans hh nx_new)
  · cases e
theorem codeA_up {c : Code} {k : List AI} (e : codeA E c k x tm ds h = some r) : r.Up h := by
  cases c with
  | ret => exact leave_up (j := some .ret) e
  | cond c a b =>
    have e : (match ev tm c with
     | .bool t => some (A1.go ⟨x, tm, .code (cond t a b) :: k, ds, false⟩ h)
     | _ => none) = some r := e
    split at e
    · cases e; exact Nat.le_refl _
    · cases e
  | exit id =>
    have e : (match exitA id k with
     | some k' => some (A1.go ⟨x, tm, k', ds, false⟩ h)
     | none => leaveA x tm (.code (.exit id) :: k) ds h (some (.exit id))) = some r := e
    split at e
    · cases e; exact Nat.le_refl _
    · exact leave_up e
  | goto l =>
    have e : (match gotoA l k with
     | some k' => some (A1.go ⟨x, tm, k', ds, false⟩ h)
     | none => leaveA x tm (.code (.goto l) :: k) ds h (some (.goto l))) = some r := e
    split at e
    · cases e; exact Nat.le_refl _
    · exact leave_up e
  | rangeFunc g ps a b => exact rangeFuncA_up (E := E) e
  | region id ops draw => cases draw <;> (cases e; exact Nat.le_refl _)
  | refuse s => cases e
  | _ => first | (cases e; done) | (cases e; exact Nat.le_refl _)
theorem itemA_up {i : AI} {k : List AI} (e : itemA E i k x tm ds h = some r) : r.Up h := by
  cases i with
  | code c => exact codeA_up (E := E) e
  | inRegion ops l =>
    cases l with
    | nil => cases e; exact Nat.le_refl _
    | cons o rest => exact regionA_up (E := E) e
  | inRangeFunc id => cases e
  | endRangeFunc l =>
    have e : (match h.obj l with
     | .loop st p fn nt t ps a b d => cond (isBusy st) none
         (some (A1.go ⟨x, tm, popA p k, ds, false⟩ (h.put l (.loop .exhausted p fn nt t ps a b d))))
     | _ => none) = some r := e
    split at e
    · rename_i st pd fn nt t ps a b d hobj
      cases st <;> first | (cases e; exact nx_put) | cases e
    · cases e
  | beginRound =>
    have e : (match x.round with
     | some l => (match h.obj l with
       | .loop .ready p fn nt t ps a b d => some (A1.go ⟨x, tm, k, ds, false⟩ (h.put l (.loop .busy p fn nt t ps a b d)))
       | _ => none)
     | none => none) = some r := e
    repeat' split at e
    all_goals first
      | (cases e; done)
      | (cases e; exact nx_put)
  | _ => first | (cases e; done) | (cases e; exact Nat.le_refl _)
theorem step_up {f : AF} (e : stepA E f h = some r) : r.Up h := by
  obtain ⟨x, tm, todo, ds, ret⟩ := f
  cases ret with
  | true => exact retA_up (E := E) e
  | false =>
    cases todo with
    | nil => exact leave_up (j := none) e
    | cons i k => exact itemA_up (E := E) e
end
def RunF.Up (r : RunF) : Prop := ∀ f h v h', r f h = some (v, h') → h.nx ≤ h'.nx
theorem runC_up {r : RunF} (hr : RunF.Up r) {g : FuncId} {args : List AV} {d : Bool} {p : AV × AH} (e : runC E r g args d h = some p) : h.nx ≤ p.2.nx := by
  unfold runC at e
  split at e
  · cases e
  · rename_i f hf
    cases hb : E.small.any (Nat.beq g) with
    | true =>
      rw [hb] at e
      simp only [cond_true] at e
      split at e
      · rename_i q hq
        cases e
        have := hr _ _ q.1 q.2 hq
        exact this
      · cases e
    | false =>
      rw [hb] at e
      exact hr _ _ p.1 p.2 e
structure Outs.Up (o : Outs) : Prop where
  call : ∀ g args h p, o.call g args h = some p → h.nx ≤ p.2.nx
  round : ∀ l args h p, o.round l args h = some p → h.nx ≤ p.2.nx
theorem outs_up {r : RunF} (hr : RunF.Up r) : (outs E r).Up := by
  refine ⟨fun g args h p e => runC_up hr e, fun l args h p e => ?_⟩
  simp only [outs] at e
  split at e
  · exact hr _ _ p.1 p.2 e
  · cases e
theorem loudD_up {r : Outs} (hr : r.Up) {o : Option OR} (ho : ∀ q, o = some q → q.Up h) {p : AV × AH} (e : loudD E r h o = some p) : h.nx ≤ p.2.nx := by
  unfold loudD at e
  split at e
  · cases e; exact ho _ rfl
  · split at e
    · exact hr.call _ _ _ _ e
    · split at e
      · rename_i hx
        cases e
        exact ext_up' hx
      · cases e
    · cases e
  · exact hr.round _ _ _ _ e
  · cases e
theorem putAll_nx : ∀ (ps : List (Nat × Nat × AO)) (h : AH), (putAll ps h).nx = h.nx
  | [], _ => rfl
  | p :: ps, h => by unfold putAll; rw [putAll_nx ps, AH.put_nx]
theorem wake_nx (m : Nat) : ∀ (ps : List (Nat × Nat × AO)) (h : AH), (wake m ps h).1.nx = h.nx
  | [], _ => rfl
  | p :: ps, h => by
    unfold wake
    have := wake_nx m ps h
    split
    rename_i h' l' he
    rw [he] at this
    simp only at this
    cases m.testBit p.1 with
    | true => simp only [cond_true]; rw [AH.put_nx]; exact this
    | false => simp only [cond_false]; exact this
theorem runD_up {r : Nat → Outs} (hr : ∀ i, (r i).Up) {x : AX} {b : Array Nat} {ops : Array Oper} {h0 : AH} : ∀ (l : List Oper) (i : Nat) (tm : Tr AV) (qs : List DQ) (hs : List (Nat × AH)) (ps : List (Nat × Nat × AO)) (h : AH) (p : Tr AV × AH),
    runD E r x b ops h0 l i tm qs hs ps h = some p → h.nx ≤ p.2.nx := by
  intro l
  induction l with
  | nil =>
    intro i tm qs hs ps h p e
    unfold runD at e
    cases hc : (chainOk b hs.reverse && qs.all (quietOk E b hs.reverse h0)) with
    | true => rw [hc] at e; cases e; rw [putAll_nx]; exact Nat.le_refl _
    | false => rw [hc] at e; cases e
  | cons o os ih =>
    intro i tm qs hs ps h p e
    unfold runD at e
    split at e
    · cases e
    · exact ih _ _ _ _ _ _ _ e
    · cases hk : freshKind o.op with
      | true =>
        rw [hk] at e
        simp only [cond_true] at e
        split at e
        · rename_i v h' hl
          have hu : h.nx ≤ h'.nx := loud_up hl
          cases hb : Nat.blt h.nx 1000000 with
          | false => rw [hb] at e; cases e
          | true =>
            rw [hb] at e
            have := ih _ _ _ _ _ _ _ e
            simp only at this
            omega
        · cases e
      | false =>
        rw [hk] at e
        simp only [cond_false] at e
        split at e
        · exact ih _ _ _ _ _ _ _ e
        · split at e
          · rename_i q hq
            have hn := wake_nx (b.getD i 0) ps h
            have h1 := loudD_up (hr i) (fun q hq => loud_up hq) hq
            have h3 := ih _ _ _ _ _ _ _ e
            omega
          · cases e
theorem renAll_nx' (n0 : Nat) (v : AV) (h : AH) : ∀ (n : Nat) (q : AV × AH), (renAll n0 v h n q).2.nx = q.2.nx
  | 0, _ => rfl
  | n + 1, q => by
    unfold renAll
    split
    · rename_i p hp
      cases hc : (Nat.ble n0 p.1 && Nat.ble n0 p.2 && Nat.blt p.1 q.2.nx && Nat.blt p.2 q.2.nx && Nat.ble q.2.nx OLD) with
      | true =>
        rw [cond_true, renAll_nx' n0 v h n]
        obtain ⟨q1, tr, nx, df⟩ := q
        rfl
      | false => rfl
    · rfl
theorem meetAll_up {r : RunF} (hr : RunF.Up r) : ∀ (l : List (AF × AH)) (v : AV) (h : AH) (p : AV × AH), meetAll r v h l = some p → h.nx ≤ p.2.nx := by
  intro l
  induction l with
  | nil => intro v h p e; cases e; exact Nat.le_refl _
  | cons q l ih =>
    intro v h p e
    unfold meetAll at e
    split at e
    · rename_i s0 hs
      obtain ⟨s, hse⟩ : ∃ s, s = renAll q.2.nx v h 12 s0 := ⟨_, rfl⟩
      simp only [← hse] at e
      cases hb : (AV.beq v s.1 && Nat.beq h.df s.2.df) with
      | true =>
        rw [hb] at e
        have := ih _ _ _ e
        have hm : h.nx ≤ (h.meet s.2).nx := Nat.le_max_left _ _
        omega
      | false => rw [hb] at e; cases e
    · cases e
theorem runK_up {r : RunF} (hr : RunF.Up r) : ∀ (n : Nat) (f : AF) (k : List (AF × Option Tmp)) (h : AH) (v : AV) (h' : AH), runK E r n f k h = some (v, h') → h.nx ≤ h'.nx := by
  intro n
  induction n with
  | zero => intro f k h v h' e; cases e
  | succ n ih =>
    intro f k h v h' e
    have e : stepK E r (runK E r n) k (stepA E f h) = some (v, h') := e
    cases hs : stepA E f h with
    | none => rw [hs] at e; cases e
    | some a =>
      have hu := step_up hs
      rw [hs] at e
      cases a with
      | go f' h1 => exact Nat.le_trans hu (ih _ _ _ _ _ e)
      | ret v' h1 =>
        cases k with
        | nil => cases e; exact hu
        | cons c k => exact Nat.le_trans hu (ih _ _ _ _ _ e)
      | call f' d g args h1 =>
        simp only [stepK] at e
        cases hb : E.inl.any (Nat.beq g) with
        | true =>
          rw [hb] at e
          simp only [cond_true] at e
          split at e
          · exact Nat.le_trans hu (ih _ _ _ _ _ e)
          · cases e
        | false =>
          rw [hb] at e
          simp only [cond_false] at e
          split at e
          · rename_i p hp
            exact Nat.le_trans hu (Nat.le_trans (runC_up hr hp) (ih _ _ _ _ _ e))
          · cases e
      | dcall f' g args h1 => cases e
      | round f' d l args h1 =>
        simp only [stepK] at e
        split at e
        · split at e
          · rename_i p hp
            exact Nat.le_trans hu (Nat.le_trans (hr _ _ p.1 p.2 hp) (ih _ _ _ _ _ e))
          · cases e
        · cases e
      | drawn x tm ops k ds h1 => cases e
      | alts l =>
        cases l with
        | nil => cases e
        | cons p l =>
          simp only [stepK] at e
          split at e
          · rename_i q hq
            have h1 := hu p (by simp)
            have h2 := ih _ _ _ q.1 q.2 hq
            have h3 := meetAll_up (r := fun f h => runK E r n f k h) (fun f h v h' => ih f k h v h') _ _ _ _ e
            simp only at h3
            omega
          · cases e
      | stop => cases e
theorem runCI_up {r : RunF} (hr : RunF.Up r) {g : FuncId} {args : List AV} {p : AV × AH} (e : runCI E r g args h = some p) : h.nx ≤ p.2.nx := by
  unfold runCI at e
  cases hb : E.inl.any (Nat.beq g) with
  | true =>
    rw [hb] at e
    simp only [cond_true] at e
    split at e
    · exact runK_up hr _ _ _ _ p.1 p.2 e
    · cases e
  | false => rw [hb] at e; exact runC_up hr e
theorem runF_up (n : Nat) : RunF.Up (runF E n) := by
  induction n with
  | zero => intro f h v h' e; cases e
  | succ n ih =>
    intro f h v h' e
    have e : stepR E (runF E n) (stepA E f h) = some (v, h') := e
    cases hs : stepA E f h with
    | none => rw [hs] at e; cases e
    | some r =>
      have hu := step_up hs
      rw [hs] at e
      cases r with
      | go f' h1 => exact Nat.le_trans hu (ih _ _ _ _ e)
      | ret v' h1 => cases e; exact hu
      | call f' d g args h1 =>
        simp only [stepR] at e
        split at e
        · rename_i p hp
          exact Nat.le_trans hu (Nat.le_trans (runCI_up ih hp) (ih _ _ _ _ e))
        · cases e
      | dcall f' g args h1 =>
        simp only [stepR] at e
        split at e
        · rename_i p hp
          exact Nat.le_trans hu (Nat.le_trans (runC_up ih hp) (ih _ _ _ _ e))
        · cases e
      | round f' d l args h1 =>
        simp only [stepR] at e
        split at e
        · split at e
          · rename_i p hp
            exact Nat.le_trans hu (Nat.le_trans (ih _ _ p.1 p.2 hp) (ih _ _ _ _ e))
          · cases e
        · cases e
      | drawn x tm ops k ds h1 =>
        simp only [stepR] at e
        cases hb : regOk ops.toList (Region.before ops) ops with
        | false => rw [hb] at e; cases e
        | true =>
          rw [hb] at e
          simp only [cond_true] at e
          split at e
          · rename_i p hp
            exact Nat.le_trans hu (Nat.le_trans (runD_up (fun _ => outs_up ih) _ _ _ _ _ _ _ _ hp) (ih _ _ _ _ e))
          · cases e
      | alts l =>
        cases l with
        | nil => cases e
        | cons p l =>
          simp only [stepR] at e
          split at e
          · rename_i q hq
            have h1 := hu p (by simp)
            have h2 := ih _ _ q.1 q.2 hq
            have h3 := meetAll_up ih _ _ _ _ e
            simp only at h3
            omega
          · cases e
      | stop => cases e
end
end Go.Ev
