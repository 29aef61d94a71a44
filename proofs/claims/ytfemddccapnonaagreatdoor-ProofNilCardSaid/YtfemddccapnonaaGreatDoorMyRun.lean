/- A part of the proof that the law ProofNil returns true for every input (its card: YtfemddccapnonaaGreatDoorMyCard): AaDL, AaRun. Conditions: those of the given row alone. -/
import Derived.Test.YtfemddccapnonaaGreatDoorEv7
import Derived.ChangeSame
import Derived.Test.YtfemddccapnonaaGreatDoorMyFits
import Derived.Test.YtfemddccapnonaaGreatDoorMyEnds
import Derived.Test.YtfemddccapnonaaGreatDoorMyHeads
set_option linter.all false
namespace Go.Ev
open Go.ChangeShapes
theorem cells_at {w : World} {a : Addr} {n : Nat} {cs : List Value} (h : w.cells? 0 a n = some cs) : cs.length = n ∧ ∀ i, i < n → w.cell? (a.add i) = cs[i]? := by
  unfold World.cells? at h
  rw [if_pos (Nat.zero_le _)] at h
  exact ⟨by simpa using mapM_some_length h, fun i hi => mapM_some_get h i i (by simp [hi])⟩
theorem add_off (b o i : Nat) : (⟨b, o, none⟩ : Addr).add i = ⟨b, o + i, none⟩ := by
  unfold Addr.add
  split
  · subst_vars; rfl
  · rfl
section
variable {H : Type} {enc : TypeId × Value → H} {P : Program} {W : World} {sp : Nat → Bool} {held : Bool}
theorem value_of {tV : TypeId} {f0 f1 f2 : Field} (hV : P.underlying tV = some (.struct #[f0, f1, f2])) (h0 : P.underlying f0.type = some (.int .i64)) (h1 : P.underlying f1.type = some (.int .i64)) (h2 : P.underlying f2.type = some .string)
    (o0 : f0.offset = 0) (o1 : f1.offset = 1) (o2 : f2.offset = 2) (c0 : P.cellsOf f0.type = 1) (c1 : P.cellsOf f1.type = 1) (c2 : P.cellsOf f2.type = 1) (cV : P.cellsOf tV = 3) {fuel : Nat} {cs : List Value} {x : DataW H × List MemPlace}
    (h : DataW.trod enc P W 0 sp held fuel tV cs = some x) : ∃ k m s, cs = [.int .i64 k, .int .i64 m, .string s] := by
  obtain ⟨xs, n, _, rfl, hl, hlen, hf⟩ := DataW.trod_struct hV h
  rw [cV] at hl
  match xs, hlen with
  | [y0, y1, y2], _ =>
    have e0 := hf 0 f0 rfl
    have e1 := hf 1 f1 rfl
    have e2 := hf 2 f2 rfl
    rw [o0, c0] at e0; rw [o1, c1] at e1; rw [o2, c2] at e2
    match cs, hl with
    | [v0, v1, v2], _ =>
      obtain ⟨k, a0, _⟩ := DataW.trod_int h0 e0
      obtain ⟨m, a1, _⟩ := DataW.trod_int h1 e1
      obtain ⟨s, a2, _⟩ := DataW.trod_string h2 e2
      simp at a0 a1 a2
      exact ⟨k, m, s, by rw [a0, a1, a2]⟩
def ValsAt (W : World) (b o n : Nat) : Prop := ∀ i, i < n → ∃ k m s, W.cell? ⟨b, o + 3 * i, none⟩ = some (.int .i64 k) ∧ W.cell? ⟨b, o + 3 * i + 1, none⟩ = some (.int .i64 m) ∧ W.cell? ⟨b, o + 3 * i + 2, none⟩ = some (.string s)
theorem int_of {base : Nat} {t : TypeId} {v : Value} (ht : P.underlying t = some (.int .i64)) (h : Value.okWide P W .any base t v) : ∃ n, v = .int .i64 n := by
  have : Cell.okWide P W .any base t v := by simp only [Value.okWide, ht] at h; exact h
  unfold Cell.okWide at this
  rw [ht] at this
  have this : Cell.ok P W .any base t v := by
    revert this
    cases v <;> exact id
  unfold Cell.ok at this
  rw [ht] at this
  cases v with
  | int k n => obtain ⟨rfl, _⟩ := this; exact ⟨n, rfl⟩
  | _ => exact this.elim
theorem fact_of {base : Nat} {tF tV : TypeId} {f0 f1 g0 g1 g2 : Field} (hF : P.underlying tF = some (.struct #[f0, f1])) (h0 : P.underlying f0.type = some .string) (h1 : P.underlying f1.type = some (.slice tV)) (o0 : f0.offset = 0) (o1 : f1.offset = 1)
    (c0 : P.cellsOf f0.type = 1) (c1 : P.cellsOf f1.type = 1) (cF : P.cellsOf tF = 2) (hts : P.cellTypes P.depth tF = some [f0.type, f1.type])
    (hV : P.underlying tV = some (.struct #[g0, g1, g2])) (k0 : P.underlying g0.type = some (.int .i64)) (k1 : P.underlying g1.type = some (.int .i64)) (k2 : P.underlying g2.type = some .string)
    (q0 : g0.offset = 0) (q1 : g1.offset = 1) (q2 : g2.offset = 2) (d0 : P.cellsOf g0.type = 1) (d1 : P.cellsOf g1.type = 1) (d2 : P.cellsOf g2.type = 1) (cV : P.cellsOf tV = 3)
    {v : Value} {d : DataW H} {p : List MemPlace} (h : DataW.Trod enc P W 0 sp held tF v d p) (hok : Value.okWide P W .any base tF v) :
    ∃ (s : ByteArray) (sv : Value) (a : Option (Nat × Nat)) (n c : Nat), v = .agg #[.string s, sv] ∧ absO sv = some (.osl a n c) ∧ n ≤ 9223372036854775807 ∧ ((a = none ∧ n = 0) ∨ ∃ b o, a = some (b, o) ∧ ValsAt W b o n) := by
  obtain ⟨fuel, h⟩ := h
  simp only [Value.okWide, hF] at hok
  obtain ⟨cs, rfl, hsz, ts, ht1, _, hcell⟩ := hok
  rw [hts] at ht1
  cases ht1
  rw [cF] at hsz
  obtain ⟨xs, n, _, hx, hl, hlen, hf⟩ := DataW.trod_struct hF h
  have hcs : (Value.agg cs).cells.toList = cs.toList := rfl
  rw [hcs] at hf
  match xs, hlen with
  | [y0, y1], _ =>
    have e0 := hf 0 f0 rfl
    have e1 := hf 1 f1 rfl
    rw [o0, c0] at e0; rw [o1, c1] at e1
    obtain ⟨l⟩ := cs
    match l, hsz with
    | [v0, v1], _ =>
      obtain ⟨s, a0, _⟩ := DataW.trod_string h0 e0
      simp at a0
      rcases DataW.trod_slice h1 e1 with ⟨a1, _⟩ | ⟨a, len, cap, elems, rest, m, _, a1, _, _, hle, hcap, hlen, hel, _, _⟩
      · simp at a1
        exact ⟨s, v1, none, 0, 0, by rw [a0], by rw [a1]; rfl, Nat.zero_le _, .inl ⟨rfl, rfl⟩⟩
      · simp at a1
        obtain ⟨u, hu, hk⟩ := hcell 1 v1 rfl
        have hu : u = f1.type := by simpa using hu.symm
        subst hu
        rw [a1] at hk
        have hk : Cell.ok P W .any base f1.type (.slice (some a) len cap) := by
          unfold Cell.okWide at hk
          rw [h1] at hk
          exact hk
        simp only [Cell.ok, h1] at hk
        obtain ⟨_, _, _, hsp, _⟩ := hk
        obtain ⟨b, o, spot⟩ := a
        have hsp : spot = none := hsp
        subst hsp
        refine ⟨s, v1, some (b, o), len, cap, by rw [a0], by rw [a1]; simp [absO, hle], Nat.le_trans hle (Nat.le_trans hcap (by decide)), .inr ⟨b, o, rfl, fun i hi => ?_⟩⟩
        have := hel i hi
        rw [cV, add_off, List.getElem?_eq_getElem (by omega)] at this
        obtain ⟨cs', g1, g2⟩ := Option.bind_eq_some_iff.1 this
        obtain ⟨k, m', s', rfl⟩ := value_of hV k0 k1 k2 q0 q1 q2 d0 d1 d2 cV g2
        obtain ⟨_, hc⟩ := cells_at g1
        have r0 := hc 0 (by omega)
        have r1 := hc 1 (by omega)
        have r2 := hc 2 (by omega)
        rw [add_off] at r0 r1 r2
        refine ⟨k, m', s', ?_, ?_, ?_⟩
        · rw [Nat.mul_comm 3 i]; exact r0
        · rw [Nat.mul_comm 3 i]; exact r1
        · rw [Nat.mul_comm 3 i]; exact r2
end
end Go.Ev
set_option linter.all false
namespace Go.Ev
open Go.Proofs
set_option maxRecDepth 100000
theorem tabs_at (w : World) : Tabs Tryz.prog (E.at w) I where
  F := ⟨tabs.F.depth, tabs.F.meth, tabs.F.lies, tabs.F.tt, tabs.F.flat⟩
  FF := ⟨tabs.FF.code, fun g n rs x e K ι h w' args vs v h' hO => tabs.FF.ext g n rs x e K ι h w' args vs v h' (hO.under (fun _ _ => rfl) rfl), tabs.FF.mixed, rfl⟩
  FX := ⟨tabs.FX.noEscape, tabs.FX.false_, tabs.FX.race, tabs.FX.dis, tabs.FX.en, tabs.FX.atAdd, tabs.FX.atCas, tabs.FX.atLoad, tabs.FX.cmpStr, tabs.FX.mapClone⟩
  FW := tabs.FW
theorem wait_at (w : World) : waitOk (E.at w) I = true := by kernel_rfl
theorem absO_str {v : Value} {s : List UInt8} (h : RV oldNm (.str s) v) : absO v = some (.str s) := by
  unfold RV at h; subst h; simp [absO]
theorem absO_osl {v : Value} {a : Option (Nat × Nat)} {n c : Nat} (h : RV oldNm (.osl a n c) v) : absO v = some (.osl a n c) := by
  unfold RV at h
  obtain ⟨rfl, hle, h0⟩ := h
  cases a with
  | none => obtain ⟨rfl, rfl⟩ := h0 rfl; rfl
  | some p => simp [absO, hle]
theorem oldC3 {w : World} {b o : Nat} {k m : Int} {s : ByteArray} (h0 : w.cell? ⟨b, o, none⟩ = some (.int .i64 k)) (h1 : w.cell? ⟨b, o + 1, none⟩ = some (.int .i64 m)) (h2 : w.cell? ⟨b, o + 2, none⟩ = some (.string s)) :
    oldC (E.at w).old b o 3 = some [.int .i64 k, .int .i64 m, .str s.data.toList] := by
  have e0 : (E.at w).old b o = some (.int .i64 k) := old_at h0 rfl
  have e1 : (E.at w).old b (o + 1) = some (.int .i64 m) := old_at h1 rfl
  have e2 : (E.at w).old b (o + 1 + 1) = some (.str s.data.toList) := old_at h2 rfl
  simp only [oldC, e0, e1, e2]
theorem cell_same {W w1 : World} (h : ∀ b, b < W.heap.size → w1.heap[b]? = W.heap[b]?) {a : Addr} {v : Value} (hv : W.cell? a = some v) : w1.cell? a = some v := by
  have hb : a.block < W.heap.size := by
    unfold World.cell? at hv
    cases hh : W.heap[a.block]? with
    | none => rw [hh] at hv; cases hv
    | some ob => exact (Array.getElem?_eq_some_iff.1 hh).1
  unfold World.cell? at hv ⊢
  rw [h _ hb]; exact hv
theorem seat_run (W : World) (args : Array Value) {ss : ByteArray} {sv : Value} {a : Option (Nat × Nat)} {n c : Nat} {budget : Int} (hargs : args = #[.agg #[.string ss, sv], .int .i64 budget]) (hsv : absO sv = some (.osl a n c)) (hn : n ≤ 9223372036854775807)
    (hd : (a = none ∧ n = 0) ∨ ∃ b o, a = some (b, o) ∧ ValsAt W b o n) :
    ∃ M last o w' t', runNT Tryz.prog (M + 1) (Conc.solo (Conc.G (Frame.enter Tryz.prog 3 args .normal) []) W) #[] = (.ended o w', t') ∧ runN Tryz.prog M (Conc.solo (Conc.G (Frame.enter Tryz.prog 3 args .normal) []) W) = .next last ∧ step Tryz.prog last = .ended o w' ∧ Conc.Good Tryz.prog (Ends W (.bool true)) last o w' t' := by
  have hRV : RVs oldNm [.agg [.str ss.data.toList, .osl a n c], .int .i64 budget] args.toList := by
    subst hargs
    exact RVs_cons (RV_agg (RVs_cons (absO_ok rfl) (RVs_cons (absO_ok hsv) RVs_nil))) (RVs_cons (absO_ok rfl) RVs_nil)
  refine the_run2 (E := E) (I := I) (L := Tryz.link) (out := out) (fid := 3) (f0 := ent E 3 [.agg [.str ss.data.toList, .osl a n c], .int .i64 budget]) tabs tabs_at wait_at Tryz.wgLib (fun _ _ => rfl) (by kernel_rfl) (head1 tabs.F tabs.FF ss.data.toList a n c budget) rfl (Nat.le_of_ble_eq_true rfl) (by kernel_rfl) (by kernel_rfl) rfl rfl W args hRV ?_
  intro w1 bl hl
  have hlow : ∀ x ∈ [AV.str ss.data.toList, AV.osl a n c], AV.low 0 x = true := by
    intro x hx
    simp only [List.mem_cons, List.not_mem_nil, or_false] at hx
    rcases hx with rfl | rfl <;> rfl
  obtain ⟨v0, g0, r0⟩ := hl.cells 0 [.str ss.data.toList, .osl a n c] 24 false false rfl hlow 0 _ rfl
  obtain ⟨v1, g1, r1⟩ := hl.cells 0 [.str ss.data.toList, .osl a n c] 24 false false rfl hlow 1 _ rfl
  have e0 : (E.at w1).old (bl 0) 0 = some (.str ss.data.toList) := old_at g0 (absO_str r0)
  have e1 : (E.at w1).old (bl 0) 1 = some (.osl a n c) := old_at g1 (absO_osl r1)
  have hF : ∀ h, loadT (E.at w1) h 24 (OLD + bl 0) 0 = some (.agg [.str ss.data.toList, .osl a n c]) := fun h =>
    loadT_old_agg (E := E.at w1) (t := 24) (ti := (E.tt.get 24).getD default) (by kernel_rfl) (by kernel_rfl) (by
      rw [show ((E.tt.get 24).getD default).size = 2 by kernel_rfl]
      simp only [oldC, e0, Nat.zero_add, e1])
  have hA : n = 0 ∨ ∃ b o, a = some (b, o) ∧ ValsO w1 b o n := by
    rcases hd with ⟨_, h⟩ | ⟨b, o, h, hV⟩
    · exact .inl h
    · refine .inr ⟨b, o, h, fun i hi => ?_⟩
      obtain ⟨k, m, s, c0, c1, c2⟩ := hV i hi
      rw [Nat.mul_comm 3 i] at c0 c1 c2
      exact ⟨k, m, _, oldC3 (cell_same hl.old c0) (cell_same hl.old c1) (cell_same hl.old c2)⟩
  exact fact_ends tabs.F tabs.FF w1 (tabs_at w1).F (tabs_at w1).FF (bl 0) budget ss.data.toList n c a hF hn hA
end Go.Ev
