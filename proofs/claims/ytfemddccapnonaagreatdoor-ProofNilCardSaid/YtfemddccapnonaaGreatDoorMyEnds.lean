/- A part of the proof that the law ProofNil returns true for every input (its card: YtfemddccapnonaaGreatDoorMyCard): AaDB, AaK. Conditions: those of the given row alone. -/
import Derived.Test.YtfemddccapnonaaGreatDoorMyFns
import Derived.Test.YtfemddccapnonaaGreatDoorMyHeads
import Derived.Test.YtfemddccapnonaaGreatDoorMyFactX
import Derived.Test.YtfemddccapnonaaGreatDoorMyFindX
import Derived.Test.YtfemddccapnonaaGreatDoorMyFindV
import Derived.Test.YtfemddccapnonaaGreatDoorMyFindN
set_option linter.all false
namespace Go.Ev
theorem chk_rval {kind num : Int} {sym : List UInt8} (hk : (kind == 1) = true) : (chk_v kind num sym != 0) = !(rval_v kind num sym) := by
  unfold chk_v rval_v
  rw [hk]
  cases (sym == []) <;> cases (decide (num ≥ -2147483647)) <;> cases (decide (num ≤ 2147483647)) <;> rfl
end Go.Ev
set_option linter.all false
namespace Go.Ev
open Go.Proofs
set_option maxRecDepth 100000
def InR (budget : Int) : Prop := 1 ≤ budget ∧ budget ≤ 65536
def Pair (w : World) (s : List UInt8) (a : Option (Nat × Nat)) (n c : Nat) (budget : Int) : Prop :=
  ∃ e1, K9 w s a n c e1 ∧ (¬ InR budget → K6 w s a n c budget 1) ∧ (InR budget → (e1 = 5 ∧ K6 w s a n c budget 5) ∨ (e1 = 0 ∧ K6 w s a n c budget 150))
theorem inr_lo {b : Int} (h : InR b) : decide (b < 1) = false := decide_eq_false (by have := h.1; omega)
theorem inr_hi {b : Int} (h : InR b) : decide (b > 65536) = false := decide_eq_false (by have := h.2; omega)
theorem out_cases {b : Int} (h : ¬ InR b) : decide (b < 1) = true ∨ (decide (b < 1) = false ∧ decide (b > 65536) = true) := by
  unfold InR at h
  by_cases h1 : b < 1
  · exact .inl (decide_eq_true h1)
  · exact .inr ⟨decide_eq_false h1, decide_eq_true (by omega)⟩
section
variable (F0 : Fits Tryz.prog E) (FF0 : FitsF Tryz.prog E)
include F0 FF0
theorem pair_end (w : World) (F : Fits Tryz.prog (E.at w)) (FF : FitsF Tryz.prog (E.at w)) (b0 : Nat) (budget : Int) (s : List UInt8) (n c : Nat) (a : Option (Nat × Nat)) (hF : ∀ h, loadT (E.at w) h 24 (OLD + b0) 0 = some (.agg [.str s, .osl a n c])) (hP : Pair w s a n c budget) : EndsTrue w (sAaU0 b0 budget) := by
  obtain ⟨e1, hK, h1, h2⟩ := hP
  by_cases hb : InR budget
  · rcases h2 hb with ⟨rfl, h⟩ | ⟨rfl, h⟩
    · exact tail_c F0 FF0 w F FF b0 budget s n c a hF hK h hb.1 hb.2
    · exact tail_d F0 FF0 w F FF b0 budget s n c a hF hK h hb.1 hb.2
  · exact tail_x F0 FF0 w F FF b0 budget s n c a e1 hF hK (h1 hb) hb
theorem pair_other (w : World) (s : List UInt8) (a : Option (Nat × Nat)) (n c : Nat) (budget : Int) (hp : ([112] == s) = false) (hq : ([113] == s) = false) : Pair w s a n c budget := by
  obtain ⟨b, hN⟩ := name_does F0 FF0 s 0
  refine ⟨5, ?_, fun ho => ?_, fun hi => .inl ⟨rfl, ?_⟩⟩
  · cases b with
    | false => exact (f9f_3_d F0 FF0 s n c a hN hp hq).at (fun _ _ => rfl) rfl w
    | true => exact (f9t_1_d F0 FF0 s n c a hN hp hq).at (fun _ _ => rfl) rfl w
  · rcases out_cases ho with h1 | ⟨h1, h2⟩
    · exact (f6o_1_d F0 FF0 s n c a budget hp hq h1).at (fun _ _ => rfl) rfl w
    · exact (f6o_2_d F0 FF0 s n c a budget hp hq h1 h2).at (fun _ _ => rfl) rfl w
  · exact (f6o_3_d F0 FF0 s n c a budget hp hq (inr_lo hi) (inr_hi hi)).at (fun _ _ => rfl) rfl w
theorem all_does (w : World) (F : Fits Tryz.prog (E.at w)) (FF : FitsF Tryz.prog (E.at w)) {a : Option (Nat × Nat)} {n : Nat} (c : Nat) (hn : n ≤ 9223372036854775807) (hA : ListL w a n) : ∃ b, DoesC Tryz.prog (E.at w) 126 [.osl a n c] ⟨.e, 0, 0⟩ (.bool b) ⟨.e, 0, 0⟩ := by
  obtain ⟨r, h⟩ := ix_does F0 FF0 w F FF c hn hA
  rcases Bool.eq_false_or_eq_true (decide (r ≥ 0)) with hr | hr
  · exact ⟨_, al_1_d F0 FF0 w F FF a n c r h hr⟩
  · exact ⟨_, al_2_d F0 FF0 w F FF a n c r h hr⟩
theorem pair_n_p (w : World) (F : Fits Tryz.prog (E.at w)) (FF : FitsF Tryz.prog (E.at w)) {a : Option (Nat × Nat)} {n : Nat} (c : Nat) (budget : Int) (hn : n ≤ 9223372036854775807) (hA : ListL w a n) (h1 : n ≠ 1) : Pair w [112] a n c budget := by
  have hb : ((↑n : Int) != 1) = true := by simp; omega
  obtain ⟨b, hN⟩ := name_does F0 FF0 [112] 0
  obtain ⟨z, h126⟩ := all_does F0 FF0 w F FF c hn hA
  obtain ⟨e74, h74⟩ : ∃ e74, DoesC Tryz.prog (E.at w) 74 [.agg [.str [112], .osl a n c]] ⟨.e, 0, 0⟩ (zI e74) ⟨.e, 0, 0⟩ := by
    rcases Bool.eq_false_or_eq_true (decide ((↑n : Int) > 8)) with h8 | h8
    · exact ⟨_, cfnp_1_d F0 FF0 w F FF a n c z h126 h8⟩
    · cases z with
      | true => exact ⟨_, cfnp_2_d F0 FF0 w F FF a n c true h126 h8 rfl⟩
      | false => exact ⟨_, cfnp_3_d F0 FF0 w F FF a n c false h126 h8 rfl⟩
  refine ⟨5, ?_, fun ho => ?_, fun hi => .inl ⟨rfl, ?_⟩⟩
  · cases b with
    | false => exact (f9f_1_d F0 FF0 [112] n c a hN rfl).at (fun _ _ => rfl) rfl w
    | true =>
      rcases Bool.eq_false_or_eq_true (decide ((↑n : Int) > 8)) with h8 | h8
      · exact (f9t_2_d F0 FF0 [112] n c a hN rfl h8).at (fun _ _ => rfl) rfl w
      · exact (f9t_4_d F0 FF0 [112] n c a hN rfl h8 hb).at (fun _ _ => rfl) rfl w
  · rcases out_cases ho with h1 | ⟨h1, h2⟩
    · exact f6np_1_d F0 FF0 w F FF budget a n c e74 h74 h1
    · exact f6np_2_d F0 FF0 w F FF budget a n c e74 h74 h1 h2
  · rcases Bool.eq_false_or_eq_true (e74 != 0) with he | he
    · exact f6np_3_d F0 FF0 w F FF budget a n c e74 h74 (inr_lo hi) (inr_hi hi) he
    · exact f6np_4_d F0 FF0 w F FF budget a n c e74 h74 (inr_lo hi) (inr_hi hi) he hb
theorem pair_n_q (w : World) (F : Fits Tryz.prog (E.at w)) (FF : FitsF Tryz.prog (E.at w)) {a : Option (Nat × Nat)} {n : Nat} (c : Nat) (budget : Int) (hn : n ≤ 9223372036854775807) (hA : ListL w a n) (h1 : n ≠ 1) : Pair w [113] a n c budget := by
  have hb : ((↑n : Int) != 1) = true := by simp; omega
  obtain ⟨b, hN⟩ := name_does F0 FF0 [113] 0
  obtain ⟨z, h126⟩ := all_does F0 FF0 w F FF c hn hA
  obtain ⟨e74, h74⟩ : ∃ e74, DoesC Tryz.prog (E.at w) 74 [.agg [.str [113], .osl a n c]] ⟨.e, 0, 0⟩ (zI e74) ⟨.e, 0, 0⟩ := by
    rcases Bool.eq_false_or_eq_true (decide ((↑n : Int) > 8)) with h8 | h8
    · exact ⟨_, cfnq_1_d F0 FF0 w F FF a n c z h126 h8⟩
    · cases z with
      | true => exact ⟨_, cfnq_2_d F0 FF0 w F FF a n c true h126 h8 rfl⟩
      | false => exact ⟨_, cfnq_3_d F0 FF0 w F FF a n c false h126 h8 rfl⟩
  refine ⟨5, ?_, fun ho => ?_, fun hi => .inl ⟨rfl, ?_⟩⟩
  · cases b with
    | false => exact (f9f_2_d F0 FF0 [113] n c a hN rfl rfl).at (fun _ _ => rfl) rfl w
    | true =>
      rcases Bool.eq_false_or_eq_true (decide ((↑n : Int) > 8)) with h8 | h8
      · exact (f9t_3_d F0 FF0 [113] n c a hN rfl rfl h8).at (fun _ _ => rfl) rfl w
      · exact (f9t_5_d F0 FF0 [113] n c a hN rfl rfl h8 hb).at (fun _ _ => rfl) rfl w
  · rcases out_cases ho with h1 | ⟨h1, h2⟩
    · exact f6nq_1_d F0 FF0 w F FF budget a n c e74 h74 h1
    · exact f6nq_2_d F0 FF0 w F FF budget a n c e74 h74 h1 h2
  · rcases Bool.eq_false_or_eq_true (e74 != 0) with he | he
    · exact f6nq_3_d F0 FF0 w F FF budget a n c e74 h74 (inr_lo hi) (inr_hi hi) he
    · exact f6nq_4_d F0 FF0 w F FF budget a n c e74 h74 (inr_lo hi) (inr_hi hi) he hb
theorem pair_c_p (w : World) (F : Fits Tryz.prog (E.at w)) (FF : FitsF Tryz.prog (E.at w)) (bb o c : Nat) (budget kind num : Int) (sym : List UInt8) (hL : ∀ h, loadT (E.at w) h 69 (OLD + bb) o = some (.agg [.int .i64 kind, .int .i64 num, .str sym])) (hK : ∀ h, loadT (E.at w) h 3 (OLD + bb) o = some (.int .i64 kind)) (hC : oldC (E.at w).old bb o 3 = some [.int .i64 kind, .int .i64 num, .str sym]) : Pair w [112] (some (bb, o)) 1 c budget := by
  have hout : ¬ InR budget → K6 w [112] (some (bb, o)) 1 c budget 1 := fun ho => by
    rcases out_cases ho with h1 | ⟨h1, h2⟩
    · exact f6cp_1_d F0 FF0 w F FF budget bb o c kind num sym hL hK hC h1
    · exact f6cp_2_d F0 FF0 w F FF budget bb o c kind num sym hL hK hC h1 h2
  rcases Bool.eq_false_or_eq_true (kind != 1) with hk | hk
  · refine ⟨5, ?_, hout, fun hi => .inl ⟨rfl, ?_⟩⟩
    · rcases Bool.eq_false_or_eq_true (rval_v kind num sym) with hr | hr
      · exact f9cp_2_d F0 FF0 w F FF budget bb o c kind num sym hL hK hC hr hk
      · exact f9cp_1_d F0 FF0 w F FF budget bb o c kind num sym hL hK hC hr
    · rcases Bool.eq_false_or_eq_true (chk_v kind num sym != 0) with hc | hc
      · exact f6cp_3_d F0 FF0 w F FF budget bb o c kind num sym hL hK hC (inr_lo hi) (inr_hi hi) hc
      · exact f6cp_4_d F0 FF0 w F FF budget bb o c kind num sym hL hK hC (inr_lo hi) (inr_hi hi) hc hk
  · have hk' : (kind == 1) = true := by simpa [bne] using hk
    have hcr := chk_rval (num := num) (sym := sym) hk'
    rcases Bool.eq_false_or_eq_true (rval_v kind num sym) with hr | hr
    · rw [hr] at hcr
      exact ⟨0, f9cp_3_d F0 FF0 w F FF budget bb o c kind num sym hL hK hC hr hk, hout, fun hi => .inr ⟨rfl, f6cp_5_d F0 FF0 w F FF budget bb o c kind num sym hL hK hC (inr_lo hi) (inr_hi hi) hcr hk⟩⟩
    · rw [hr] at hcr
      exact ⟨5, f9cp_1_d F0 FF0 w F FF budget bb o c kind num sym hL hK hC hr, hout, fun hi => .inl ⟨rfl, f6cp_3_d F0 FF0 w F FF budget bb o c kind num sym hL hK hC (inr_lo hi) (inr_hi hi) hcr⟩⟩
theorem pair_c_q (w : World) (F : Fits Tryz.prog (E.at w)) (FF : FitsF Tryz.prog (E.at w)) (bb o c : Nat) (budget kind num : Int) (sym : List UInt8) (hL : ∀ h, loadT (E.at w) h 69 (OLD + bb) o = some (.agg [.int .i64 kind, .int .i64 num, .str sym])) (hK : ∀ h, loadT (E.at w) h 3 (OLD + bb) o = some (.int .i64 kind)) (hC : oldC (E.at w).old bb o 3 = some [.int .i64 kind, .int .i64 num, .str sym]) : Pair w [113] (some (bb, o)) 1 c budget := by
  have hout : ¬ InR budget → K6 w [113] (some (bb, o)) 1 c budget 1 := fun ho => by
    rcases out_cases ho with h1 | ⟨h1, h2⟩
    · exact f6cq_1_d F0 FF0 w F FF budget bb o c kind num sym hL hK hC h1
    · exact f6cq_2_d F0 FF0 w F FF budget bb o c kind num sym hL hK hC h1 h2
  rcases Bool.eq_false_or_eq_true (kind != 1) with hk | hk
  · refine ⟨5, ?_, hout, fun hi => .inl ⟨rfl, ?_⟩⟩
    · rcases Bool.eq_false_or_eq_true (rval_v kind num sym) with hr | hr
      · exact f9cq_2_d F0 FF0 w F FF budget bb o c kind num sym hL hK hC hr hk
      · exact f9cq_1_d F0 FF0 w F FF budget bb o c kind num sym hL hK hC hr
    · rcases Bool.eq_false_or_eq_true (chk_v kind num sym != 0) with hc | hc
      · exact f6cq_3_d F0 FF0 w F FF budget bb o c kind num sym hL hK hC (inr_lo hi) (inr_hi hi) hc
      · exact f6cq_4_d F0 FF0 w F FF budget bb o c kind num sym hL hK hC (inr_lo hi) (inr_hi hi) hc hk
  · have hk' : (kind == 1) = true := by simpa [bne] using hk
    have hcr := chk_rval (num := num) (sym := sym) hk'
    rcases Bool.eq_false_or_eq_true (rval_v kind num sym) with hr | hr
    · rw [hr] at hcr
      exact ⟨0, f9cq_3_d F0 FF0 w F FF budget bb o c kind num sym hL hK hC hr hk, hout, fun hi => .inr ⟨rfl, f6cq_5_d F0 FF0 w F FF budget bb o c kind num sym hL hK hC (inr_lo hi) (inr_hi hi) hcr hk⟩⟩
    · rw [hr] at hcr
      exact ⟨5, f9cq_1_d F0 FF0 w F FF budget bb o c kind num sym hL hK hC hr, hout, fun hi => .inl ⟨rfl, f6cq_3_d F0 FF0 w F FF budget bb o c kind num sym hL hK hC (inr_lo hi) (inr_hi hi) hcr⟩⟩
def ValsO (w : World) (b o n : Nat) : Prop := ∀ i, i < n → ∃ k m s, oldC (E.at w).old b (o + i * 3) 3 = some [.int .i64 k, .int .i64 m, .str s]
theorem load_v {w : World} {b o : Nat} {k m : Int} {s : List UInt8} (h : oldC (E.at w).old b o 3 = some [.int .i64 k, .int .i64 m, .str s]) (hp : AH) : loadT (E.at w) hp 69 (OLD + b) o = some (.agg [.int .i64 k, .int .i64 m, .str s]) :=
  loadT_old_agg (E := E.at w) (t := 69) (ti := (E.tt.get 69).getD default) (by kernel_rfl) (by kernel_rfl) (by rw [show ((E.tt.get 69).getD default).size = 3 by kernel_rfl]; exact h)
theorem load_k {w : World} {b o : Nat} {k m : Int} {s : List UInt8} (h : oldC (E.at w).old b o 3 = some [.int .i64 k, .int .i64 m, .str s]) (hp : AH) : loadT (E.at w) hp 3 (OLD + b) o = some (.int .i64 k) := by
  refine loadT_old_one (E := E.at w) (t := 3) (ti := (E.tt.get 3).getD default) (by kernel_rfl) (by kernel_rfl) ?_
  unfold oldC at h
  cases h1 : (E.at w).old b o with
  | none => rw [h1] at h; cases h
  | some x =>
    cases h2 : oldC (E.at w).old b (o + 1) 2 with
    | none => rw [h1, h2] at h; cases h
    | some l => rw [h1, h2] at h; cases h; rfl
theorem fact_ends (w : World) (F : Fits Tryz.prog (E.at w)) (FF : FitsF Tryz.prog (E.at w)) (b0 : Nat) (budget : Int) (s : List UInt8) (n c : Nat) (a : Option (Nat × Nat)) (hF : ∀ h, loadT (E.at w) h 24 (OLD + b0) 0 = some (.agg [.str s, .osl a n c]))
    (hn : n ≤ 9223372036854775807) (hA : n = 0 ∨ ∃ b o, a = some (b, o) ∧ ValsO w b o n) : EndsTrue w (sAaU0 b0 budget) := by
  refine pair_end F0 FF0 w F FF b0 budget s n c a hF ?_
  have hAL : ListL w a n := by
    rcases hA with h | ⟨b, o, h, hV⟩
    · exact .inl h
    · refine .inr ⟨b, o, h, fun i hi => ?_⟩
      obtain ⟨k, m, sy, hC⟩ := hV i hi
      exact ⟨k, m, sy, load_v F0 FF0 hC⟩
  rcases Bool.eq_false_or_eq_true ([112] == s) with hp | hp
  · have := eq_of_beq hp
    subst this
    by_cases h1 : n = 1
    · subst h1
      rcases hA with h | ⟨b, o, rfl, hV⟩
      · cases h
      · obtain ⟨k, m, sy, hC⟩ := hV 0 (by omega)
        rw [show o + 0 * 3 = o by omega] at hC
        exact pair_c_p F0 FF0 w F FF b o c budget k m sy (load_v F0 FF0 hC) (load_k F0 FF0 hC) hC
    · exact pair_n_p F0 FF0 w F FF c budget hn hAL h1
  · rcases Bool.eq_false_or_eq_true ([113] == s) with hq | hq
    · have := eq_of_beq hq
      subst this
      by_cases h1 : n = 1
      · subst h1
        rcases hA with h | ⟨b, o, rfl, hV⟩
        · cases h
        · obtain ⟨k, m, sy, hC⟩ := hV 0 (by omega)
          rw [show o + 0 * 3 = o by omega] at hC
          exact pair_c_q F0 FF0 w F FF b o c budget k m sy (load_v F0 FF0 hC) (load_k F0 FF0 hC) hC
      · exact pair_n_q F0 FF0 w F FF c budget hn hAL h1
    · exact pair_other F0 FF0 w s a n c budget hp hq
end
end Go.Ev
