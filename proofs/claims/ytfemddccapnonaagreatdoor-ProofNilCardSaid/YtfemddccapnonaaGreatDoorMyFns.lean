/- A part of the proof that the law ProofNil returns true for every input (its card: YtfemddccapnonaaGreatDoorMyCard): AaD1, AaD2, AaD3, AaD4, AaD5, AaD6. Conditions: those of the given row alone. -/
import Derived.Test.YtfemddccapnonaaGreatDoorMyStates
import Derived.Test.YtfemddccapnonaaGreatDoorMyTab
import Derived.Test.YtfemddccapnonaaGreatDoorEv7
set_option linter.all false
namespace Go.Ev
open Go.Proofs
set_option maxRecDepth 100000
def small_v (c : Int) : Bool := bif (decide (c ≥ 97)) then (bif (decide (c ≤ 122)) then (true) else (false)) else (false)
section
variable (F : Fits Tryz.prog E) (FF : FitsF Tryz.prog E)
include F FF
section
variable (c : Int) (df : Nat)
include c df
theorem small_e1 (o1 : (decide (c ≥ 97)) = false) : Does Tryz.prog E (ent E 68 [.int .u8 c]) (⟨.e, 0, df⟩) (.bool false) ⟨.e, 0, df⟩ :=
  path_ret F FF (obs := [zT, zA (decide (c ≥ 97)) false]) [.n 7, .v (.bool false), .n 7] (by kernel_rfl) ⟨rfl, (zg o1)⟩
theorem small_e2 (o1 : (decide (c ≥ 97)) = true) (o2 : (decide (c ≤ 122)) = true) : Does Tryz.prog E (ent E 68 [.int .u8 c]) (⟨.e, 0, df⟩) (.bool true) ⟨.e, 0, df⟩ :=
  path_ret F FF (obs := [zT, zA (decide (c ≥ 97)) true, zT, zA (decide (c ≤ 122)) true]) [.n 7, .v (.bool true), .n 2, .v (.bool true), .n 4] (by kernel_rfl) ⟨rfl, (zg o1), rfl, (zg o2)⟩
theorem small_e3 (o1 : (decide (c ≥ 97)) = true) (o2 : (decide (c ≤ 122)) = false) : Does Tryz.prog E (ent E 68 [.int .u8 c]) (⟨.e, 0, df⟩) (.bool false) ⟨.e, 0, df⟩ :=
  path_ret F FF (obs := [zT, zA (decide (c ≥ 97)) true, zT, zA (decide (c ≤ 122)) false]) [.n 7, .v (.bool true), .n 2, .v (.bool false), .n 4] (by kernel_rfl) ⟨rfl, (zg o1), rfl, (zg o2)⟩
end
theorem small_does (c : Int) (df : Nat) : DoesC Tryz.prog E 68 [.int .u8 c] ⟨.e, 0, df⟩ (.bool (small_v c)) ⟨.e, 0, df⟩ := by
  suffices H : ∀ r, small_v c = r → DoesC Tryz.prog E 68 [.int .u8 c] ⟨.e, 0, df⟩ (.bool r) ⟨.e, 0, df⟩ from H _ rfl
  intro r hh
  unfold small_v at hh
  rcases Bool.eq_false_or_eq_true ((decide (c ≥ 97))) with h1 | h1
  · replace hh := cond_t h1 hh
    rcases Bool.eq_false_or_eq_true ((decide (c ≤ 122))) with h2 | h2
    · replace hh := cond_t h2 hh
      subst hh; exact DoesC.ent FF (by kernel_rfl) (Does.clean (small_e2 F FF c df h1 h2) (by kernel_rfl) (by kernel_rfl) rfl (by kernel_rfl))
    · replace hh := cond_f h2 hh
      subst hh; exact DoesC.ent FF (by kernel_rfl) (Does.clean (small_e3 F FF c df h1 h2) (by kernel_rfl) (by kernel_rfl) rfl (by kernel_rfl))
  · replace hh := cond_f h1 hh
    subst hh; exact DoesC.ent FF (by kernel_rfl) (Does.clean (small_e1 F FF c df h1) (by kernel_rfl) (by kernel_rfl) rfl (by kernel_rfl))
end
def digit_v (c : Int) : Bool := bif (decide (c ≥ 48)) then (bif (decide (c ≤ 57)) then (true) else (bif (c == 95) then (true) else (false))) else (bif (c == 95) then (true) else (false))
section
variable (F : Fits Tryz.prog E) (FF : FitsF Tryz.prog E)
include F FF
section
variable (c : Int) (df : Nat)
include c df
theorem digit_e1 (o1 : (decide (c ≥ 48)) = true) (o2 : (decide (c ≤ 57)) = true) : Does Tryz.prog E (ent E 115 [.int .u8 c]) (⟨.e, 0, df⟩) (.bool true) ⟨.e, 0, df⟩ :=
  path_ret F FF (obs := [zT, zA (decide (c ≥ 48)) true, zT, zA (decide (c ≤ 57)) true]) [.n 7, .v (.bool true), .n 2, .v (.bool true), .n 8] (by kernel_rfl) ⟨rfl, (zg o1), rfl, (zg o2)⟩
theorem digit_e2 (o1 : (decide (c ≥ 48)) = false) (o2 : (c == 95) = true) : Does Tryz.prog E (ent E 115 [.int .u8 c]) (⟨.e, 0, df⟩) (.bool true) ⟨.e, 0, df⟩ :=
  path_ret F FF (obs := [zT, zA (decide (c ≥ 48)) false, zT, zA (c == 95) true]) [.n 7, .v (.bool false), .n 6, .v (.bool true), .n 4] (by kernel_rfl) ⟨rfl, (zg o1), rfl, (zg o2)⟩
theorem digit_e3 (o1 : (decide (c ≥ 48)) = false) (o2 : (c == 95) = false) : Does Tryz.prog E (ent E 115 [.int .u8 c]) (⟨.e, 0, df⟩) (.bool false) ⟨.e, 0, df⟩ :=
  path_ret F FF (obs := [zT, zA (decide (c ≥ 48)) false, zT, zA (c == 95) false]) [.n 7, .v (.bool false), .n 6, .v (.bool false), .n 4] (by kernel_rfl) ⟨rfl, (zg o1), rfl, (zg o2)⟩
theorem digit_e4 (o1 : (decide (c ≥ 48)) = true) (o2 : (decide (c ≤ 57)) = false) (o3 : (c == 95) = true) : Does Tryz.prog E (ent E 115 [.int .u8 c]) (⟨.e, 0, df⟩) (.bool true) ⟨.e, 0, df⟩ :=
  path_ret F FF (obs := [zT, zA (decide (c ≥ 48)) true, zT, zA (decide (c ≤ 57)) false, zT, zA (c == 95) true]) [.n 7, .v (.bool true), .n 2, .v (.bool false), .n 3, .v (.bool true), .n 4] (by kernel_rfl) ⟨rfl, (zg o1), rfl, (zg o2), rfl, (zg o3)⟩
theorem digit_e5 (o1 : (decide (c ≥ 48)) = true) (o2 : (decide (c ≤ 57)) = false) (o3 : (c == 95) = false) : Does Tryz.prog E (ent E 115 [.int .u8 c]) (⟨.e, 0, df⟩) (.bool false) ⟨.e, 0, df⟩ :=
  path_ret F FF (obs := [zT, zA (decide (c ≥ 48)) true, zT, zA (decide (c ≤ 57)) false, zT, zA (c == 95) false]) [.n 7, .v (.bool true), .n 2, .v (.bool false), .n 3, .v (.bool false), .n 4] (by kernel_rfl) ⟨rfl, (zg o1), rfl, (zg o2), rfl, (zg o3)⟩
end
theorem digit_does (c : Int) (df : Nat) : DoesC Tryz.prog E 115 [.int .u8 c] ⟨.e, 0, df⟩ (.bool (digit_v c)) ⟨.e, 0, df⟩ := by
  suffices H : ∀ r, digit_v c = r → DoesC Tryz.prog E 115 [.int .u8 c] ⟨.e, 0, df⟩ (.bool r) ⟨.e, 0, df⟩ from H _ rfl
  intro r hh
  unfold digit_v at hh
  rcases Bool.eq_false_or_eq_true ((decide (c ≥ 48))) with h1 | h1
  · replace hh := cond_t h1 hh
    rcases Bool.eq_false_or_eq_true ((decide (c ≤ 57))) with h2 | h2
    · replace hh := cond_t h2 hh
      subst hh; exact DoesC.ent FF (by kernel_rfl) (Does.clean (digit_e1 F FF c df h1 h2) (by kernel_rfl) (by kernel_rfl) rfl (by kernel_rfl))
    · replace hh := cond_f h2 hh
      rcases Bool.eq_false_or_eq_true ((c == 95)) with h3 | h3
      · replace hh := cond_t h3 hh
        subst hh; exact DoesC.ent FF (by kernel_rfl) (Does.clean (digit_e4 F FF c df h1 h2 h3) (by kernel_rfl) (by kernel_rfl) rfl (by kernel_rfl))
      · replace hh := cond_f h3 hh
        subst hh; exact DoesC.ent FF (by kernel_rfl) (Does.clean (digit_e5 F FF c df h1 h2 h3) (by kernel_rfl) (by kernel_rfl) rfl (by kernel_rfl))
  · replace hh := cond_f h1 hh
    rcases Bool.eq_false_or_eq_true ((c == 95)) with h2 | h2
    · replace hh := cond_t h2 hh
      subst hh; exact DoesC.ent FF (by kernel_rfl) (Does.clean (digit_e2 F FF c df h1 h2) (by kernel_rfl) (by kernel_rfl) rfl (by kernel_rfl))
    · replace hh := cond_f h2 hh
      subst hh; exact DoesC.ent FF (by kernel_rfl) (Does.clean (digit_e3 F FF c df h1 h2) (by kernel_rfl) (by kernel_rfl) rfl (by kernel_rfl))
end
def capital_v (c : Int) : Bool := bif (decide (c ≥ 65)) then (bif (decide (c ≤ 90)) then (true) else (false)) else (false)
section
variable (F : Fits Tryz.prog E) (FF : FitsF Tryz.prog E)
include F FF
section
variable (c : Int) (df : Nat)
include c df
theorem capital_e1 (o1 : (decide (c ≥ 65)) = false) : Does Tryz.prog E (ent E 116 [.int .u8 c]) (⟨.e, 0, df⟩) (.bool false) ⟨.e, 0, df⟩ :=
  path_ret F FF (obs := [zT, zA (decide (c ≥ 65)) false]) [.n 7, .v (.bool false), .n 7] (by kernel_rfl) ⟨rfl, (zg o1)⟩
theorem capital_e2 (o1 : (decide (c ≥ 65)) = true) (o2 : (decide (c ≤ 90)) = true) : Does Tryz.prog E (ent E 116 [.int .u8 c]) (⟨.e, 0, df⟩) (.bool true) ⟨.e, 0, df⟩ :=
  path_ret F FF (obs := [zT, zA (decide (c ≥ 65)) true, zT, zA (decide (c ≤ 90)) true]) [.n 7, .v (.bool true), .n 2, .v (.bool true), .n 4] (by kernel_rfl) ⟨rfl, (zg o1), rfl, (zg o2)⟩
theorem capital_e3 (o1 : (decide (c ≥ 65)) = true) (o2 : (decide (c ≤ 90)) = false) : Does Tryz.prog E (ent E 116 [.int .u8 c]) (⟨.e, 0, df⟩) (.bool false) ⟨.e, 0, df⟩ :=
  path_ret F FF (obs := [zT, zA (decide (c ≥ 65)) true, zT, zA (decide (c ≤ 90)) false]) [.n 7, .v (.bool true), .n 2, .v (.bool false), .n 4] (by kernel_rfl) ⟨rfl, (zg o1), rfl, (zg o2)⟩
end
theorem capital_does (c : Int) (df : Nat) : DoesC Tryz.prog E 116 [.int .u8 c] ⟨.e, 0, df⟩ (.bool (capital_v c)) ⟨.e, 0, df⟩ := by
  suffices H : ∀ r, capital_v c = r → DoesC Tryz.prog E 116 [.int .u8 c] ⟨.e, 0, df⟩ (.bool r) ⟨.e, 0, df⟩ from H _ rfl
  intro r hh
  unfold capital_v at hh
  rcases Bool.eq_false_or_eq_true ((decide (c ≥ 65))) with h1 | h1
  · replace hh := cond_t h1 hh
    rcases Bool.eq_false_or_eq_true ((decide (c ≤ 90))) with h2 | h2
    · replace hh := cond_t h2 hh
      subst hh; exact DoesC.ent FF (by kernel_rfl) (Does.clean (capital_e2 F FF c df h1 h2) (by kernel_rfl) (by kernel_rfl) rfl (by kernel_rfl))
    · replace hh := cond_f h2 hh
      subst hh; exact DoesC.ent FF (by kernel_rfl) (Does.clean (capital_e3 F FF c df h1 h2) (by kernel_rfl) (by kernel_rfl) rfl (by kernel_rfl))
  · replace hh := cond_f h1 hh
    subst hh; exact DoesC.ent FF (by kernel_rfl) (Does.clean (capital_e1 F FF c df h1) (by kernel_rfl) (by kernel_rfl) rfl (by kernel_rfl))
end
def reserved_v (s : List UInt8) : Bool := bif (s == [114, 101, 108, 97, 116, 105, 111, 110]) then (true) else (bif (s == [110, 111, 116]) then (true) else (bif (s == [110, 117, 109]) then (true) else (bif (s == [115, 121, 109]) then (true) else (bif (s == [109, 111, 100]) then (true) else (bif (s == [99, 111, 117, 110, 116]) then (true) else (bif (s == [115, 117, 109]) then (true) else (bif (s == [109, 105, 110]) then (true) else (bif (s == [109, 97, 120]) then (true) else (false)))))))))
section
variable (F : Fits Tryz.prog E) (FF : FitsF Tryz.prog E)
include F FF
section
variable (s : List UInt8) (df : Nat)
include s df
theorem reserved_e1 (o1 : (s == [114, 101, 108, 97, 116, 105, 111, 110]) = true) : Does Tryz.prog E (ent E 67 [.str s]) (⟨.e, 0, df⟩) (.bool true) ⟨.e, 0, df⟩ :=
  path_ret F FF (obs := [zT, zA (s == [114, 101, 108, 97, 116, 105, 111, 110]) true]) [.n 13, .v (.bool true), .n 10] (by kernel_rfl) ⟨rfl, (zg o1)⟩
theorem reserved_e2 (o1 : (s == [114, 101, 108, 97, 116, 105, 111, 110]) = false) (o2 : (s == [110, 111, 116]) = true) : Does Tryz.prog E (ent E 67 [.str s]) (⟨.e, 0, df⟩) (.bool true) ⟨.e, 0, df⟩ :=
  path_ret F FF (obs := [zT, zA (s == [114, 101, 108, 97, 116, 105, 111, 110]) false, zT, zA (s == [110, 111, 116]) true]) [.n 13, .v (.bool false), .n 5, .v (.bool true), .n 10] (by kernel_rfl) ⟨rfl, (zg o1), rfl, (zg o2)⟩
theorem reserved_e3 (o1 : (s == [114, 101, 108, 97, 116, 105, 111, 110]) = false) (o2 : (s == [110, 111, 116]) = false) (o3 : (s == [110, 117, 109]) = true) : Does Tryz.prog E (ent E 67 [.str s]) (⟨.e, 0, df⟩) (.bool true) ⟨.e, 0, df⟩ :=
  path_ret F FF (obs := [zT, zA (s == [114, 101, 108, 97, 116, 105, 111, 110]) false, zT, zA (s == [110, 111, 116]) false, zT, zA (s == [110, 117, 109]) true]) [.n 13, .v (.bool false), .n 5, .v (.bool false), .n 5, .v (.bool true), .n 10] (by kernel_rfl) ⟨rfl, (zg o1), rfl, (zg o2), rfl, (zg o3)⟩
theorem reserved_e4 (o1 : (s == [114, 101, 108, 97, 116, 105, 111, 110]) = false) (o2 : (s == [110, 111, 116]) = false) (o3 : (s == [110, 117, 109]) = false) (o4 : (s == [115, 121, 109]) = true) : Does Tryz.prog E (ent E 67 [.str s]) (⟨.e, 0, df⟩) (.bool true) ⟨.e, 0, df⟩ :=
  path_ret F FF (obs := [zT, zA (s == [114, 101, 108, 97, 116, 105, 111, 110]) false, zT, zA (s == [110, 111, 116]) false, zT, zA (s == [110, 117, 109]) false, zT, zA (s == [115, 121, 109]) true]) [.n 13, .v (.bool false), .n 5, .v (.bool false), .n 5, .v (.bool false), .n 5, .v (.bool true), .n 10] (by kernel_rfl) ⟨rfl, (zg o1), rfl, (zg o2), rfl, (zg o3), rfl, (zg o4)⟩
theorem reserved_e5 (o1 : (s == [114, 101, 108, 97, 116, 105, 111, 110]) = false) (o2 : (s == [110, 111, 116]) = false) (o3 : (s == [110, 117, 109]) = false) (o4 : (s == [115, 121, 109]) = false) (o5 : (s == [109, 111, 100]) = true) : Does Tryz.prog E (ent E 67 [.str s]) (⟨.e, 0, df⟩) (.bool true) ⟨.e, 0, df⟩ :=
  path_ret F FF (obs := [zT, zA (s == [114, 101, 108, 97, 116, 105, 111, 110]) false, zT, zA (s == [110, 111, 116]) false, zT, zA (s == [110, 117, 109]) false, zT, zA (s == [115, 121, 109]) false, zT, zA (s == [109, 111, 100]) true]) [.n 13, .v (.bool false), .n 5, .v (.bool false), .n 5, .v (.bool false), .n 5, .v (.bool false), .n 5, .v (.bool true), .n 10] (by kernel_rfl) ⟨rfl, (zg o1), rfl, (zg o2), rfl, (zg o3), rfl, (zg o4), rfl, (zg o5)⟩
theorem reserved_e6 (o1 : (s == [114, 101, 108, 97, 116, 105, 111, 110]) = false) (o2 : (s == [110, 111, 116]) = false) (o3 : (s == [110, 117, 109]) = false) (o4 : (s == [115, 121, 109]) = false) (o5 : (s == [109, 111, 100]) = false) (o6 : (s == [99, 111, 117, 110, 116]) = true) : Does Tryz.prog E (ent E 67 [.str s]) (⟨.e, 0, df⟩) (.bool true) ⟨.e, 0, df⟩ :=
  path_ret F FF (obs := [zT, zA (s == [114, 101, 108, 97, 116, 105, 111, 110]) false, zT, zA (s == [110, 111, 116]) false, zT, zA (s == [110, 117, 109]) false, zT, zA (s == [115, 121, 109]) false, zT, zA (s == [109, 111, 100]) false, zT, zA (s == [99, 111, 117, 110, 116]) true]) [.n 13, .v (.bool false), .n 5, .v (.bool false), .n 5, .v (.bool false), .n 5, .v (.bool false), .n 5, .v (.bool false), .n 5, .v (.bool true), .n 10] (by kernel_rfl) ⟨rfl, (zg o1), rfl, (zg o2), rfl, (zg o3), rfl, (zg o4), rfl, (zg o5), rfl, (zg o6)⟩
theorem reserved_e7 (o1 : (s == [114, 101, 108, 97, 116, 105, 111, 110]) = false) (o2 : (s == [110, 111, 116]) = false) (o3 : (s == [110, 117, 109]) = false) (o4 : (s == [115, 121, 109]) = false) (o5 : (s == [109, 111, 100]) = false) (o6 : (s == [99, 111, 117, 110, 116]) = false) (o7 : (s == [115, 117, 109]) = true) : Does Tryz.prog E (ent E 67 [.str s]) (⟨.e, 0, df⟩) (.bool true) ⟨.e, 0, df⟩ :=
  path_ret F FF (obs := [zT, zA (s == [114, 101, 108, 97, 116, 105, 111, 110]) false, zT, zA (s == [110, 111, 116]) false, zT, zA (s == [110, 117, 109]) false, zT, zA (s == [115, 121, 109]) false, zT, zA (s == [109, 111, 100]) false, zT, zA (s == [99, 111, 117, 110, 116]) false, zT, zA (s == [115, 117, 109]) true]) [.n 13, .v (.bool false), .n 5, .v (.bool false), .n 5, .v (.bool false), .n 5, .v (.bool false), .n 5, .v (.bool false), .n 5, .v (.bool false), .n 5, .v (.bool true), .n 10] (by kernel_rfl) ⟨rfl, (zg o1), rfl, (zg o2), rfl, (zg o3), rfl, (zg o4), rfl, (zg o5), rfl, (zg o6), rfl, (zg o7)⟩
theorem reserved_e8 (o1 : (s == [114, 101, 108, 97, 116, 105, 111, 110]) = false) (o2 : (s == [110, 111, 116]) = false) (o3 : (s == [110, 117, 109]) = false) (o4 : (s == [115, 121, 109]) = false) (o5 : (s == [109, 111, 100]) = false) (o6 : (s == [99, 111, 117, 110, 116]) = false) (o7 : (s == [115, 117, 109]) = false) (o8 : (s == [109, 105, 110]) = true) : Does Tryz.prog E (ent E 67 [.str s]) (⟨.e, 0, df⟩) (.bool true) ⟨.e, 0, df⟩ :=
  path_ret F FF (obs := [zT, zA (s == [114, 101, 108, 97, 116, 105, 111, 110]) false, zT, zA (s == [110, 111, 116]) false, zT, zA (s == [110, 117, 109]) false, zT, zA (s == [115, 121, 109]) false, zT, zA (s == [109, 111, 100]) false, zT, zA (s == [99, 111, 117, 110, 116]) false, zT, zA (s == [115, 117, 109]) false, zT, zA (s == [109, 105, 110]) true]) [.n 13, .v (.bool false), .n 5, .v (.bool false), .n 5, .v (.bool false), .n 5, .v (.bool false), .n 5, .v (.bool false), .n 5, .v (.bool false), .n 5, .v (.bool false), .n 5, .v (.bool true), .n 10] (by kernel_rfl) ⟨rfl, (zg o1), rfl, (zg o2), rfl, (zg o3), rfl, (zg o4), rfl, (zg o5), rfl, (zg o6), rfl, (zg o7), rfl, (zg o8)⟩
theorem reserved_e9 (o1 : (s == [114, 101, 108, 97, 116, 105, 111, 110]) = false) (o2 : (s == [110, 111, 116]) = false) (o3 : (s == [110, 117, 109]) = false) (o4 : (s == [115, 121, 109]) = false) (o5 : (s == [109, 111, 100]) = false) (o6 : (s == [99, 111, 117, 110, 116]) = false) (o7 : (s == [115, 117, 109]) = false) (o8 : (s == [109, 105, 110]) = false) (o9 : (s == [109, 97, 120]) = true) : Does Tryz.prog E (ent E 67 [.str s]) (⟨.e, 0, df⟩) (.bool true) ⟨.e, 0, df⟩ :=
  path_ret F FF (obs := [zT, zA (s == [114, 101, 108, 97, 116, 105, 111, 110]) false, zT, zA (s == [110, 111, 116]) false, zT, zA (s == [110, 117, 109]) false, zT, zA (s == [115, 121, 109]) false, zT, zA (s == [109, 111, 100]) false, zT, zA (s == [99, 111, 117, 110, 116]) false, zT, zA (s == [115, 117, 109]) false, zT, zA (s == [109, 105, 110]) false, zT, zA (s == [109, 97, 120]) true]) [.n 13, .v (.bool false), .n 5, .v (.bool false), .n 5, .v (.bool false), .n 5, .v (.bool false), .n 5, .v (.bool false), .n 5, .v (.bool false), .n 5, .v (.bool false), .n 5, .v (.bool false), .n 4, .v (.bool true), .n 8] (by kernel_rfl) ⟨rfl, (zg o1), rfl, (zg o2), rfl, (zg o3), rfl, (zg o4), rfl, (zg o5), rfl, (zg o6), rfl, (zg o7), rfl, (zg o8), rfl, (zg o9)⟩
theorem reserved_e10 (o1 : (s == [114, 101, 108, 97, 116, 105, 111, 110]) = false) (o2 : (s == [110, 111, 116]) = false) (o3 : (s == [110, 117, 109]) = false) (o4 : (s == [115, 121, 109]) = false) (o5 : (s == [109, 111, 100]) = false) (o6 : (s == [99, 111, 117, 110, 116]) = false) (o7 : (s == [115, 117, 109]) = false) (o8 : (s == [109, 105, 110]) = false) (o9 : (s == [109, 97, 120]) = false) : Does Tryz.prog E (ent E 67 [.str s]) (⟨.e, 0, df⟩) (.bool false) ⟨.e, 0, df⟩ :=
  path_ret F FF (obs := [zT, zA (s == [114, 101, 108, 97, 116, 105, 111, 110]) false, zT, zA (s == [110, 111, 116]) false, zT, zA (s == [110, 117, 109]) false, zT, zA (s == [115, 121, 109]) false, zT, zA (s == [109, 111, 100]) false, zT, zA (s == [99, 111, 117, 110, 116]) false, zT, zA (s == [115, 117, 109]) false, zT, zA (s == [109, 105, 110]) false, zT, zA (s == [109, 97, 120]) false]) [.n 13, .v (.bool false), .n 5, .v (.bool false), .n 5, .v (.bool false), .n 5, .v (.bool false), .n 5, .v (.bool false), .n 5, .v (.bool false), .n 5, .v (.bool false), .n 5, .v (.bool false), .n 4, .v (.bool false), .n 10] (by kernel_rfl) ⟨rfl, (zg o1), rfl, (zg o2), rfl, (zg o3), rfl, (zg o4), rfl, (zg o5), rfl, (zg o6), rfl, (zg o7), rfl, (zg o8), rfl, (zg o9)⟩
end
theorem reserved_does (s : List UInt8) (df : Nat) : DoesC Tryz.prog E 67 [.str s] ⟨.e, 0, df⟩ (.bool (reserved_v s)) ⟨.e, 0, df⟩ := by
  suffices H : ∀ r, reserved_v s = r → DoesC Tryz.prog E 67 [.str s] ⟨.e, 0, df⟩ (.bool r) ⟨.e, 0, df⟩ from H _ rfl
  intro r hh
  unfold reserved_v at hh
  rcases Bool.eq_false_or_eq_true ((s == [114, 101, 108, 97, 116, 105, 111, 110])) with h1 | h1
  · replace hh := cond_t h1 hh
    subst hh; exact DoesC.ent FF (by kernel_rfl) (Does.clean (reserved_e1 F FF s df h1) (by kernel_rfl) (by kernel_rfl) rfl (by kernel_rfl))
  · replace hh := cond_f h1 hh
    rcases Bool.eq_false_or_eq_true ((s == [110, 111, 116])) with h2 | h2
    · replace hh := cond_t h2 hh
      subst hh; exact DoesC.ent FF (by kernel_rfl) (Does.clean (reserved_e2 F FF s df h1 h2) (by kernel_rfl) (by kernel_rfl) rfl (by kernel_rfl))
    · replace hh := cond_f h2 hh
      rcases Bool.eq_false_or_eq_true ((s == [110, 117, 109])) with h3 | h3
      · replace hh := cond_t h3 hh
        subst hh; exact DoesC.ent FF (by kernel_rfl) (Does.clean (reserved_e3 F FF s df h1 h2 h3) (by kernel_rfl) (by kernel_rfl) rfl (by kernel_rfl))
      · replace hh := cond_f h3 hh
        rcases Bool.eq_false_or_eq_true ((s == [115, 121, 109])) with h4 | h4
        · replace hh := cond_t h4 hh
          subst hh; exact DoesC.ent FF (by kernel_rfl) (Does.clean (reserved_e4 F FF s df h1 h2 h3 h4) (by kernel_rfl) (by kernel_rfl) rfl (by kernel_rfl))
        · replace hh := cond_f h4 hh
          rcases Bool.eq_false_or_eq_true ((s == [109, 111, 100])) with h5 | h5
          · replace hh := cond_t h5 hh
            subst hh; exact DoesC.ent FF (by kernel_rfl) (Does.clean (reserved_e5 F FF s df h1 h2 h3 h4 h5) (by kernel_rfl) (by kernel_rfl) rfl (by kernel_rfl))
          · replace hh := cond_f h5 hh
            rcases Bool.eq_false_or_eq_true ((s == [99, 111, 117, 110, 116])) with h6 | h6
            · replace hh := cond_t h6 hh
              subst hh; exact DoesC.ent FF (by kernel_rfl) (Does.clean (reserved_e6 F FF s df h1 h2 h3 h4 h5 h6) (by kernel_rfl) (by kernel_rfl) rfl (by kernel_rfl))
            · replace hh := cond_f h6 hh
              rcases Bool.eq_false_or_eq_true ((s == [115, 117, 109])) with h7 | h7
              · replace hh := cond_t h7 hh
                subst hh; exact DoesC.ent FF (by kernel_rfl) (Does.clean (reserved_e7 F FF s df h1 h2 h3 h4 h5 h6 h7) (by kernel_rfl) (by kernel_rfl) rfl (by kernel_rfl))
              · replace hh := cond_f h7 hh
                rcases Bool.eq_false_or_eq_true ((s == [109, 105, 110])) with h8 | h8
                · replace hh := cond_t h8 hh
                  subst hh; exact DoesC.ent FF (by kernel_rfl) (Does.clean (reserved_e8 F FF s df h1 h2 h3 h4 h5 h6 h7 h8) (by kernel_rfl) (by kernel_rfl) rfl (by kernel_rfl))
                · replace hh := cond_f h8 hh
                  rcases Bool.eq_false_or_eq_true ((s == [109, 97, 120])) with h9 | h9
                  · replace hh := cond_t h9 hh
                    subst hh; exact DoesC.ent FF (by kernel_rfl) (Does.clean (reserved_e9 F FF s df h1 h2 h3 h4 h5 h6 h7 h8 h9) (by kernel_rfl) (by kernel_rfl) rfl (by kernel_rfl))
                  · replace hh := cond_f h9 hh
                    subst hh; exact DoesC.ent FF (by kernel_rfl) (Does.clean (reserved_e10 F FF s df h1 h2 h3 h4 h5 h6 h7 h8 h9) (by kernel_rfl) (by kernel_rfl) rfl (by kernel_rfl))
end
def chk_v (kind num : Int) (sym : List UInt8) : Int := bif (kind == 1) then (bif (sym == []) then (bif (decide (num ≥ -2147483647)) then (bif (decide (num ≤ 2147483647)) then (0) else (20)) else (20)) else (20)) else (bif (kind == 2) then (bif (num == 0) then (bif (decide ((↑sym.length : Int) ≤ 64)) then (0) else (20)) else (20)) else (20))
section
variable (F : Fits Tryz.prog E) (FF : FitsF Tryz.prog E)
include F FF
section
variable (kind num : Int) (sym : List UInt8) (df : Nat)
include kind num sym df
theorem chk_e1 (o1 : (kind == 1) = true) (o2 : (sym == []) = false) : Does Tryz.prog E (ent E 154 [.agg [.int .i64 kind, .int .i64 num, .str sym]]) (⟨.e, 0, df⟩) (zI 20) ⟨(zL (.cells [(zI kind), (zI num), (.str sym)] 69 false false)), 1, df⟩ :=
  path_ret F FF (obs := [zT, zA (kind == 1) true, zT, zA (sym == []) false]) [.n 14, .v (.bool true), .n 7, .v (.bool false), .n 19] (by kernel_rfl) ⟨rfl, (zg o1), rfl, (zg o2)⟩
theorem chk_e2 (o1 : (kind == 1) = false) (o2 : (kind == 2) = false) : Does Tryz.prog E (ent E 154 [.agg [.int .i64 kind, .int .i64 num, .str sym]]) (⟨.e, 0, df⟩) (zI 20) ⟨(zL (.cells [(zI kind), (zI num), (.str sym)] 69 false false)), 1, df⟩ :=
  path_ret F FF (obs := [zT, zA (kind == 1) false, zT, zA (kind == 2) false]) [.n 14, .v (.bool false), .n 5, .v (.bool false), .n 10] (by kernel_rfl) ⟨rfl, (zg o1), rfl, (zg o2)⟩
theorem chk_e3 (o1 : (kind == 1) = true) (o2 : (sym == []) = true) (o3 : (decide (num ≥ -2147483647)) = false) : Does Tryz.prog E (ent E 154 [.agg [.int .i64 kind, .int .i64 num, .str sym]]) (⟨.e, 0, df⟩) (zI 20) ⟨(zL (.cells [(zI kind), (zI num), (.str sym)] 69 false false)), 1, df⟩ :=
  path_ret F FF (obs := [zT, zA (kind == 1) true, zT, zA (sym == []) true, zT, zA (decide (num ≥ -2147483647)) false]) [.n 14, .v (.bool true), .n 7, .v (.bool true), .n 3, .v (.bool false), .n 15] (by kernel_rfl) ⟨rfl, (zg o1), rfl, (zg o2), rfl, (zg o3)⟩
theorem chk_e4 (o1 : (kind == 1) = false) (o2 : (kind == 2) = true) (o3 : (num == 0) = false) : Does Tryz.prog E (ent E 154 [.agg [.int .i64 kind, .int .i64 num, .str sym]]) (⟨.e, 0, df⟩) (zI 20) ⟨(zL (.cells [(zI kind), (zI num), (.str sym)] 69 false false)), 1, df⟩ :=
  path_ret F FF (obs := [zT, zA (kind == 1) false, zT, zA (kind == 2) true, zT, zA (num == 0) false]) [.n 14, .v (.bool false), .n 5, .v (.bool true), .n 7, .v (.bool false), .n 15] (by kernel_rfl) ⟨rfl, (zg o1), rfl, (zg o2), rfl, (zg o3)⟩
theorem chk_e5 (o1 : (kind == 1) = true) (o2 : (sym == []) = true) (o3 : (decide (num ≥ -2147483647)) = true) (o4 : (decide (num ≤ 2147483647)) = true) : Does Tryz.prog E (ent E 154 [.agg [.int .i64 kind, .int .i64 num, .str sym]]) (⟨.e, 0, df⟩) (zI 0) ⟨(zL (.cells [(zI kind), (zI num), (.str sym)] 69 false false)), 1, df⟩ :=
  path_ret F FF (obs := [zT, zA (kind == 1) true, zT, zA (sym == []) true, zT, zA (decide (num ≥ -2147483647)) true, zT, zA (decide (num ≤ 2147483647)) true]) [.n 14, .v (.bool true), .n 7, .v (.bool true), .n 3, .v (.bool true), .n 4, .v (.bool true), .n 8] (by kernel_rfl) ⟨rfl, (zg o1), rfl, (zg o2), rfl, (zg o3), rfl, (zg o4)⟩
theorem chk_e6 (o1 : (kind == 1) = true) (o2 : (sym == []) = true) (o3 : (decide (num ≥ -2147483647)) = true) (o4 : (decide (num ≤ 2147483647)) = false) : Does Tryz.prog E (ent E 154 [.agg [.int .i64 kind, .int .i64 num, .str sym]]) (⟨.e, 0, df⟩) (zI 20) ⟨(zL (.cells [(zI kind), (zI num), (.str sym)] 69 false false)), 1, df⟩ :=
  path_ret F FF (obs := [zT, zA (kind == 1) true, zT, zA (sym == []) true, zT, zA (decide (num ≥ -2147483647)) true, zT, zA (decide (num ≤ 2147483647)) false]) [.n 14, .v (.bool true), .n 7, .v (.bool true), .n 3, .v (.bool true), .n 4, .v (.bool false), .n 10] (by kernel_rfl) ⟨rfl, (zg o1), rfl, (zg o2), rfl, (zg o3), rfl, (zg o4)⟩
theorem chk_e7 (o1 : (kind == 1) = false) (o2 : (kind == 2) = true) (o3 : (num == 0) = true) (o4 : (decide ((↑sym.length : Int) ≤ 64)) = true) : Does Tryz.prog E (ent E 154 [.agg [.int .i64 kind, .int .i64 num, .str sym]]) (⟨.e, 0, df⟩) (zI 0) ⟨(zL (.cells [(zI kind), (zI num), (.str sym)] 69 false false)), 1, df⟩ :=
  path_ret F FF (obs := [zT, zA (kind == 1) false, zT, zA (kind == 2) true, zT, zA (num == 0) true, zT, zA (decide ((↑sym.length : Int) ≤ 64)) true]) [.n 14, .v (.bool false), .n 5, .v (.bool true), .n 7, .v (.bool true), .n 4, .v (.bool true), .n 8] (by kernel_rfl) ⟨rfl, (zg o1), rfl, (zg o2), rfl, (zg o3), rfl, (zg o4)⟩
theorem chk_e8 (o1 : (kind == 1) = false) (o2 : (kind == 2) = true) (o3 : (num == 0) = true) (o4 : (decide ((↑sym.length : Int) ≤ 64)) = false) : Does Tryz.prog E (ent E 154 [.agg [.int .i64 kind, .int .i64 num, .str sym]]) (⟨.e, 0, df⟩) (zI 20) ⟨(zL (.cells [(zI kind), (zI num), (.str sym)] 69 false false)), 1, df⟩ :=
  path_ret F FF (obs := [zT, zA (kind == 1) false, zT, zA (kind == 2) true, zT, zA (num == 0) true, zT, zA (decide ((↑sym.length : Int) ≤ 64)) false]) [.n 14, .v (.bool false), .n 5, .v (.bool true), .n 7, .v (.bool true), .n 4, .v (.bool false), .n 10] (by kernel_rfl) ⟨rfl, (zg o1), rfl, (zg o2), rfl, (zg o3), rfl, (zg o4)⟩
end
theorem chk_does (kind num : Int) (sym : List UInt8) (df : Nat) : DoesC Tryz.prog E 154 [.agg [.int .i64 kind, .int .i64 num, .str sym]] ⟨.e, 0, df⟩ (zI (chk_v kind num sym)) ⟨.e, 0, df⟩ := by
  suffices H : ∀ r, chk_v kind num sym = r → DoesC Tryz.prog E 154 [.agg [.int .i64 kind, .int .i64 num, .str sym]] ⟨.e, 0, df⟩ (zI r) ⟨.e, 0, df⟩ from H _ rfl
  intro r hh
  unfold chk_v at hh
  rcases Bool.eq_false_or_eq_true ((kind == 1)) with h1 | h1
  · replace hh := cond_t h1 hh
    rcases Bool.eq_false_or_eq_true ((sym == [])) with h2 | h2
    · replace hh := cond_t h2 hh
      rcases Bool.eq_false_or_eq_true ((decide (num ≥ -2147483647))) with h3 | h3
      · replace hh := cond_t h3 hh
        rcases Bool.eq_false_or_eq_true ((decide (num ≤ 2147483647))) with h4 | h4
        · replace hh := cond_t h4 hh
          subst hh; exact DoesC.ent FF (by kernel_rfl) (Does.clean (chk_e5 F FF kind num sym df h1 h2 h3 h4) (by kernel_rfl) (by kernel_rfl) rfl (by kernel_rfl))
        · replace hh := cond_f h4 hh
          subst hh; exact DoesC.ent FF (by kernel_rfl) (Does.clean (chk_e6 F FF kind num sym df h1 h2 h3 h4) (by kernel_rfl) (by kernel_rfl) rfl (by kernel_rfl))
      · replace hh := cond_f h3 hh
        subst hh; exact DoesC.ent FF (by kernel_rfl) (Does.clean (chk_e3 F FF kind num sym df h1 h2 h3) (by kernel_rfl) (by kernel_rfl) rfl (by kernel_rfl))
    · replace hh := cond_f h2 hh
      subst hh; exact DoesC.ent FF (by kernel_rfl) (Does.clean (chk_e1 F FF kind num sym df h1 h2) (by kernel_rfl) (by kernel_rfl) rfl (by kernel_rfl))
  · replace hh := cond_f h1 hh
    rcases Bool.eq_false_or_eq_true ((kind == 2)) with h2 | h2
    · replace hh := cond_t h2 hh
      rcases Bool.eq_false_or_eq_true ((num == 0)) with h3 | h3
      · replace hh := cond_t h3 hh
        rcases Bool.eq_false_or_eq_true ((decide ((↑sym.length : Int) ≤ 64))) with h4 | h4
        · replace hh := cond_t h4 hh
          subst hh; exact DoesC.ent FF (by kernel_rfl) (Does.clean (chk_e7 F FF kind num sym df h1 h2 h3 h4) (by kernel_rfl) (by kernel_rfl) rfl (by kernel_rfl))
        · replace hh := cond_f h4 hh
          subst hh; exact DoesC.ent FF (by kernel_rfl) (Does.clean (chk_e8 F FF kind num sym df h1 h2 h3 h4) (by kernel_rfl) (by kernel_rfl) rfl (by kernel_rfl))
      · replace hh := cond_f h3 hh
        subst hh; exact DoesC.ent FF (by kernel_rfl) (Does.clean (chk_e4 F FF kind num sym df h1 h2 h3) (by kernel_rfl) (by kernel_rfl) rfl (by kernel_rfl))
    · replace hh := cond_f h2 hh
      subst hh; exact DoesC.ent FF (by kernel_rfl) (Does.clean (chk_e2 F FF kind num sym df h1 h2) (by kernel_rfl) (by kernel_rfl) rfl (by kernel_rfl))
end
def rval_v (kind num : Int) (sym : List UInt8) : Bool := bif (kind == 1) then (bif (sym == []) then (bif (decide (num ≥ -2147483647)) then (bif (decide (num ≤ 2147483647)) then (true) else (false)) else (false)) else (false)) else (bif (kind == 2) then (bif (num == 0) then (bif (decide ((↑sym.length : Int) ≤ 64)) then (true) else (false)) else (false)) else (false))
section
variable (F : Fits Tryz.prog E) (FF : FitsF Tryz.prog E)
include F FF
section
variable (kind num : Int) (sym : List UInt8) (df : Nat)
include kind num sym df
theorem rval_e1 (o1 : (kind == 1) = true) (o2 : (sym == []) = false) : Does Tryz.prog E (ent E 24 [.agg [.int .i64 kind, .int .i64 num, .str sym]]) (⟨.e, 0, df⟩) (.bool false) ⟨(zL (.cells [(zI kind), (zI num), (.str sym)] 69 false false)), 1, df⟩ :=
  path_ret F FF (obs := [zT, zA (kind == 1) true, zT, zA (sym == []) false]) [.n 14, .v (.bool true), .n 7, .v (.bool false), .n 13] (by kernel_rfl) ⟨rfl, (zg o1), rfl, (zg o2)⟩
theorem rval_e2 (o1 : (kind == 1) = false) (o2 : (kind == 2) = false) : Does Tryz.prog E (ent E 24 [.agg [.int .i64 kind, .int .i64 num, .str sym]]) (⟨.e, 0, df⟩) (.bool false) ⟨(zL (.cells [(zI kind), (zI num), (.str sym)] 69 false false)), 1, df⟩ :=
  path_ret F FF (obs := [zT, zA (kind == 1) false, zT, zA (kind == 2) false]) [.n 14, .v (.bool false), .n 5, .v (.bool false), .n 10] (by kernel_rfl) ⟨rfl, (zg o1), rfl, (zg o2)⟩
theorem rval_e3 (o1 : (kind == 1) = true) (o2 : (sym == []) = true) (o3 : (decide (num ≥ -2147483647)) = false) : Does Tryz.prog E (ent E 24 [.agg [.int .i64 kind, .int .i64 num, .str sym]]) (⟨.e, 0, df⟩) (.bool false) ⟨(zL (.cells [(zI kind), (zI num), (.str sym)] 69 false false)), 1, df⟩ :=
  path_ret F FF (obs := [zT, zA (kind == 1) true, zT, zA (sym == []) true, zT, zA (decide (num ≥ -2147483647)) false]) [.n 14, .v (.bool true), .n 7, .v (.bool true), .n 3, .v (.bool false), .n 9] (by kernel_rfl) ⟨rfl, (zg o1), rfl, (zg o2), rfl, (zg o3)⟩
theorem rval_e4 (o1 : (kind == 1) = false) (o2 : (kind == 2) = true) (o3 : (num == 0) = false) : Does Tryz.prog E (ent E 24 [.agg [.int .i64 kind, .int .i64 num, .str sym]]) (⟨.e, 0, df⟩) (.bool false) ⟨(zL (.cells [(zI kind), (zI num), (.str sym)] 69 false false)), 1, df⟩ :=
  path_ret F FF (obs := [zT, zA (kind == 1) false, zT, zA (kind == 2) true, zT, zA (num == 0) false]) [.n 14, .v (.bool false), .n 5, .v (.bool true), .n 7, .v (.bool false), .n 9] (by kernel_rfl) ⟨rfl, (zg o1), rfl, (zg o2), rfl, (zg o3)⟩
theorem rval_e5 (o1 : (kind == 1) = true) (o2 : (sym == []) = true) (o3 : (decide (num ≥ -2147483647)) = true) (o4 : (decide (num ≤ 2147483647)) = true) : Does Tryz.prog E (ent E 24 [.agg [.int .i64 kind, .int .i64 num, .str sym]]) (⟨.e, 0, df⟩) (.bool true) ⟨(zL (.cells [(zI kind), (zI num), (.str sym)] 69 false false)), 1, df⟩ :=
  path_ret F FF (obs := [zT, zA (kind == 1) true, zT, zA (sym == []) true, zT, zA (decide (num ≥ -2147483647)) true, zT, zA (decide (num ≤ 2147483647)) true]) [.n 14, .v (.bool true), .n 7, .v (.bool true), .n 3, .v (.bool true), .n 4, .v (.bool true), .n 4] (by kernel_rfl) ⟨rfl, (zg o1), rfl, (zg o2), rfl, (zg o3), rfl, (zg o4)⟩
theorem rval_e6 (o1 : (kind == 1) = true) (o2 : (sym == []) = true) (o3 : (decide (num ≥ -2147483647)) = true) (o4 : (decide (num ≤ 2147483647)) = false) : Does Tryz.prog E (ent E 24 [.agg [.int .i64 kind, .int .i64 num, .str sym]]) (⟨.e, 0, df⟩) (.bool false) ⟨(zL (.cells [(zI kind), (zI num), (.str sym)] 69 false false)), 1, df⟩ :=
  path_ret F FF (obs := [zT, zA (kind == 1) true, zT, zA (sym == []) true, zT, zA (decide (num ≥ -2147483647)) true, zT, zA (decide (num ≤ 2147483647)) false]) [.n 14, .v (.bool true), .n 7, .v (.bool true), .n 3, .v (.bool true), .n 4, .v (.bool false), .n 4] (by kernel_rfl) ⟨rfl, (zg o1), rfl, (zg o2), rfl, (zg o3), rfl, (zg o4)⟩
theorem rval_e7 (o1 : (kind == 1) = false) (o2 : (kind == 2) = true) (o3 : (num == 0) = true) (o4 : (decide ((↑sym.length : Int) ≤ 64)) = true) : Does Tryz.prog E (ent E 24 [.agg [.int .i64 kind, .int .i64 num, .str sym]]) (⟨.e, 0, df⟩) (.bool true) ⟨(zL (.cells [(zI kind), (zI num), (.str sym)] 69 false false)), 1, df⟩ :=
  path_ret F FF (obs := [zT, zA (kind == 1) false, zT, zA (kind == 2) true, zT, zA (num == 0) true, zT, zA (decide ((↑sym.length : Int) ≤ 64)) true]) [.n 14, .v (.bool false), .n 5, .v (.bool true), .n 7, .v (.bool true), .n 4, .v (.bool true), .n 4] (by kernel_rfl) ⟨rfl, (zg o1), rfl, (zg o2), rfl, (zg o3), rfl, (zg o4)⟩
theorem rval_e8 (o1 : (kind == 1) = false) (o2 : (kind == 2) = true) (o3 : (num == 0) = true) (o4 : (decide ((↑sym.length : Int) ≤ 64)) = false) : Does Tryz.prog E (ent E 24 [.agg [.int .i64 kind, .int .i64 num, .str sym]]) (⟨.e, 0, df⟩) (.bool false) ⟨(zL (.cells [(zI kind), (zI num), (.str sym)] 69 false false)), 1, df⟩ :=
  path_ret F FF (obs := [zT, zA (kind == 1) false, zT, zA (kind == 2) true, zT, zA (num == 0) true, zT, zA (decide ((↑sym.length : Int) ≤ 64)) false]) [.n 14, .v (.bool false), .n 5, .v (.bool true), .n 7, .v (.bool true), .n 4, .v (.bool false), .n 4] (by kernel_rfl) ⟨rfl, (zg o1), rfl, (zg o2), rfl, (zg o3), rfl, (zg o4)⟩
end
theorem rval_does (kind num : Int) (sym : List UInt8) (df : Nat) : DoesC Tryz.prog E 24 [.agg [.int .i64 kind, .int .i64 num, .str sym]] ⟨.e, 0, df⟩ (.bool (rval_v kind num sym)) ⟨.e, 0, df⟩ := by
  suffices H : ∀ r, rval_v kind num sym = r → DoesC Tryz.prog E 24 [.agg [.int .i64 kind, .int .i64 num, .str sym]] ⟨.e, 0, df⟩ (.bool r) ⟨.e, 0, df⟩ from H _ rfl
  intro r hh
  unfold rval_v at hh
  rcases Bool.eq_false_or_eq_true ((kind == 1)) with h1 | h1
  · replace hh := cond_t h1 hh
    rcases Bool.eq_false_or_eq_true ((sym == [])) with h2 | h2
    · replace hh := cond_t h2 hh
      rcases Bool.eq_false_or_eq_true ((decide (num ≥ -2147483647))) with h3 | h3
      · replace hh := cond_t h3 hh
        rcases Bool.eq_false_or_eq_true ((decide (num ≤ 2147483647))) with h4 | h4
        · replace hh := cond_t h4 hh
          subst hh; exact DoesC.ent FF (by kernel_rfl) (Does.clean (rval_e5 F FF kind num sym df h1 h2 h3 h4) (by kernel_rfl) (by kernel_rfl) rfl (by kernel_rfl))
        · replace hh := cond_f h4 hh
          subst hh; exact DoesC.ent FF (by kernel_rfl) (Does.clean (rval_e6 F FF kind num sym df h1 h2 h3 h4) (by kernel_rfl) (by kernel_rfl) rfl (by kernel_rfl))
      · replace hh := cond_f h3 hh
        subst hh; exact DoesC.ent FF (by kernel_rfl) (Does.clean (rval_e3 F FF kind num sym df h1 h2 h3) (by kernel_rfl) (by kernel_rfl) rfl (by kernel_rfl))
    · replace hh := cond_f h2 hh
      subst hh; exact DoesC.ent FF (by kernel_rfl) (Does.clean (rval_e1 F FF kind num sym df h1 h2) (by kernel_rfl) (by kernel_rfl) rfl (by kernel_rfl))
  · replace hh := cond_f h1 hh
    rcases Bool.eq_false_or_eq_true ((kind == 2)) with h2 | h2
    · replace hh := cond_t h2 hh
      rcases Bool.eq_false_or_eq_true ((num == 0)) with h3 | h3
      · replace hh := cond_t h3 hh
        rcases Bool.eq_false_or_eq_true ((decide ((↑sym.length : Int) ≤ 64))) with h4 | h4
        · replace hh := cond_t h4 hh
          subst hh; exact DoesC.ent FF (by kernel_rfl) (Does.clean (rval_e7 F FF kind num sym df h1 h2 h3 h4) (by kernel_rfl) (by kernel_rfl) rfl (by kernel_rfl))
        · replace hh := cond_f h4 hh
          subst hh; exact DoesC.ent FF (by kernel_rfl) (Does.clean (rval_e8 F FF kind num sym df h1 h2 h3 h4) (by kernel_rfl) (by kernel_rfl) rfl (by kernel_rfl))
      · replace hh := cond_f h3 hh
        subst hh; exact DoesC.ent FF (by kernel_rfl) (Does.clean (rval_e4 F FF kind num sym df h1 h2 h3) (by kernel_rfl) (by kernel_rfl) rfl (by kernel_rfl))
    · replace hh := cond_f h2 hh
      subst hh; exact DoesC.ent FF (by kernel_rfl) (Does.clean (rval_e2 F FF kind num sym df h1 h2) (by kernel_rfl) (by kernel_rfl) rfl (by kernel_rfl))
end
end Go.Ev
set_option linter.all false
namespace Go.Ev
open Go.Proofs
set_option maxRecDepth 100000
noncomputable def rest_LH (s : List UInt8) (df : Nat) (i : Int) : AF := ⟨⟨66, false, none, 43⟩, (zN (zO (zL (zI i)) .e) (.str s) (zL (.bool false))), [.code (cAt Tryz.f66 [1, 1, 0, 1, 0, 0]), .inLoop (cAt Tryz.f66 [1, 1, 0, 1, 0, 0]), .inBlock 0, .code (cAt Tryz.f66 [1, 1, 1])], [], false⟩
noncomputable def rest_L (s : List UInt8) (df : Nat) : Nat → Int → Option AV
  | 0, _ => none
  | n + 1, i => bif (decide (i < (↑s.length : Int))) then (bif ((decide (0 ≤ i) && decide (i < (↑s.length : Int)))) then (bif ((digit_v (↑(s.getD i.toNat 0).toNat : Int))) then (bif ((decide (0 ≤ i) && decide (i < (↑s.length : Int)))) then (bif ((small_v (↑(s.getD i.toNat 0).toNat : Int))) then (bif ((decide (0 ≤ i) && decide (i < (↑s.length : Int)))) then (bif ((capital_v (↑(s.getD i.toNat 0).toNat : Int))) then (rest_L s df n ((IntKind.i64.wrap (i + 1)))) else (rest_L s df n ((IntKind.i64.wrap (i + 1))))) else none) else (bif ((decide (0 ≤ i) && decide (i < (↑s.length : Int)))) then (bif ((capital_v (↑(s.getD i.toNat 0).toNat : Int))) then (rest_L s df n ((IntKind.i64.wrap (i + 1)))) else (rest_L s df n ((IntKind.i64.wrap (i + 1))))) else none)) else none) else (bif ((decide (0 ≤ i) && decide (i < (↑s.length : Int)))) then (bif ((small_v (↑(s.getD i.toNat 0).toNat : Int))) then (bif ((decide (0 ≤ i) && decide (i < (↑s.length : Int)))) then (bif ((capital_v (↑(s.getD i.toNat 0).toNat : Int))) then (rest_L s df n ((IntKind.i64.wrap (i + 1)))) else (rest_L s df n ((IntKind.i64.wrap (i + 1))))) else none) else (bif ((decide (0 ≤ i) && decide (i < (↑s.length : Int)))) then (bif ((capital_v (↑(s.getD i.toNat 0).toNat : Int))) then (rest_L s df n ((IntKind.i64.wrap (i + 1)))) else (some (.bool false))) else none)) else none)) else none) else (some (.bool true))
noncomputable def rest_fn (s : List UInt8) (df : Nat) (n : Nat) : Option AV := bif (decide ((↑s.length : Int) < 1)) then (some (.bool false)) else (bif (decide ((↑s.length : Int) > 32)) then (some (.bool false)) else (rest_L s df n (1)))
section
variable (F : Fits Tryz.prog E) (FF : FitsF Tryz.prog E)
include F FF
section
variable (s : List UInt8) (df : Nat)
include s df
theorem rest_e1 (o1 : (decide ((↑s.length : Int) < 1)) = true) : Does Tryz.prog E (ent E 66 [.str s]) (⟨.e, 0, df⟩) (.bool false) ⟨.e, 0, df⟩ :=
  path_ret F FF (obs := [zT, zA (decide ((↑s.length : Int) < 1)) true]) [.n 9, .v (.bool true), .n 12] (by kernel_rfl) ⟨rfl, (zg o1)⟩
theorem rest_e2 (o1 : (decide ((↑s.length : Int) < 1)) = false) (o2 : (decide ((↑s.length : Int) > 32)) = true) : Does Tryz.prog E (ent E 66 [.str s]) (⟨.e, 0, df⟩) (.bool false) ⟨.e, 0, df⟩ :=
  path_ret F FF (obs := [zT, zA (decide ((↑s.length : Int) < 1)) false, zT, zA (decide ((↑s.length : Int) > 32)) true]) [.n 9, .v (.bool false), .n 3, .v (.bool true), .n 8] (by kernel_rfl) ⟨rfl, (zg o1), rfl, (zg o2)⟩
theorem rest_e3 (o1 : (decide ((↑s.length : Int) < 1)) = false) (o2 : (decide ((↑s.length : Int) > 32)) = false) : DoesS Tryz.prog E (ent E 66 [.str s]) (⟨.e, 0, df⟩) ⟨⟨66, false, none, 43⟩, (zN (zO (zL (zI 1)) .e) (.str s) (zL (.bool false))), [.code (cAt Tryz.f66 [1, 1, 0, 1, 0, 0]), .inLoop (cAt Tryz.f66 [1, 1, 0, 1, 0, 0]), .inBlock 0, .code (cAt Tryz.f66 [1, 1, 1])], [], false⟩ ⟨.e, 0, df⟩ :=
  path_to F FF (obs := [zT, zA (decide ((↑s.length : Int) < 1)) false, zT, zA (decide ((↑s.length : Int) > 32)) false]) [.n 9, .v (.bool false), .n 3, .v (.bool false), .n 11] [0, 2, 3] (by kernel_rfl) ⟨rfl, (zg o1), rfl, (zg o2)⟩
end
section
variable (s : List UInt8) (df : Nat) (i : Int)
include s df i
theorem rest_l1 (o1 : (decide (i < (↑s.length : Int))) = false) : Does Tryz.prog E ((⟨⟨66, false, none, 43⟩, (zN (zO (zL (zI i)) .e) (.str s) (zL (.bool false))), [.code (cAt Tryz.f66 [1, 1, 0, 1, 0, 0]), .inLoop (cAt Tryz.f66 [1, 1, 0, 1, 0, 0]), .inBlock 0, .code (cAt Tryz.f66 [1, 1, 1])], [], false⟩ : AF)) (⟨.e, 0, df⟩) (.bool true) ⟨.e, 0, df⟩ :=
  path_ret F FF (obs := [zT, zA (decide (i < (↑s.length : Int))) false]) [.n 6, .v (.bool false), .n 8] (by kernel_rfl) ⟨rfl, (zg o1)⟩
theorem rest_l2 (o1 : (decide (i < (↑s.length : Int))) = true) (o2 : ((decide (0 ≤ i) && decide (i < (↑s.length : Int)))) = true) (o3 : ((digit_v (↑(s.getD i.toNat 0).toNat : Int))) = true) (o4 : ((decide (0 ≤ i) && decide (i < (↑s.length : Int)))) = true) (o5 : ((small_v (↑(s.getD i.toNat 0).toNat : Int))) = true) (o6 : ((decide (0 ≤ i) && decide (i < (↑s.length : Int)))) = true) (o7 : ((capital_v (↑(s.getD i.toNat 0).toNat : Int))) = true) : DoesS Tryz.prog E ((⟨⟨66, false, none, 43⟩, (zN (zO (zL (zI i)) .e) (.str s) (zL (.bool false))), [.code (cAt Tryz.f66 [1, 1, 0, 1, 0, 0]), .inLoop (cAt Tryz.f66 [1, 1, 0, 1, 0, 0]), .inBlock 0, .code (cAt Tryz.f66 [1, 1, 1])], [], false⟩ : AF)) (⟨.e, 0, df⟩) ⟨⟨66, false, none, 43⟩, (zN (zO (zL (zI (IntKind.i64.wrap (i + 1)))) .e) (.str s) (zL (.bool false))), [.code (cAt Tryz.f66 [1, 1, 0, 1, 0, 0]), .inLoop (cAt Tryz.f66 [1, 1, 0, 1, 0, 0]), .inBlock 0, .code (cAt Tryz.f66 [1, 1, 1])], [], false⟩ ⟨.e, 0, df⟩ :=
  path_to F FF (obs := [zT, zA (decide (i < (↑s.length : Int))) true, zT, indexA E 9 (.str s) (zI i) = some (.int .u8 ((↑(s.getD i.toNat 0).toNat : Int))), DoesC Tryz.prog E 115 [(.int .u8 ((↑(s.getD i.toNat 0).toNat : Int)))] ⟨.e, 0, df⟩ (.bool true) ⟨.e, 0, df⟩, zT, indexA E 9 (.str s) (zI i) = some (.int .u8 ((↑(s.getD i.toNat 0).toNat : Int))), DoesC Tryz.prog E 68 [(.int .u8 ((↑(s.getD i.toNat 0).toNat : Int)))] ⟨.e, 0, df⟩ (.bool true) ⟨.e, 0, df⟩, zT, indexA E 9 (.str s) (zI i) = some (.int .u8 ((↑(s.getD i.toNat 0).toNat : Int))), DoesC Tryz.prog E 116 [(.int .u8 ((↑(s.getD i.toNat 0).toNat : Int)))] ⟨.e, 0, df⟩ (.bool true) ⟨.e, 0, df⟩]) [.n 6, .v (.bool true), .n 9, .v (.int .u8 ((↑(s.getD i.toNat 0).toNat : Int))), .k (.bool true) ⟨.e, 0, df⟩, .n 6, .v (.int .u8 ((↑(s.getD i.toNat 0).toNat : Int))), .k (.bool true) ⟨.e, 0, df⟩, .n 6, .v (.int .u8 ((↑(s.getD i.toNat 0).toNat : Int))), .k (.bool true) ⟨.e, 0, df⟩, .n 24] [0, 2, 3] (by kernel_rfl) ⟨rfl, (zg o1), rfl, (indexA_str (by kernel_rfl) o2), (o3 ▸ (digit_does F FF _ _)), rfl, (indexA_str (by kernel_rfl) o4), (o5 ▸ (small_does F FF _ _)), rfl, (indexA_str (by kernel_rfl) o6), (o7 ▸ (capital_does F FF _ _))⟩
theorem rest_l3 (o1 : (decide (i < (↑s.length : Int))) = true) (o2 : ((decide (0 ≤ i) && decide (i < (↑s.length : Int)))) = true) (o3 : ((digit_v (↑(s.getD i.toNat 0).toNat : Int))) = true) (o4 : ((decide (0 ≤ i) && decide (i < (↑s.length : Int)))) = true) (o5 : ((small_v (↑(s.getD i.toNat 0).toNat : Int))) = true) (o6 : ((decide (0 ≤ i) && decide (i < (↑s.length : Int)))) = true) (o7 : ((capital_v (↑(s.getD i.toNat 0).toNat : Int))) = false) : DoesS Tryz.prog E ((⟨⟨66, false, none, 43⟩, (zN (zO (zL (zI i)) .e) (.str s) (zL (.bool false))), [.code (cAt Tryz.f66 [1, 1, 0, 1, 0, 0]), .inLoop (cAt Tryz.f66 [1, 1, 0, 1, 0, 0]), .inBlock 0, .code (cAt Tryz.f66 [1, 1, 1])], [], false⟩ : AF)) (⟨.e, 0, df⟩) ⟨⟨66, false, none, 43⟩, (zN (zO (zL (zI (IntKind.i64.wrap (i + 1)))) .e) (.str s) (zL (.bool false))), [.code (cAt Tryz.f66 [1, 1, 0, 1, 0, 0]), .inLoop (cAt Tryz.f66 [1, 1, 0, 1, 0, 0]), .inBlock 0, .code (cAt Tryz.f66 [1, 1, 1])], [], false⟩ ⟨.e, 0, df⟩ :=
  path_to F FF (obs := [zT, zA (decide (i < (↑s.length : Int))) true, zT, indexA E 9 (.str s) (zI i) = some (.int .u8 ((↑(s.getD i.toNat 0).toNat : Int))), DoesC Tryz.prog E 115 [(.int .u8 ((↑(s.getD i.toNat 0).toNat : Int)))] ⟨.e, 0, df⟩ (.bool true) ⟨.e, 0, df⟩, zT, indexA E 9 (.str s) (zI i) = some (.int .u8 ((↑(s.getD i.toNat 0).toNat : Int))), DoesC Tryz.prog E 68 [(.int .u8 ((↑(s.getD i.toNat 0).toNat : Int)))] ⟨.e, 0, df⟩ (.bool true) ⟨.e, 0, df⟩, zT, indexA E 9 (.str s) (zI i) = some (.int .u8 ((↑(s.getD i.toNat 0).toNat : Int))), DoesC Tryz.prog E 116 [(.int .u8 ((↑(s.getD i.toNat 0).toNat : Int)))] ⟨.e, 0, df⟩ (.bool false) ⟨.e, 0, df⟩]) [.n 6, .v (.bool true), .n 9, .v (.int .u8 ((↑(s.getD i.toNat 0).toNat : Int))), .k (.bool true) ⟨.e, 0, df⟩, .n 6, .v (.int .u8 ((↑(s.getD i.toNat 0).toNat : Int))), .k (.bool true) ⟨.e, 0, df⟩, .n 6, .v (.int .u8 ((↑(s.getD i.toNat 0).toNat : Int))), .k (.bool false) ⟨.e, 0, df⟩, .n 24] [0, 2, 3] (by kernel_rfl) ⟨rfl, (zg o1), rfl, (indexA_str (by kernel_rfl) o2), (o3 ▸ (digit_does F FF _ _)), rfl, (indexA_str (by kernel_rfl) o4), (o5 ▸ (small_does F FF _ _)), rfl, (indexA_str (by kernel_rfl) o6), (o7 ▸ (capital_does F FF _ _))⟩
theorem rest_l4 (o1 : (decide (i < (↑s.length : Int))) = true) (o2 : ((decide (0 ≤ i) && decide (i < (↑s.length : Int)))) = true) (o3 : ((digit_v (↑(s.getD i.toNat 0).toNat : Int))) = true) (o4 : ((decide (0 ≤ i) && decide (i < (↑s.length : Int)))) = true) (o5 : ((small_v (↑(s.getD i.toNat 0).toNat : Int))) = false) (o6 : ((decide (0 ≤ i) && decide (i < (↑s.length : Int)))) = true) (o7 : ((capital_v (↑(s.getD i.toNat 0).toNat : Int))) = true) : DoesS Tryz.prog E ((⟨⟨66, false, none, 43⟩, (zN (zO (zL (zI i)) .e) (.str s) (zL (.bool false))), [.code (cAt Tryz.f66 [1, 1, 0, 1, 0, 0]), .inLoop (cAt Tryz.f66 [1, 1, 0, 1, 0, 0]), .inBlock 0, .code (cAt Tryz.f66 [1, 1, 1])], [], false⟩ : AF)) (⟨.e, 0, df⟩) ⟨⟨66, false, none, 43⟩, (zN (zO (zL (zI (IntKind.i64.wrap (i + 1)))) .e) (.str s) (zL (.bool false))), [.code (cAt Tryz.f66 [1, 1, 0, 1, 0, 0]), .inLoop (cAt Tryz.f66 [1, 1, 0, 1, 0, 0]), .inBlock 0, .code (cAt Tryz.f66 [1, 1, 1])], [], false⟩ ⟨.e, 0, df⟩ :=
  path_to F FF (obs := [zT, zA (decide (i < (↑s.length : Int))) true, zT, indexA E 9 (.str s) (zI i) = some (.int .u8 ((↑(s.getD i.toNat 0).toNat : Int))), DoesC Tryz.prog E 115 [(.int .u8 ((↑(s.getD i.toNat 0).toNat : Int)))] ⟨.e, 0, df⟩ (.bool true) ⟨.e, 0, df⟩, zT, indexA E 9 (.str s) (zI i) = some (.int .u8 ((↑(s.getD i.toNat 0).toNat : Int))), DoesC Tryz.prog E 68 [(.int .u8 ((↑(s.getD i.toNat 0).toNat : Int)))] ⟨.e, 0, df⟩ (.bool false) ⟨.e, 0, df⟩, zT, indexA E 9 (.str s) (zI i) = some (.int .u8 ((↑(s.getD i.toNat 0).toNat : Int))), DoesC Tryz.prog E 116 [(.int .u8 ((↑(s.getD i.toNat 0).toNat : Int)))] ⟨.e, 0, df⟩ (.bool true) ⟨.e, 0, df⟩]) [.n 6, .v (.bool true), .n 9, .v (.int .u8 ((↑(s.getD i.toNat 0).toNat : Int))), .k (.bool true) ⟨.e, 0, df⟩, .n 6, .v (.int .u8 ((↑(s.getD i.toNat 0).toNat : Int))), .k (.bool false) ⟨.e, 0, df⟩, .n 6, .v (.int .u8 ((↑(s.getD i.toNat 0).toNat : Int))), .k (.bool true) ⟨.e, 0, df⟩, .n 24] [0, 2, 3] (by kernel_rfl) ⟨rfl, (zg o1), rfl, (indexA_str (by kernel_rfl) o2), (o3 ▸ (digit_does F FF _ _)), rfl, (indexA_str (by kernel_rfl) o4), (o5 ▸ (small_does F FF _ _)), rfl, (indexA_str (by kernel_rfl) o6), (o7 ▸ (capital_does F FF _ _))⟩
theorem rest_l5 (o1 : (decide (i < (↑s.length : Int))) = true) (o2 : ((decide (0 ≤ i) && decide (i < (↑s.length : Int)))) = true) (o3 : ((digit_v (↑(s.getD i.toNat 0).toNat : Int))) = true) (o4 : ((decide (0 ≤ i) && decide (i < (↑s.length : Int)))) = true) (o5 : ((small_v (↑(s.getD i.toNat 0).toNat : Int))) = false) (o6 : ((decide (0 ≤ i) && decide (i < (↑s.length : Int)))) = true) (o7 : ((capital_v (↑(s.getD i.toNat 0).toNat : Int))) = false) : DoesS Tryz.prog E ((⟨⟨66, false, none, 43⟩, (zN (zO (zL (zI i)) .e) (.str s) (zL (.bool false))), [.code (cAt Tryz.f66 [1, 1, 0, 1, 0, 0]), .inLoop (cAt Tryz.f66 [1, 1, 0, 1, 0, 0]), .inBlock 0, .code (cAt Tryz.f66 [1, 1, 1])], [], false⟩ : AF)) (⟨.e, 0, df⟩) ⟨⟨66, false, none, 43⟩, (zN (zO (zL (zI (IntKind.i64.wrap (i + 1)))) .e) (.str s) (zL (.bool false))), [.code (cAt Tryz.f66 [1, 1, 0, 1, 0, 0]), .inLoop (cAt Tryz.f66 [1, 1, 0, 1, 0, 0]), .inBlock 0, .code (cAt Tryz.f66 [1, 1, 1])], [], false⟩ ⟨.e, 0, df⟩ :=
  path_to F FF (obs := [zT, zA (decide (i < (↑s.length : Int))) true, zT, indexA E 9 (.str s) (zI i) = some (.int .u8 ((↑(s.getD i.toNat 0).toNat : Int))), DoesC Tryz.prog E 115 [(.int .u8 ((↑(s.getD i.toNat 0).toNat : Int)))] ⟨.e, 0, df⟩ (.bool true) ⟨.e, 0, df⟩, zT, indexA E 9 (.str s) (zI i) = some (.int .u8 ((↑(s.getD i.toNat 0).toNat : Int))), DoesC Tryz.prog E 68 [(.int .u8 ((↑(s.getD i.toNat 0).toNat : Int)))] ⟨.e, 0, df⟩ (.bool false) ⟨.e, 0, df⟩, zT, indexA E 9 (.str s) (zI i) = some (.int .u8 ((↑(s.getD i.toNat 0).toNat : Int))), DoesC Tryz.prog E 116 [(.int .u8 ((↑(s.getD i.toNat 0).toNat : Int)))] ⟨.e, 0, df⟩ (.bool false) ⟨.e, 0, df⟩]) [.n 6, .v (.bool true), .n 9, .v (.int .u8 ((↑(s.getD i.toNat 0).toNat : Int))), .k (.bool true) ⟨.e, 0, df⟩, .n 6, .v (.int .u8 ((↑(s.getD i.toNat 0).toNat : Int))), .k (.bool false) ⟨.e, 0, df⟩, .n 6, .v (.int .u8 ((↑(s.getD i.toNat 0).toNat : Int))), .k (.bool false) ⟨.e, 0, df⟩, .n 24] [0, 2, 3] (by kernel_rfl) ⟨rfl, (zg o1), rfl, (indexA_str (by kernel_rfl) o2), (o3 ▸ (digit_does F FF _ _)), rfl, (indexA_str (by kernel_rfl) o4), (o5 ▸ (small_does F FF _ _)), rfl, (indexA_str (by kernel_rfl) o6), (o7 ▸ (capital_does F FF _ _))⟩
theorem rest_l6 (o1 : (decide (i < (↑s.length : Int))) = true) (o2 : ((decide (0 ≤ i) && decide (i < (↑s.length : Int)))) = true) (o3 : ((digit_v (↑(s.getD i.toNat 0).toNat : Int))) = false) (o4 : ((decide (0 ≤ i) && decide (i < (↑s.length : Int)))) = true) (o5 : ((small_v (↑(s.getD i.toNat 0).toNat : Int))) = true) (o6 : ((decide (0 ≤ i) && decide (i < (↑s.length : Int)))) = true) (o7 : ((capital_v (↑(s.getD i.toNat 0).toNat : Int))) = true) : DoesS Tryz.prog E ((⟨⟨66, false, none, 43⟩, (zN (zO (zL (zI i)) .e) (.str s) (zL (.bool false))), [.code (cAt Tryz.f66 [1, 1, 0, 1, 0, 0]), .inLoop (cAt Tryz.f66 [1, 1, 0, 1, 0, 0]), .inBlock 0, .code (cAt Tryz.f66 [1, 1, 1])], [], false⟩ : AF)) (⟨.e, 0, df⟩) ⟨⟨66, false, none, 43⟩, (zN (zO (zL (zI (IntKind.i64.wrap (i + 1)))) .e) (.str s) (zL (.bool false))), [.code (cAt Tryz.f66 [1, 1, 0, 1, 0, 0]), .inLoop (cAt Tryz.f66 [1, 1, 0, 1, 0, 0]), .inBlock 0, .code (cAt Tryz.f66 [1, 1, 1])], [], false⟩ ⟨.e, 0, df⟩ :=
  path_to F FF (obs := [zT, zA (decide (i < (↑s.length : Int))) true, zT, indexA E 9 (.str s) (zI i) = some (.int .u8 ((↑(s.getD i.toNat 0).toNat : Int))), DoesC Tryz.prog E 115 [(.int .u8 ((↑(s.getD i.toNat 0).toNat : Int)))] ⟨.e, 0, df⟩ (.bool false) ⟨.e, 0, df⟩, zT, indexA E 9 (.str s) (zI i) = some (.int .u8 ((↑(s.getD i.toNat 0).toNat : Int))), DoesC Tryz.prog E 68 [(.int .u8 ((↑(s.getD i.toNat 0).toNat : Int)))] ⟨.e, 0, df⟩ (.bool true) ⟨.e, 0, df⟩, zT, indexA E 9 (.str s) (zI i) = some (.int .u8 ((↑(s.getD i.toNat 0).toNat : Int))), DoesC Tryz.prog E 116 [(.int .u8 ((↑(s.getD i.toNat 0).toNat : Int)))] ⟨.e, 0, df⟩ (.bool true) ⟨.e, 0, df⟩]) [.n 6, .v (.bool true), .n 9, .v (.int .u8 ((↑(s.getD i.toNat 0).toNat : Int))), .k (.bool false) ⟨.e, 0, df⟩, .n 6, .v (.int .u8 ((↑(s.getD i.toNat 0).toNat : Int))), .k (.bool true) ⟨.e, 0, df⟩, .n 6, .v (.int .u8 ((↑(s.getD i.toNat 0).toNat : Int))), .k (.bool true) ⟨.e, 0, df⟩, .n 24] [0, 2, 3] (by kernel_rfl) ⟨rfl, (zg o1), rfl, (indexA_str (by kernel_rfl) o2), (o3 ▸ (digit_does F FF _ _)), rfl, (indexA_str (by kernel_rfl) o4), (o5 ▸ (small_does F FF _ _)), rfl, (indexA_str (by kernel_rfl) o6), (o7 ▸ (capital_does F FF _ _))⟩
theorem rest_l7 (o1 : (decide (i < (↑s.length : Int))) = true) (o2 : ((decide (0 ≤ i) && decide (i < (↑s.length : Int)))) = true) (o3 : ((digit_v (↑(s.getD i.toNat 0).toNat : Int))) = false) (o4 : ((decide (0 ≤ i) && decide (i < (↑s.length : Int)))) = true) (o5 : ((small_v (↑(s.getD i.toNat 0).toNat : Int))) = true) (o6 : ((decide (0 ≤ i) && decide (i < (↑s.length : Int)))) = true) (o7 : ((capital_v (↑(s.getD i.toNat 0).toNat : Int))) = false) : DoesS Tryz.prog E ((⟨⟨66, false, none, 43⟩, (zN (zO (zL (zI i)) .e) (.str s) (zL (.bool false))), [.code (cAt Tryz.f66 [1, 1, 0, 1, 0, 0]), .inLoop (cAt Tryz.f66 [1, 1, 0, 1, 0, 0]), .inBlock 0, .code (cAt Tryz.f66 [1, 1, 1])], [], false⟩ : AF)) (⟨.e, 0, df⟩) ⟨⟨66, false, none, 43⟩, (zN (zO (zL (zI (IntKind.i64.wrap (i + 1)))) .e) (.str s) (zL (.bool false))), [.code (cAt Tryz.f66 [1, 1, 0, 1, 0, 0]), .inLoop (cAt Tryz.f66 [1, 1, 0, 1, 0, 0]), .inBlock 0, .code (cAt Tryz.f66 [1, 1, 1])], [], false⟩ ⟨.e, 0, df⟩ :=
  path_to F FF (obs := [zT, zA (decide (i < (↑s.length : Int))) true, zT, indexA E 9 (.str s) (zI i) = some (.int .u8 ((↑(s.getD i.toNat 0).toNat : Int))), DoesC Tryz.prog E 115 [(.int .u8 ((↑(s.getD i.toNat 0).toNat : Int)))] ⟨.e, 0, df⟩ (.bool false) ⟨.e, 0, df⟩, zT, indexA E 9 (.str s) (zI i) = some (.int .u8 ((↑(s.getD i.toNat 0).toNat : Int))), DoesC Tryz.prog E 68 [(.int .u8 ((↑(s.getD i.toNat 0).toNat : Int)))] ⟨.e, 0, df⟩ (.bool true) ⟨.e, 0, df⟩, zT, indexA E 9 (.str s) (zI i) = some (.int .u8 ((↑(s.getD i.toNat 0).toNat : Int))), DoesC Tryz.prog E 116 [(.int .u8 ((↑(s.getD i.toNat 0).toNat : Int)))] ⟨.e, 0, df⟩ (.bool false) ⟨.e, 0, df⟩]) [.n 6, .v (.bool true), .n 9, .v (.int .u8 ((↑(s.getD i.toNat 0).toNat : Int))), .k (.bool false) ⟨.e, 0, df⟩, .n 6, .v (.int .u8 ((↑(s.getD i.toNat 0).toNat : Int))), .k (.bool true) ⟨.e, 0, df⟩, .n 6, .v (.int .u8 ((↑(s.getD i.toNat 0).toNat : Int))), .k (.bool false) ⟨.e, 0, df⟩, .n 24] [0, 2, 3] (by kernel_rfl) ⟨rfl, (zg o1), rfl, (indexA_str (by kernel_rfl) o2), (o3 ▸ (digit_does F FF _ _)), rfl, (indexA_str (by kernel_rfl) o4), (o5 ▸ (small_does F FF _ _)), rfl, (indexA_str (by kernel_rfl) o6), (o7 ▸ (capital_does F FF _ _))⟩
theorem rest_l8 (o1 : (decide (i < (↑s.length : Int))) = true) (o2 : ((decide (0 ≤ i) && decide (i < (↑s.length : Int)))) = true) (o3 : ((digit_v (↑(s.getD i.toNat 0).toNat : Int))) = false) (o4 : ((decide (0 ≤ i) && decide (i < (↑s.length : Int)))) = true) (o5 : ((small_v (↑(s.getD i.toNat 0).toNat : Int))) = false) (o6 : ((decide (0 ≤ i) && decide (i < (↑s.length : Int)))) = true) (o7 : ((capital_v (↑(s.getD i.toNat 0).toNat : Int))) = true) : DoesS Tryz.prog E ((⟨⟨66, false, none, 43⟩, (zN (zO (zL (zI i)) .e) (.str s) (zL (.bool false))), [.code (cAt Tryz.f66 [1, 1, 0, 1, 0, 0]), .inLoop (cAt Tryz.f66 [1, 1, 0, 1, 0, 0]), .inBlock 0, .code (cAt Tryz.f66 [1, 1, 1])], [], false⟩ : AF)) (⟨.e, 0, df⟩) ⟨⟨66, false, none, 43⟩, (zN (zO (zL (zI (IntKind.i64.wrap (i + 1)))) .e) (.str s) (zL (.bool false))), [.code (cAt Tryz.f66 [1, 1, 0, 1, 0, 0]), .inLoop (cAt Tryz.f66 [1, 1, 0, 1, 0, 0]), .inBlock 0, .code (cAt Tryz.f66 [1, 1, 1])], [], false⟩ ⟨.e, 0, df⟩ :=
  path_to F FF (obs := [zT, zA (decide (i < (↑s.length : Int))) true, zT, indexA E 9 (.str s) (zI i) = some (.int .u8 ((↑(s.getD i.toNat 0).toNat : Int))), DoesC Tryz.prog E 115 [(.int .u8 ((↑(s.getD i.toNat 0).toNat : Int)))] ⟨.e, 0, df⟩ (.bool false) ⟨.e, 0, df⟩, zT, indexA E 9 (.str s) (zI i) = some (.int .u8 ((↑(s.getD i.toNat 0).toNat : Int))), DoesC Tryz.prog E 68 [(.int .u8 ((↑(s.getD i.toNat 0).toNat : Int)))] ⟨.e, 0, df⟩ (.bool false) ⟨.e, 0, df⟩, zT, indexA E 9 (.str s) (zI i) = some (.int .u8 ((↑(s.getD i.toNat 0).toNat : Int))), DoesC Tryz.prog E 116 [(.int .u8 ((↑(s.getD i.toNat 0).toNat : Int)))] ⟨.e, 0, df⟩ (.bool true) ⟨.e, 0, df⟩]) [.n 6, .v (.bool true), .n 9, .v (.int .u8 ((↑(s.getD i.toNat 0).toNat : Int))), .k (.bool false) ⟨.e, 0, df⟩, .n 6, .v (.int .u8 ((↑(s.getD i.toNat 0).toNat : Int))), .k (.bool false) ⟨.e, 0, df⟩, .n 6, .v (.int .u8 ((↑(s.getD i.toNat 0).toNat : Int))), .k (.bool true) ⟨.e, 0, df⟩, .n 24] [0, 2, 3] (by kernel_rfl) ⟨rfl, (zg o1), rfl, (indexA_str (by kernel_rfl) o2), (o3 ▸ (digit_does F FF _ _)), rfl, (indexA_str (by kernel_rfl) o4), (o5 ▸ (small_does F FF _ _)), rfl, (indexA_str (by kernel_rfl) o6), (o7 ▸ (capital_does F FF _ _))⟩
theorem rest_l9 (o1 : (decide (i < (↑s.length : Int))) = true) (o2 : ((decide (0 ≤ i) && decide (i < (↑s.length : Int)))) = true) (o3 : ((digit_v (↑(s.getD i.toNat 0).toNat : Int))) = false) (o4 : ((decide (0 ≤ i) && decide (i < (↑s.length : Int)))) = true) (o5 : ((small_v (↑(s.getD i.toNat 0).toNat : Int))) = false) (o6 : ((decide (0 ≤ i) && decide (i < (↑s.length : Int)))) = true) (o7 : ((capital_v (↑(s.getD i.toNat 0).toNat : Int))) = false) : Does Tryz.prog E ((⟨⟨66, false, none, 43⟩, (zN (zO (zL (zI i)) .e) (.str s) (zL (.bool false))), [.code (cAt Tryz.f66 [1, 1, 0, 1, 0, 0]), .inLoop (cAt Tryz.f66 [1, 1, 0, 1, 0, 0]), .inBlock 0, .code (cAt Tryz.f66 [1, 1, 1])], [], false⟩ : AF)) (⟨.e, 0, df⟩) (.bool false) ⟨.e, 0, df⟩ :=
  path_ret F FF (obs := [zT, zA (decide (i < (↑s.length : Int))) true, zT, indexA E 9 (.str s) (zI i) = some (.int .u8 ((↑(s.getD i.toNat 0).toNat : Int))), DoesC Tryz.prog E 115 [(.int .u8 ((↑(s.getD i.toNat 0).toNat : Int)))] ⟨.e, 0, df⟩ (.bool false) ⟨.e, 0, df⟩, zT, indexA E 9 (.str s) (zI i) = some (.int .u8 ((↑(s.getD i.toNat 0).toNat : Int))), DoesC Tryz.prog E 68 [(.int .u8 ((↑(s.getD i.toNat 0).toNat : Int)))] ⟨.e, 0, df⟩ (.bool false) ⟨.e, 0, df⟩, zT, indexA E 9 (.str s) (zI i) = some (.int .u8 ((↑(s.getD i.toNat 0).toNat : Int))), DoesC Tryz.prog E 116 [(.int .u8 ((↑(s.getD i.toNat 0).toNat : Int)))] ⟨.e, 0, df⟩ (.bool false) ⟨.e, 0, df⟩]) [.n 6, .v (.bool true), .n 9, .v (.int .u8 ((↑(s.getD i.toNat 0).toNat : Int))), .k (.bool false) ⟨.e, 0, df⟩, .n 6, .v (.int .u8 ((↑(s.getD i.toNat 0).toNat : Int))), .k (.bool false) ⟨.e, 0, df⟩, .n 6, .v (.int .u8 ((↑(s.getD i.toNat 0).toNat : Int))), .k (.bool false) ⟨.e, 0, df⟩, .n 21] (by kernel_rfl) ⟨rfl, (zg o1), rfl, (indexA_str (by kernel_rfl) o2), (o3 ▸ (digit_does F FF _ _)), rfl, (indexA_str (by kernel_rfl) o4), (o5 ▸ (small_does F FF _ _)), rfl, (indexA_str (by kernel_rfl) o6), (o7 ▸ (capital_does F FF _ _))⟩
end
theorem rest_L_ok (s : List UInt8) (df : Nat) : ∀ (n : Nat) (i : Int) (v : AV), rest_L s df n i = some v → Does Tryz.prog E (rest_LH s df i) ⟨.e, 0, df⟩ v ⟨.e, 0, df⟩ := by
  intro n
  induction n with
  | zero => intro i v hh; cases hh
  | succ n ih =>
    intro i v hh
    unfold rest_L at hh
    rcases Bool.eq_false_or_eq_true ((decide (i < (↑s.length : Int)))) with h1 | h1
    · replace hh := cond_t h1 hh
      rcases Bool.eq_false_or_eq_true (((decide (0 ≤ i) && decide (i < (↑s.length : Int))))) with h2 | h2
      · replace hh := cond_t h2 hh
        rcases Bool.eq_false_or_eq_true (((digit_v (↑(s.getD i.toNat 0).toNat : Int)))) with h3 | h3
        · replace hh := cond_t h3 hh
          rcases Bool.eq_false_or_eq_true (((decide (0 ≤ i) && decide (i < (↑s.length : Int))))) with h4 | h4
          · replace hh := cond_t h4 hh
            rcases Bool.eq_false_or_eq_true (((small_v (↑(s.getD i.toNat 0).toNat : Int)))) with h5 | h5
            · replace hh := cond_t h5 hh
              rcases Bool.eq_false_or_eq_true (((decide (0 ≤ i) && decide (i < (↑s.length : Int))))) with h6 | h6
              · replace hh := cond_t h6 hh
                rcases Bool.eq_false_or_eq_true (((capital_v (↑(s.getD i.toNat 0).toNat : Int)))) with h7 | h7
                · replace hh := cond_t h7 hh
                  exact Does.of (DoesS.clean (rest_l2 F FF s df i h1 h2 h3 h4 h5 h6 h7) (by kernel_rfl) (by kernel_rfl) rfl (by kernel_rfl)) (ih _ _ hh)
                · replace hh := cond_f h7 hh
                  exact Does.of (DoesS.clean (rest_l3 F FF s df i h1 h2 h3 h4 h5 h6 h7) (by kernel_rfl) (by kernel_rfl) rfl (by kernel_rfl)) (ih _ _ hh)
              · replace hh := cond_f h6 hh
                cases hh
            · replace hh := cond_f h5 hh
              rcases Bool.eq_false_or_eq_true (((decide (0 ≤ i) && decide (i < (↑s.length : Int))))) with h6 | h6
              · replace hh := cond_t h6 hh
                rcases Bool.eq_false_or_eq_true (((capital_v (↑(s.getD i.toNat 0).toNat : Int)))) with h7 | h7
                · replace hh := cond_t h7 hh
                  exact Does.of (DoesS.clean (rest_l4 F FF s df i h1 h2 h3 h4 h5 h6 h7) (by kernel_rfl) (by kernel_rfl) rfl (by kernel_rfl)) (ih _ _ hh)
                · replace hh := cond_f h7 hh
                  exact Does.of (DoesS.clean (rest_l5 F FF s df i h1 h2 h3 h4 h5 h6 h7) (by kernel_rfl) (by kernel_rfl) rfl (by kernel_rfl)) (ih _ _ hh)
              · replace hh := cond_f h6 hh
                cases hh
          · replace hh := cond_f h4 hh
            cases hh
        · replace hh := cond_f h3 hh
          rcases Bool.eq_false_or_eq_true (((decide (0 ≤ i) && decide (i < (↑s.length : Int))))) with h4 | h4
          · replace hh := cond_t h4 hh
            rcases Bool.eq_false_or_eq_true (((small_v (↑(s.getD i.toNat 0).toNat : Int)))) with h5 | h5
            · replace hh := cond_t h5 hh
              rcases Bool.eq_false_or_eq_true (((decide (0 ≤ i) && decide (i < (↑s.length : Int))))) with h6 | h6
              · replace hh := cond_t h6 hh
                rcases Bool.eq_false_or_eq_true (((capital_v (↑(s.getD i.toNat 0).toNat : Int)))) with h7 | h7
                · replace hh := cond_t h7 hh
                  exact Does.of (DoesS.clean (rest_l6 F FF s df i h1 h2 h3 h4 h5 h6 h7) (by kernel_rfl) (by kernel_rfl) rfl (by kernel_rfl)) (ih _ _ hh)
                · replace hh := cond_f h7 hh
                  exact Does.of (DoesS.clean (rest_l7 F FF s df i h1 h2 h3 h4 h5 h6 h7) (by kernel_rfl) (by kernel_rfl) rfl (by kernel_rfl)) (ih _ _ hh)
              · replace hh := cond_f h6 hh
                cases hh
            · replace hh := cond_f h5 hh
              rcases Bool.eq_false_or_eq_true (((decide (0 ≤ i) && decide (i < (↑s.length : Int))))) with h6 | h6
              · replace hh := cond_t h6 hh
                rcases Bool.eq_false_or_eq_true (((capital_v (↑(s.getD i.toNat 0).toNat : Int)))) with h7 | h7
                · replace hh := cond_t h7 hh
                  exact Does.of (DoesS.clean (rest_l8 F FF s df i h1 h2 h3 h4 h5 h6 h7) (by kernel_rfl) (by kernel_rfl) rfl (by kernel_rfl)) (ih _ _ hh)
                · replace hh := cond_f h7 hh
                  cases hh; exact Does.clean (rest_l9 F FF s df i h1 h2 h3 h4 h5 h6 h7) (by kernel_rfl) (by kernel_rfl) rfl (by kernel_rfl)
              · replace hh := cond_f h6 hh
                cases hh
          · replace hh := cond_f h4 hh
            cases hh
      · replace hh := cond_f h2 hh
        cases hh
    · replace hh := cond_f h1 hh
      cases hh; exact Does.clean (rest_l1 F FF s df i h1) (by kernel_rfl) (by kernel_rfl) rfl (by kernel_rfl)
theorem rest_ok (s : List UInt8) (df : Nat) (n : Nat) (v : AV) (hh : rest_fn s df n = some v) : DoesC Tryz.prog E 66 [.str s] ⟨.e, 0, df⟩ v ⟨.e, 0, df⟩ := by
  unfold rest_fn at hh
  rcases Bool.eq_false_or_eq_true ((decide ((↑s.length : Int) < 1))) with h1 | h1
  · replace hh := cond_t h1 hh
    cases hh; exact DoesC.ent FF (by kernel_rfl) (Does.clean (rest_e1 F FF s df h1) (by kernel_rfl) (by kernel_rfl) rfl (by kernel_rfl))
  · replace hh := cond_f h1 hh
    rcases Bool.eq_false_or_eq_true ((decide ((↑s.length : Int) > 32))) with h2 | h2
    · replace hh := cond_t h2 hh
      cases hh; exact DoesC.ent FF (by kernel_rfl) (Does.clean (rest_e2 F FF s df h1 h2) (by kernel_rfl) (by kernel_rfl) rfl (by kernel_rfl))
    · replace hh := cond_f h2 hh
      exact DoesC.ent FF (by kernel_rfl) (Does.of (DoesS.clean (rest_e3 F FF s df h1 h2) (by kernel_rfl) (by kernel_rfl) rfl (by kernel_rfl)) (rest_L_ok F FF s df n _ _ hh))
end
end Go.Ev
set_option linter.all false
namespace Go.Ev
open Go.Proofs
theorem wrap_i64 {z : Int} (h1 : -9223372036854775808 ≤ z) (h2 : z ≤ 9223372036854775807) : IntKind.i64.wrap z = z := by
  unfold IntKind.wrap
  simp [IntKind.signed, IntKind.bits]
  omega
theorem rest_L_total (s : List UInt8) (df : Nat) (hl : s.length ≤ 32) : ∀ (m : Nat) (i : Int), 0 ≤ i → i ≤ s.length → (s.length - i).toNat = m → ∃ b n, rest_L s df n i = some (.bool b) := by
  intro m
  induction m with
  | zero =>
    intro i h0 h1 hm
    refine ⟨true, 1, ?_⟩
    unfold rest_L
    rw [show decide (i < (↑s.length : Int)) = false from decide_eq_false (by omega)]
    rfl
  | succ m ih =>
    intro i h0 h1 hm
    obtain ⟨b, n, hb⟩ := ih (i + 1) (by omega) (by omega) (by omega)
    have hw : IntKind.i64.wrap (i + 1) = i + 1 := wrap_i64 (by omega) (by omega)
    have g1 : decide (i < (↑s.length : Int)) = true := decide_eq_true (by omega)
    have g2 : (decide (0 ≤ i) && true) = true := by rw [decide_eq_true h0]; rfl
    cases hd : digit_v (↑(s.getD i.toNat 0).toNat : Int) <;> cases hs : small_v (↑(s.getD i.toNat 0).toNat : Int) <;> cases hc : capital_v (↑(s.getD i.toNat 0).toNat : Int)
    all_goals first
      | (refine ⟨b, n + 1, ?_⟩; unfold rest_L; simp only [g1, g2, hd, hs, hc, hw, cond_true, cond_false]; exact hb)
      | (refine ⟨false, n + 1, ?_⟩; unfold rest_L; simp only [g1, g2, hd, hs, hc, hw, cond_true, cond_false])
theorem rest_total (s : List UInt8) (df : Nat) : ∃ b n, rest_fn s df n = some (.bool b) ∧ (b = true → 1 ≤ s.length) := by
  unfold rest_fn
  rcases Bool.eq_false_or_eq_true (decide ((↑s.length : Int) < 1)) with h1 | h1
  · exact ⟨false, 0, by rw [h1]; rfl, fun h => by cases h⟩
  rcases Bool.eq_false_or_eq_true (decide ((↑s.length : Int) > 32)) with h2 | h2
  · exact ⟨false, 0, by rw [h1, h2]; rfl, fun h => by cases h⟩
  have e1 := of_decide_eq_false h1
  have e2 := of_decide_eq_false h2
  obtain ⟨b, n, hb⟩ := rest_L_total s df (by omega) _ 1 (by omega) (by omega) rfl
  exact ⟨b, n, by rw [h1, h2]; exact hb, fun _ => by omega⟩
section
variable (F : Fits Tryz.prog E) (FF : FitsF Tryz.prog E)
include F FF
theorem rest_does (s : List UInt8) (df : Nat) : ∃ b, DoesC Tryz.prog E 66 [.str s] ⟨.e, 0, df⟩ (.bool b) ⟨.e, 0, df⟩ ∧ (b = true → 1 ≤ s.length) := by
  obtain ⟨b, n, h, hl⟩ := rest_total s df
  exact ⟨b, rest_ok F FF s df n _ h, hl⟩
end
end Go.Ev
set_option linter.all false
namespace Go.Ev
open Go.Proofs
set_option maxRecDepth 100000
section
variable (F : Fits Tryz.prog E) (FF : FitsF Tryz.prog E)
include F FF
theorem findnil_e1 (s : List UInt8) (a : Option (Nat × Nat)) (n c : Nat) (budget : Int) (df : Nat) (o1 : (decide (budget < 1)) = true) : Does Tryz.prog E (ent E 6 [.nilp, .agg [.str s, .osl a n c], .int .i64 budget]) (⟨.e, 0, df⟩) (.tup [(.agg [(.str []), .nils, (zI 0), .nils]), (zI 1)]) ⟨(zN (zL (.cells [(.str []), .nils, (zI 0), .nils] 32 false false)) (.cells [(.str s), (.osl a n c)] 24 false false) .e), 2, df⟩ :=
  path_ret F FF (obs := [some true = some true, some (AV.bool (decide (budget < 1))) = some (AV.bool true)]) [.n 10, .v (.bool true), .n 13] (by kernel_rfl) ⟨rfl, (congrArg (fun z => some (AV.bool z)) o1)⟩
theorem findnil_e2 (s : List UInt8) (a : Option (Nat × Nat)) (n c : Nat) (budget : Int) (df : Nat) (o1 : (decide (budget < 1)) = false) (o2 : (decide (budget > 65536)) = true) : Does Tryz.prog E (ent E 6 [.nilp, .agg [.str s, .osl a n c], .int .i64 budget]) (⟨.e, 0, df⟩) (.tup [(.agg [(.str []), .nils, (zI 0), .nils]), (zI 1)]) ⟨(zN (zL (.cells [(.str []), .nils, (zI 0), .nils] 32 false false)) (.cells [(.str s), (.osl a n c)] 24 false false) .e), 2, df⟩ :=
  path_ret F FF (obs := [some true = some true, some (AV.bool (decide (budget < 1))) = some (AV.bool false), some true = some true, some (AV.bool (decide (budget > 65536))) = some (AV.bool true)]) [.n 10, .v (.bool false), .n 2, .v (.bool true), .n 10] (by kernel_rfl) ⟨rfl, (congrArg (fun z => some (AV.bool z)) o1), rfl, (congrArg (fun z => some (AV.bool z)) o2)⟩
theorem findnil_e3 (s : List UInt8) (a : Option (Nat × Nat)) (n c : Nat) (budget : Int) (df : Nat) (o1 : (decide (budget < 1)) = false) (o2 : (decide (budget > 65536)) = false) : Does Tryz.prog E (ent E 6 [.nilp, .agg [.str s, .osl a n c], .int .i64 budget]) (⟨.e, 0, df⟩) (.tup [(.agg [(.str []), .nils, (zI 0), .nils]), (zI 1)]) ⟨(zN (zL (.cells [(.str []), .nils, (zI 0), .nils] 32 false false)) (.cells [(.str s), (.osl a n c)] 24 false false) (zL (.cells [(.str s), (.osl a n c)] 24 false false))), 3, df⟩ :=
  path_ret F FF (obs := [some true = some true, some (AV.bool (decide (budget < 1))) = some (AV.bool false), some true = some true, some (AV.bool (decide (budget > 65536))) = some (AV.bool false), DoesC Tryz.prog E 17 [.nilp, (.agg [(.str s), (.osl a n c)])] ⟨(zN (zL (.cells [(.str []), .nils, (zI 0), .nils] 32 false false)) (.cells [(.str s), (.osl a n c)] 24 false false) .e), 2, df⟩ (zI 1) ⟨(zN (zL (.cells [(.str []), .nils, (zI 0), .nils] 32 false false)) (.cells [(.str s), (.osl a n c)] 24 false false) (zL (.cells [(.str s), (.osl a n c)] 24 false false))), 3, df⟩]) [.n 10, .v (.bool false), .n 2, .v (.bool false), .n 9, .k (zI 1) ⟨(zN (zL (.cells [(.str []), .nils, (zI 0), .nils] 32 false false)) (.cells [(.str s), (.osl a n c)] 24 false false) (zL (.cells [(.str s), (.osl a n c)] 24 false false))), 3, df⟩, .n 16] (by kernel_rfl) ⟨rfl, (congrArg (fun z => some (AV.bool z)) o1), rfl, (congrArg (fun z => some (AV.bool z)) o2), (DoesC.of_run F FF (n := 3000) (p := ((zI 1), ⟨(zN (zL (.cells [(.str []), .nils, (zI 0), .nils] 32 false false)) (.cells [(.str s), (.osl a n c)] 24 false false) (zL (.cells [(.str s), (.osl a n c)] 24 false false))), 3, df⟩)) (by kernel_rfl))⟩
theorem findnil_does (s : List UInt8) (a : Option (Nat × Nat)) (n c : Nat) (budget : Int) (df : Nat) : DoesC Tryz.prog E 6 [.nilp, .agg [.str s, .osl a n c], .int .i64 budget] ⟨.e, 0, df⟩ (.tup [(.agg [(.str []), .nils, (zI 0), .nils]), (zI 1)]) ⟨.e, 0, df⟩ := by
  rcases Bool.eq_false_or_eq_true ((decide (budget < 1))) with h1 | h1
  · skip
    exact DoesC.ent FF (by kernel_rfl) (Does.clean (findnil_e1 F FF s a n c budget df h1) (by kernel_rfl) (by kernel_rfl) rfl (by kernel_rfl))
  · skip
    rcases Bool.eq_false_or_eq_true ((decide (budget > 65536))) with h2 | h2
    · skip
      exact DoesC.ent FF (by kernel_rfl) (Does.clean (findnil_e2 F FF s a n c budget df h1 h2) (by kernel_rfl) (by kernel_rfl) rfl (by kernel_rfl))
    · skip
      exact DoesC.ent FF (by kernel_rfl) (Does.clean (findnil_e3 F FF s a n c budget df h1 h2) (by kernel_rfl) (by kernel_rfl) rfl (by kernel_rfl))
end
end Go.Ev
set_option linter.all false
namespace Go.Ev
open Go.Proofs
set_option maxRecDepth 100000
def namef_v (s : List UInt8) : Bool := bif ((reserved_v s)) then (false) else (false)
section
variable (F : Fits Tryz.prog E) (FF : FitsF Tryz.prog E)
include F FF
section
variable (s : List UInt8) (df : Nat) (hR : DoesC Tryz.prog E 66 [.str s] ⟨.e, 0, df⟩ (.bool false) ⟨.e, 0, df⟩)
include s df hR
theorem namef_e1 (o1 : ((reserved_v s)) = true) : Does Tryz.prog E (ent E 22 [.str s]) (⟨.e, 0, df⟩) (.bool false) ⟨.e, 0, df⟩ :=
  path_ret F FF (obs := [DoesC Tryz.prog E 66 [(.str s)] ⟨.e, 0, df⟩ (.bool false) ⟨.e, 0, df⟩, DoesC Tryz.prog E 67 [(.str s)] ⟨.e, 0, df⟩ (.bool true) ⟨.e, 0, df⟩]) [.n 7, .k (.bool false) ⟨.e, 0, df⟩, .n 5, .k (.bool true) ⟨.e, 0, df⟩, .n 17] (by kernel_rfl) ⟨(hR), (o1 ▸ (reserved_does F FF _ _))⟩
theorem namef_e2 (o1 : ((reserved_v s)) = false) : Does Tryz.prog E (ent E 22 [.str s]) (⟨.e, 0, df⟩) (.bool false) ⟨.e, 0, df⟩ :=
  path_ret F FF (obs := [DoesC Tryz.prog E 66 [(.str s)] ⟨.e, 0, df⟩ (.bool false) ⟨.e, 0, df⟩, DoesC Tryz.prog E 67 [(.str s)] ⟨.e, 0, df⟩ (.bool false) ⟨.e, 0, df⟩]) [.n 7, .k (.bool false) ⟨.e, 0, df⟩, .n 5, .k (.bool false) ⟨.e, 0, df⟩, .n 17] (by kernel_rfl) ⟨(hR), (o1 ▸ (reserved_does F FF _ _))⟩
end
theorem namef_does (s : List UInt8) (df : Nat) (hR : DoesC Tryz.prog E 66 [.str s] ⟨.e, 0, df⟩ (.bool false) ⟨.e, 0, df⟩) : DoesC Tryz.prog E 22 [.str s] ⟨.e, 0, df⟩ (.bool (namef_v s)) ⟨.e, 0, df⟩ := by
  suffices H : ∀ r, namef_v s = r → DoesC Tryz.prog E 22 [.str s] ⟨.e, 0, df⟩ (.bool r) ⟨.e, 0, df⟩ from H _ rfl
  intro r hh
  unfold namef_v at hh
  rcases Bool.eq_false_or_eq_true (((reserved_v s))) with h1 | h1
  · replace hh := cond_t h1 hh
    subst hh; exact DoesC.ent FF (by kernel_rfl) (Does.clean (namef_e1 F FF s df hR h1) (by kernel_rfl) (by kernel_rfl) rfl (by kernel_rfl))
  · replace hh := cond_f h1 hh
    subst hh; exact DoesC.ent FF (by kernel_rfl) (Does.clean (namef_e2 F FF s df hR h1) (by kernel_rfl) (by kernel_rfl) rfl (by kernel_rfl))
end
def namet_v (s : List UInt8) : Bool := bif ((reserved_v s)) then (false) else (bif ((small_v (↑(s.getD 0 0).toNat : Int))) then (true) else (false))
section
variable (F : Fits Tryz.prog E) (FF : FitsF Tryz.prog E)
include F FF
section
variable (s : List UInt8) (df : Nat) (hR : DoesC Tryz.prog E 66 [.str s] ⟨.e, 0, df⟩ (.bool true) ⟨.e, 0, df⟩) (hl : (decide ((0 : Int) ≤ 0) && decide (0 < (↑s.length : Int))) = true)
include s df hR hl
theorem namet_e1 (o1 : ((reserved_v s)) = true) : Does Tryz.prog E (ent E 22 [.str s]) (⟨.e, 0, df⟩) (.bool false) ⟨.e, 0, df⟩ :=
  path_ret F FF (obs := [DoesC Tryz.prog E 66 [(.str s)] ⟨.e, 0, df⟩ (.bool true) ⟨.e, 0, df⟩, DoesC Tryz.prog E 67 [(.str s)] ⟨.e, 0, df⟩ (.bool true) ⟨.e, 0, df⟩]) [.n 7, .k (.bool true) ⟨.e, 0, df⟩, .n 5, .k (.bool true) ⟨.e, 0, df⟩, .n 17] (by kernel_rfl) ⟨(hR), (o1 ▸ (reserved_does F FF _ _))⟩
theorem namet_e2 (o1 : ((reserved_v s)) = false) (o2 : ((small_v (↑(s.getD 0 0).toNat : Int))) = true) : Does Tryz.prog E (ent E 22 [.str s]) (⟨.e, 0, df⟩) (.bool true) ⟨.e, 0, df⟩ :=
  path_ret F FF (obs := [DoesC Tryz.prog E 66 [(.str s)] ⟨.e, 0, df⟩ (.bool true) ⟨.e, 0, df⟩, DoesC Tryz.prog E 67 [(.str s)] ⟨.e, 0, df⟩ (.bool false) ⟨.e, 0, df⟩, zT, indexA E 9 (.str s) (zI 0) = some (.int .u8 ((↑(s.getD 0 0).toNat : Int))), DoesC Tryz.prog E 68 [(.int .u8 ((↑(s.getD 0 0).toNat : Int)))] ⟨.e, 0, df⟩ (.bool true) ⟨.e, 0, df⟩]) [.n 7, .k (.bool true) ⟨.e, 0, df⟩, .n 5, .k (.bool false) ⟨.e, 0, df⟩, .n 11, .v (.int .u8 ((↑(s.getD 0 0).toNat : Int))), .k (.bool true) ⟨.e, 0, df⟩, .n 4] (by kernel_rfl) ⟨(hR), (o1 ▸ (reserved_does F FF _ _)), rfl, (indexA_str (by kernel_rfl) hl), (o2 ▸ (small_does F FF _ _))⟩
theorem namet_e3 (o1 : ((reserved_v s)) = false) (o2 : ((small_v (↑(s.getD 0 0).toNat : Int))) = false) : Does Tryz.prog E (ent E 22 [.str s]) (⟨.e, 0, df⟩) (.bool false) ⟨.e, 0, df⟩ :=
  path_ret F FF (obs := [DoesC Tryz.prog E 66 [(.str s)] ⟨.e, 0, df⟩ (.bool true) ⟨.e, 0, df⟩, DoesC Tryz.prog E 67 [(.str s)] ⟨.e, 0, df⟩ (.bool false) ⟨.e, 0, df⟩, zT, indexA E 9 (.str s) (zI 0) = some (.int .u8 ((↑(s.getD 0 0).toNat : Int))), DoesC Tryz.prog E 68 [(.int .u8 ((↑(s.getD 0 0).toNat : Int)))] ⟨.e, 0, df⟩ (.bool false) ⟨.e, 0, df⟩]) [.n 7, .k (.bool true) ⟨.e, 0, df⟩, .n 5, .k (.bool false) ⟨.e, 0, df⟩, .n 11, .v (.int .u8 ((↑(s.getD 0 0).toNat : Int))), .k (.bool false) ⟨.e, 0, df⟩, .n 4] (by kernel_rfl) ⟨(hR), (o1 ▸ (reserved_does F FF _ _)), rfl, (indexA_str (by kernel_rfl) hl), (o2 ▸ (small_does F FF _ _))⟩
end
theorem namet_does (s : List UInt8) (df : Nat) (hR : DoesC Tryz.prog E 66 [.str s] ⟨.e, 0, df⟩ (.bool true) ⟨.e, 0, df⟩) (hl : (decide ((0 : Int) ≤ 0) && decide (0 < (↑s.length : Int))) = true) : DoesC Tryz.prog E 22 [.str s] ⟨.e, 0, df⟩ (.bool (namet_v s)) ⟨.e, 0, df⟩ := by
  suffices H : ∀ r, namet_v s = r → DoesC Tryz.prog E 22 [.str s] ⟨.e, 0, df⟩ (.bool r) ⟨.e, 0, df⟩ from H _ rfl
  intro r hh
  unfold namet_v at hh
  rcases Bool.eq_false_or_eq_true (((reserved_v s))) with h1 | h1
  · replace hh := cond_t h1 hh
    subst hh; exact DoesC.ent FF (by kernel_rfl) (Does.clean (namet_e1 F FF s df hR hl h1) (by kernel_rfl) (by kernel_rfl) rfl (by kernel_rfl))
  · replace hh := cond_f h1 hh
    rcases Bool.eq_false_or_eq_true (((small_v (↑(s.getD 0 0).toNat : Int)))) with h2 | h2
    · replace hh := cond_t h2 hh
      subst hh; exact DoesC.ent FF (by kernel_rfl) (Does.clean (namet_e2 F FF s df hR hl h1 h2) (by kernel_rfl) (by kernel_rfl) rfl (by kernel_rfl))
    · replace hh := cond_f h2 hh
      subst hh; exact DoesC.ent FF (by kernel_rfl) (Does.clean (namet_e3 F FF s df hR hl h1 h2) (by kernel_rfl) (by kernel_rfl) rfl (by kernel_rfl))
end
end Go.Ev
set_option linter.all false
namespace Go.Ev
open Go.Proofs
section
variable (F : Fits Tryz.prog E) (FF : FitsF Tryz.prog E)
include F FF
theorem name_does (s : List UInt8) (df : Nat) : ∃ b, DoesC Tryz.prog E 22 [.str s] ⟨.e, 0, df⟩ (.bool b) ⟨.e, 0, df⟩ := by
  obtain ⟨b, h, hl⟩ := rest_does F FF s df
  cases b with
  | false => exact ⟨_, namef_does F FF s df h⟩
  | true =>
    have hl := hl rfl
    exact ⟨_, namet_does F FF s df h (by rw [decide_eq_true (by omega : (0 : Int) < s.length)]; rfl)⟩
end
end Go.Ev
