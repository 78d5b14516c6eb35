/- What Go functions do, each as a plain Lean function with the same answers, and the proof of it, in every world: printed by the session's driver over the kit's print, with texts by hand. -/
import Derived.Test.YtalamamjodihaaaHOx0
namespace Go.Proofs.Ytalamamjodihaaa.HO
open Go.RowKit Go.Proofs.YtalamamjodihaaaW.PrintWords Go.Proofs.YtalamamjodihaaaW.PrintLast Go.Proofs.YtalamamjodihaaaW.PrintMore
attribute [local go_sem] max2_int min2_int max_two min_two max_three min_three max_four min_four   -- for this text's walks alone
open Go.Proofs.Ytalamamjodihaaa.Sp
attribute [local go_sem] Go.Proofs.Ytalamamjodihaaa.Sp.u64_not
set_option linter.unusedVariables false
set_option linter.unusedSimpArgs false

/-! ### thrumref01_AddP: function 57 -/
def thrumref01_AddP.f (a0 : Int) (a1 : Int) : Option (Int × Int) := if a1 > 0 then (if a0 > (wrap64 (9223372036854775807 - a1)) then (some (0, 2)) else (if a1 < 0 then (if a0 < (wrap64 ((-9223372036854775808) - a1)) then (some (0, 2)) else (some (wrap64 (a0 + a1), 0))) else (some (wrap64 (a0 + a1), 0)))) else (if a1 < 0 then (if a0 < (wrap64 ((-9223372036854775808) - a1)) then (some (0, 2)) else (some (wrap64 (a0 + a1), 0))) else (some (wrap64 (a0 + a1), 0)))
set_option maxHeartbeats 8000000 in
set_option maxRecDepth 100000 in
theorem thrumref01_AddP.calls (a0 : Int) (a1 : Int) (r1 : Int) (r2 : Int) (w : World) (h : thrumref01_AddP.f a0 a1 = some (r1, r2)) :
  Calls Try.prog 57 #[.int .i64 a0, .int .i64 a1] w fun e w' => e = .returned (.tuple #[.int .i64 r1, .int .i64 r2]) ∧ Drawn0 w w' := by
 have H : (if a1 > 0 then (if a0 > (wrap64 (9223372036854775807 - a1)) then (some (0, 2)) else (if a1 < 0 then (if a0 < (wrap64 ((-9223372036854775808) - a1)) then (some (0, 2)) else (some (wrap64 (a0 + a1), 0))) else (some (wrap64 (a0 + a1), 0)))) else (if a1 < 0 then (if a0 < (wrap64 ((-9223372036854775808) - a1)) then (some (0, 2)) else (some (wrap64 (a0 + a1), 0))) else (some (wrap64 (a0 + a1), 0)))) = some (r1, r2) := h
 clear h
 by_cases c3 : a1 > 0
 ·
  rw [if_pos c3] at H
  have c3b0 : decide (0 < a1) = true := decide_eq_true c3
  clear c3
  by_cases c4 : a0 > (wrap64 (9223372036854775807 - a1))
  ·
   rw [if_pos c4] at H
   have c4b0 : decide ((wrap64 (9223372036854775807 - a1)) < a0) = true := decide_eq_true c4
   clear c4
   simp only [Option.some.injEq, Prod.mk.injEq] at H
   obtain ⟨rfl, rfl⟩ := H
   go_enter Try.func57, Try.ntmps57
   go_wp2
   go_ret2
   exact ⟨by first | rfl | (simp; done) | (simp [*]; done), by repeat (first | exact ddR _ | apply ddS)⟩
  ·
   rw [if_neg c4] at H
   have c4b0 : decide ((wrap64 (9223372036854775807 - a1)) < a0) = false := decide_eq_false c4
   clear c4
   by_cases c5 : a1 < 0
   ·
    rw [if_pos c5] at H
    have c5b0 : decide (a1 < 0) = true := decide_eq_true c5
    clear c5
    by_cases c6 : a0 < (wrap64 ((-9223372036854775808) - a1))
    ·
     rw [if_pos c6] at H
     have c6b0 : decide (a0 < (wrap64 ((-9223372036854775808) - a1))) = true := decide_eq_true c6
     clear c6
     simp only [Option.some.injEq, Prod.mk.injEq] at H
     obtain ⟨rfl, rfl⟩ := H
     go_enter Try.func57, Try.ntmps57
     go_wp2
     go_ret2
     exact ⟨by first | rfl | (simp; done) | (simp [*]; done), by repeat (first | exact ddR _ | apply ddS)⟩
    ·
     rw [if_neg c6] at H
     have c6b0 : decide (a0 < (wrap64 ((-9223372036854775808) - a1))) = false := decide_eq_false c6
     clear c6
     simp only [Option.some.injEq, Prod.mk.injEq] at H
     obtain ⟨rfl, rfl⟩ := H
     go_enter Try.func57, Try.ntmps57
     go_wp2
     go_ret2
     exact ⟨by first | rfl | (simp; done) | (simp [*]; done), by repeat (first | exact ddR _ | apply ddS)⟩
   ·
    rw [if_neg c5] at H
    have c5b0 : decide (a1 < 0) = false := decide_eq_false c5
    clear c5
    simp only [Option.some.injEq, Prod.mk.injEq] at H
    obtain ⟨rfl, rfl⟩ := H
    go_enter Try.func57, Try.ntmps57
    go_wp2
    go_ret2
    exact ⟨by first | rfl | (simp; done) | (simp [*]; done), by repeat (first | exact ddR _ | apply ddS)⟩
 ·
  rw [if_neg c3] at H
  have c3b0 : decide (0 < a1) = false := decide_eq_false c3
  clear c3
  by_cases c7 : a1 < 0
  ·
   rw [if_pos c7] at H
   have c7b0 : decide (a1 < 0) = true := decide_eq_true c7
   clear c7
   by_cases c8 : a0 < (wrap64 ((-9223372036854775808) - a1))
   ·
    rw [if_pos c8] at H
    have c8b0 : decide (a0 < (wrap64 ((-9223372036854775808) - a1))) = true := decide_eq_true c8
    clear c8
    simp only [Option.some.injEq, Prod.mk.injEq] at H
    obtain ⟨rfl, rfl⟩ := H
    go_enter Try.func57, Try.ntmps57
    go_wp2
    go_ret2
    exact ⟨by first | rfl | (simp; done) | (simp [*]; done), by repeat (first | exact ddR _ | apply ddS)⟩
   ·
    rw [if_neg c8] at H
    have c8b0 : decide (a0 < (wrap64 ((-9223372036854775808) - a1))) = false := decide_eq_false c8
    clear c8
    simp only [Option.some.injEq, Prod.mk.injEq] at H
    obtain ⟨rfl, rfl⟩ := H
    go_enter Try.func57, Try.ntmps57
    go_wp2
    go_ret2
    exact ⟨by first | rfl | (simp; done) | (simp [*]; done), by repeat (first | exact ddR _ | apply ddS)⟩
  ·
   rw [if_neg c7] at H
   have c7b0 : decide (a1 < 0) = false := decide_eq_false c7
   clear c7
   simp only [Option.some.injEq, Prod.mk.injEq] at H
   obtain ⟨rfl, rfl⟩ := H
   go_enter Try.func57, Try.ntmps57
   go_wp2
   go_ret2
   exact ⟨by first | rfl | (simp; done) | (simp [*]; done), by repeat (first | exact ddR _ | apply ddS)⟩

def thrumref01_Add.f (a0 a1 : Int) : Option (Int × Int) := if I64 a0 ∧ I64 a1 then some (res (a0 + a1)) else none
theorem thrumref01_Add.of (a0 a1 : Int)  (h_ : I64 a0 ∧ I64 a1) : thrumref01_Add.f a0 a1 = some (res (a0 + a1)) := if_pos h_
theorem thrumref01_Add.calls (a0 : Int) (a1 : Int) (r1 : Int) (r2 : Int) (w : World) (h : thrumref01_Add.f a0 a1 = some (r1, r2)) :
    Calls Try.prog 57 #[.int .i64 a0, .int .i64 a1] w fun e w' => e = .returned (.tuple #[.int .i64 r1, .int .i64 r2]) ∧ Drawn0 w w' := by
  unfold thrumref01_Add.f at h
  split at h
  · rename_i hu
    refine thrumref01_AddP.calls a0 a1 r1 r2 w (Eq.trans ?_ h)
    unfold thrumref01_AddP.f
    obtain ⟨h0, h1⟩ := hu
    unfold I64 at h0 h1
    rcases Int.lt_trichotomy a1 0 with c | c | c
    · rw [if_neg (by omega), if_pos c, wrap64_of (show I64 (-9223372036854775808 - a1) by unfold I64; omega)]
      by_cases d : a0 < -9223372036854775808 - a1
      · rw [if_pos d, res_not (by unfold I64; omega)]
      · rw [if_neg d, res_of (by unfold I64; omega), wrap64_of (by unfold I64; omega)]
    · rw [if_neg (by omega), if_neg (by omega), res_of (by unfold I64; omega), wrap64_of (by unfold I64; omega)]
    · rw [if_pos (by omega), wrap64_of (show I64 (9223372036854775807 - a1) by unfold I64; omega)]
      by_cases d : a0 > 9223372036854775807 - a1
      · rw [if_pos d, res_not (by unfold I64; omega)]
      · rw [if_neg d, if_neg (by omega), res_of (by unfold I64; omega), wrap64_of (by unfold I64; omega)]
  · cases h


/-! ### thrumref01_TimesP: function 86 -/
def thrumref01_TimesP.f (a0 : Int) (a1 : Int) : Option (Int × Int) := some (IntKind.u64.wrap ((IntKind.u64.wrap ((IntKind.u64.wrap ((a0 / 4294967296) * (a1 / 4294967296))) + ((IntKind.u64.wrap ((IntKind.u64.wrap ((a0 / 4294967296) * (Go.bits .and .u64 a1 4294967295))) + ((IntKind.u64.wrap ((Go.bits .and .u64 a0 4294967295) * (Go.bits .and .u64 a1 4294967295))) / 4294967296))) / 4294967296))) + ((IntKind.u64.wrap ((IntKind.u64.wrap ((Go.bits .and .u64 a0 4294967295) * (a1 / 4294967296))) + (Go.bits .and .u64 (IntKind.u64.wrap ((IntKind.u64.wrap ((a0 / 4294967296) * (Go.bits .and .u64 a1 4294967295))) + ((IntKind.u64.wrap ((Go.bits .and .u64 a0 4294967295) * (Go.bits .and .u64 a1 4294967295))) / 4294967296))) 4294967295))) / 4294967296)), Go.bits .or .u64 (IntKind.u64.wrap ((IntKind.u64.wrap ((IntKind.u64.wrap ((Go.bits .and .u64 a0 4294967295) * (a1 / 4294967296))) + (Go.bits .and .u64 (IntKind.u64.wrap ((IntKind.u64.wrap ((a0 / 4294967296) * (Go.bits .and .u64 a1 4294967295))) + ((IntKind.u64.wrap ((Go.bits .and .u64 a0 4294967295) * (Go.bits .and .u64 a1 4294967295))) / 4294967296))) 4294967295))) * 4294967296)) (Go.bits .and .u64 (IntKind.u64.wrap ((Go.bits .and .u64 a0 4294967295) * (Go.bits .and .u64 a1 4294967295))) 4294967295))
set_option maxHeartbeats 8000000 in
set_option maxRecDepth 100000 in
theorem thrumref01_TimesP.calls (a0 : Int) (a1 : Int) (r1 : Int) (r2 : Int) (w : World) (h : thrumref01_TimesP.f a0 a1 = some (r1, r2)) :
  Calls Try.prog 86 #[.int .u64 a0, .int .u64 a1] w fun e w' => e = .returned (.tuple #[.int .u64 r1, .int .u64 r2]) ∧ Drawn0 w w' := by
 have H : (some (IntKind.u64.wrap ((IntKind.u64.wrap ((IntKind.u64.wrap ((a0 / 4294967296) * (a1 / 4294967296))) + ((IntKind.u64.wrap ((IntKind.u64.wrap ((a0 / 4294967296) * (Go.bits .and .u64 a1 4294967295))) + ((IntKind.u64.wrap ((Go.bits .and .u64 a0 4294967295) * (Go.bits .and .u64 a1 4294967295))) / 4294967296))) / 4294967296))) + ((IntKind.u64.wrap ((IntKind.u64.wrap ((Go.bits .and .u64 a0 4294967295) * (a1 / 4294967296))) + (Go.bits .and .u64 (IntKind.u64.wrap ((IntKind.u64.wrap ((a0 / 4294967296) * (Go.bits .and .u64 a1 4294967295))) + ((IntKind.u64.wrap ((Go.bits .and .u64 a0 4294967295) * (Go.bits .and .u64 a1 4294967295))) / 4294967296))) 4294967295))) / 4294967296)), Go.bits .or .u64 (IntKind.u64.wrap ((IntKind.u64.wrap ((IntKind.u64.wrap ((Go.bits .and .u64 a0 4294967295) * (a1 / 4294967296))) + (Go.bits .and .u64 (IntKind.u64.wrap ((IntKind.u64.wrap ((a0 / 4294967296) * (Go.bits .and .u64 a1 4294967295))) + ((IntKind.u64.wrap ((Go.bits .and .u64 a0 4294967295) * (Go.bits .and .u64 a1 4294967295))) / 4294967296))) 4294967295))) * 4294967296)) (Go.bits .and .u64 (IntKind.u64.wrap ((Go.bits .and .u64 a0 4294967295) * (Go.bits .and .u64 a1 4294967295))) 4294967295))) = some (r1, r2) := h
 clear h
 simp only [Option.some.injEq, Prod.mk.injEq] at H
 obtain ⟨rfl, rfl⟩ := H
 go_enter Try.func86, Try.ntmps86
 go_wp2
 go_ret2
 exact ⟨by first | rfl | (simp; done) | (simp [*]; done), by repeat (first | exact ddR _ | apply ddS)⟩

def thrumref01_Times.f (a0 a1 : Int) : Option (Int × Int) := if U64 a0 ∧ U64 a1 then some (a0 * a1 / 18446744073709551616, a0 * a1 % 18446744073709551616) else none
theorem thrumref01_Times.of (a0 a1 : Int)  (h_ : U64 a0 ∧ U64 a1) : thrumref01_Times.f a0 a1 = some (a0 * a1 / 18446744073709551616, a0 * a1 % 18446744073709551616) := if_pos h_
theorem thrumref01_TimesP.spec {a0 a1 : Int} (h0 : U64 a0) (h1 : U64 a1) : thrumref01_TimesP.f a0 a1 = some (a0 * a1 / 18446744073709551616, a0 * a1 % 18446744073709551616) := by
  unfold thrumref01_TimesP.f
  rw [and32 h0, and32 h1]
  unfold U64 at h0 h1
  obtain ⟨x, rfl⟩ := Int.eq_ofNat_of_zero_le h0.1
  obtain ⟨y, rfl⟩ := Int.eq_ofNat_of_zero_le h1.1
  have hx : x < 18446744073709551616 := by omega
  have hy : y < 18446744073709551616 := by omega
  have hm : ((x * y : Nat) : Int) = (x : Int) * y := by simp
  obtain ⟨k1, k2, k3, k4⟩ := Lib.mul64_hi x y hx hy
  have e1 : (x : Int) / 4294967296 * ((y : Int) / 4294967296) = ((x / 4294967296 * (y / 4294967296) : Nat) : Int) := by simp
  have e2 : (x : Int) / 4294967296 * ((y : Int) % 4294967296) = ((x / 4294967296 * (y % 4294967296) : Nat) : Int) := by simp
  have e3 : (x : Int) % 4294967296 * ((y : Int) % 4294967296) = ((x % 4294967296 * (y % 4294967296) : Nat) : Int) := by simp
  have e4 : (x : Int) % 4294967296 * ((y : Int) / 4294967296) = ((x % 4294967296 * (y / 4294967296) : Nat) : Int) := by simp
  have ha := Lib.half_mul_le (a := x / 4294967296) (b := y / 4294967296) (by omega) (by omega)
  have hb := Lib.half_mul_le (a := x / 4294967296) (b := y % 4294967296) (by omega) (by omega)
  have hc := Lib.half_mul_le (a := x % 4294967296) (b := y / 4294967296) (by omega) (by omega)
  have hd := Lib.half_mul_le (a := x % 4294967296) (b := y % 4294967296) (by omega) (by omega)
  have hsp : x * y = (x / 4294967296) * (y / 4294967296) * (4294967296 * 4294967296) + ((x / 4294967296) * (y % 4294967296) + (x % 4294967296) * (y / 4294967296)) * 4294967296 + (x % 4294967296) * (y % 4294967296) := by
    rw [← Lib.split_mul, Nat.div_add_mod' x 4294967296, Nat.div_add_mod' y 4294967296]
  rw [← hm]
  simp only [wu, and32m, e1, e2, e3, e4]
  clear e1 e2 e3 e4 hm
  generalize x / 4294967296 * (y / 4294967296) = a at *
  generalize x / 4294967296 * (y % 4294967296) = b at *
  generalize x % 4294967296 * (y / 4294967296) = c at *
  generalize x % 4294967296 * (y % 4294967296) = d at *
  generalize x * y = p at *
  rw [or_join 32 (by unfold U64; omega) (by simp only [Int.reducePow]; omega) (by omega) (by simp only [Int.reducePow]; omega) (by unfold U64; omega)]
  simp only [Option.some.injEq, Prod.mk.injEq]
  omega
theorem thrumref01_Times.calls (a0 : Int) (a1 : Int) (r1 : Int) (r2 : Int) (w : World) (h : thrumref01_Times.f a0 a1 = some (r1, r2)) :
    Calls Try.prog 86 #[.int .u64 a0, .int .u64 a1] w fun e w' => e = .returned (.tuple #[.int .u64 r1, .int .u64 r2]) ∧ Drawn0 w w' := by
  unfold thrumref01_Times.f at h
  split at h
  · rename_i hu
    exact thrumref01_TimesP.calls a0 a1 r1 r2 w ((thrumref01_TimesP.spec hu.1 hu.2).trans h)
  · cases h


/-! ### thrumref01_sizeP: function 87 -/
def thrumref01_sizeP.f (a0 : Int) : Option (Int) := if a0 < 0 then (some (IntKind.u64.wrap ((IntKind.u64.wrap (wrap64 (-(wrap64 (a0 + 1))))) + 1))) else (some (IntKind.u64.wrap (a0)))
set_option maxHeartbeats 8000000 in
set_option maxRecDepth 100000 in
theorem thrumref01_sizeP.calls (a0 : Int) (r : Int) (w : World) (h : thrumref01_sizeP.f a0 = some r) :
  Calls Try.prog 87 #[.int .i64 a0] w fun e w' => e = .returned (.int .u64 r) ∧ Drawn0 w w' := by
 have H : (if a0 < 0 then (some (IntKind.u64.wrap ((IntKind.u64.wrap (wrap64 (-(wrap64 (a0 + 1))))) + 1))) else (some (IntKind.u64.wrap (a0)))) = some r := h
 clear h
 by_cases c2 : a0 < 0
 ·
  rw [if_pos c2] at H
  have c2b0 : decide (a0 < 0) = true := decide_eq_true c2
  clear c2
  obtain rfl := Option.some.inj H
  go_enter Try.func87, Try.ntmps87
  go_wp2
  go_ret
  exact ⟨by first | rfl | (simp; done) | (simp [*]; done), by repeat (first | exact ddR _ | apply ddS)⟩
 ·
  rw [if_neg c2] at H
  have c2b0 : decide (a0 < 0) = false := decide_eq_false c2
  clear c2
  obtain rfl := Option.some.inj H
  go_enter Try.func87, Try.ntmps87
  go_wp2
  go_ret
  exact ⟨by first | rfl | (simp; done) | (simp [*]; done), by repeat (first | exact ddR _ | apply ddS)⟩

def thrumref01_size.f (a0 : Int) : Option Int := if I64 a0 then some (a0.natAbs : Int) else none
theorem thrumref01_size.of (a0 : Int)  (h_ : I64 a0) : thrumref01_size.f a0 = some (a0.natAbs : Int) := if_pos h_
theorem thrumref01_size.calls (a0 : Int) (r : Int) (w : World) (h : thrumref01_size.f a0 = some r) :
    Calls Try.prog 87 #[.int .i64 a0] w fun e w' => e = .returned (.int .u64 r) ∧ Drawn0 w w' := by
  unfold thrumref01_size.f at h
  split at h
  · rename_i hu
    refine thrumref01_sizeP.calls a0 r w (Eq.trans ?_ h)
    unfold thrumref01_sizeP.f; unfold I64 at hu; simp only [wu, wrap64_def]
    split <;> simp only [Option.some.injEq] <;> omega
  · cases h


/-! ### thrumref01_WideP: function 78 -/
def thrumref01_WideP.f (a0 : Int) (a1 : Int) : Option (Int × Int) := (thrumref01_size.f a0).bind fun t204 => ((thrumref01_size.f a1).bind fun t205 => ((thrumref01_Times.f t204 t205).bind fun bt206 => (if ((decide (a0 < 0)) == (decide (a1 < 0))) = true then (some (wrap64 (bt206.1), bt206.2)) else (if (IntKind.u64.wrap ((Go.bits .xor .u64 IntKind.u64.max bt206.2) + 1)) = 0 then (some (wrap64 (IntKind.u64.wrap ((Go.bits .xor .u64 IntKind.u64.max bt206.1) + 1)), IntKind.u64.wrap ((Go.bits .xor .u64 IntKind.u64.max bt206.2) + 1))) else (some (wrap64 (Go.bits .xor .u64 IntKind.u64.max bt206.1), IntKind.u64.wrap ((Go.bits .xor .u64 IntKind.u64.max bt206.2) + 1)))))))
set_option maxHeartbeats 8000000 in
set_option maxRecDepth 100000 in
theorem thrumref01_WideP.calls (a0 : Int) (a1 : Int) (r1 : Int) (r2 : Int) (w : World) (h : thrumref01_WideP.f a0 a1 = some (r1, r2)) :
  Calls Try.prog 78 #[.int .i64 a0, .int .i64 a1] w fun e w' => e = .returned (.tuple #[.int .i64 r1, .int .u64 r2]) ∧ Drawn0 w w' := by
 have H : ((thrumref01_size.f a0).bind fun t204 => ((thrumref01_size.f a1).bind fun t205 => ((thrumref01_Times.f t204 t205).bind fun bt206 => (if ((decide (a0 < 0)) == (decide (a1 < 0))) = true then (some (wrap64 (bt206.1), bt206.2)) else (if (IntKind.u64.wrap ((Go.bits .xor .u64 IntKind.u64.max bt206.2) + 1)) = 0 then (some (wrap64 (IntKind.u64.wrap ((Go.bits .xor .u64 IntKind.u64.max bt206.1) + 1)), IntKind.u64.wrap ((Go.bits .xor .u64 IntKind.u64.max bt206.2) + 1))) else (some (wrap64 (Go.bits .xor .u64 IntKind.u64.max bt206.1), IntKind.u64.wrap ((Go.bits .xor .u64 IntKind.u64.max bt206.2) + 1)))))))) = some (r1, r2) := h
 clear h
 replace H := Option.bind_eq_some_iff.mp H
 obtain ⟨t204, A30, H⟩ := H
 replace H : ((thrumref01_size.f a1).bind fun t205 => ((thrumref01_Times.f t204 t205).bind fun bt206 => (if ((decide (a0 < 0)) == (decide (a1 < 0))) = true then (some (wrap64 (bt206.1), bt206.2)) else (if (IntKind.u64.wrap ((Go.bits .xor .u64 IntKind.u64.max bt206.2) + 1)) = 0 then (some (wrap64 (IntKind.u64.wrap ((Go.bits .xor .u64 IntKind.u64.max bt206.1) + 1)), IntKind.u64.wrap ((Go.bits .xor .u64 IntKind.u64.max bt206.2) + 1))) else (some (wrap64 (Go.bits .xor .u64 IntKind.u64.max bt206.1), IntKind.u64.wrap ((Go.bits .xor .u64 IntKind.u64.max bt206.2) + 1))))))) = some (r1, r2) := H
 have A3 := Aside0.mk A30
 clear A30
 replace H := Option.bind_eq_some_iff.mp H
 obtain ⟨t205, A40, H⟩ := H
 replace H : ((thrumref01_Times.f t204 t205).bind fun bt206 => (if ((decide (a0 < 0)) == (decide (a1 < 0))) = true then (some (wrap64 (bt206.1), bt206.2)) else (if (IntKind.u64.wrap ((Go.bits .xor .u64 IntKind.u64.max bt206.2) + 1)) = 0 then (some (wrap64 (IntKind.u64.wrap ((Go.bits .xor .u64 IntKind.u64.max bt206.1) + 1)), IntKind.u64.wrap ((Go.bits .xor .u64 IntKind.u64.max bt206.2) + 1))) else (some (wrap64 (Go.bits .xor .u64 IntKind.u64.max bt206.1), IntKind.u64.wrap ((Go.bits .xor .u64 IntKind.u64.max bt206.2) + 1)))))) = some (r1, r2) := H
 have A4 := Aside0.mk A40
 clear A40
 replace H := Option.bind_eq_some_iff.mp H
 obtain ⟨⟨t206, t207⟩, A50, H⟩ := H
 replace H : (if ((decide (a0 < 0)) == (decide (a1 < 0))) = true then (some (wrap64 (t206), t207)) else (if (IntKind.u64.wrap ((Go.bits .xor .u64 IntKind.u64.max t207) + 1)) = 0 then (some (wrap64 (IntKind.u64.wrap ((Go.bits .xor .u64 IntKind.u64.max t206) + 1)), IntKind.u64.wrap ((Go.bits .xor .u64 IntKind.u64.max t207) + 1))) else (some (wrap64 (Go.bits .xor .u64 IntKind.u64.max t206), IntKind.u64.wrap ((Go.bits .xor .u64 IntKind.u64.max t207) + 1))))) = some (r1, r2) := H
 have A5 := Aside0.mk A50
 clear A50
 by_cases c6 : ((decide (a0 < 0)) == (decide (a1 < 0))) = true
 ·
  rw [if_pos c6] at H
  have c6b0 : ((decide (a0 < 0)) == (decide (a1 < 0))) = true := c6
  (try (have c6b1 : decide ((decide (a0 < 0)) = (decide (a1 < 0))) = true := by simpa using c6))
  (try (have c6b2 : ((decide (a0 < 0)) == (decide (a1 < 0))) = true := by simpa using c6))
  clear c6
  simp only [Option.some.injEq, Prod.mk.injEq] at H
  obtain ⟨rfl, rfl⟩ := H
  go_enter Try.func78, Try.ntmps78
  go_wp2_with (first | ((with_reducible refine gate_callee (f := 87) rfl ?_); refine goesL_ (some 10) rfl rfl Try.func87 (by kernel_rfl) rfl #[.int .i64 a0] rfl (by (try simp only [List.map_toArray, List.map_cons, List.map_nil]); first | done | rfl | (simp only [List.length_drop, List.length_take]; rfl)) ?_; (with_reducible refine (thrumref01_size.calls a0 t204 _ A3.out).mono ?_); rintro e w' ⟨rfl, ⟨nd, rfl⟩⟩; refine ⟨_, rfl, ?_⟩) | ((with_reducible refine gate_callee (f := 87) rfl ?_); refine goesL_ (some 12) rfl rfl Try.func87 (by kernel_rfl) rfl #[.int .i64 a1] rfl (by (try simp only [List.map_toArray, List.map_cons, List.map_nil]); first | done | rfl | (simp only [List.length_drop, List.length_take]; rfl)) ?_; (with_reducible refine (thrumref01_size.calls a1 t205 _ A4.out).mono ?_); rintro e w' ⟨rfl, ⟨nd, rfl⟩⟩; refine ⟨_, rfl, ?_⟩) | ((with_reducible refine gate_callee (f := 86) rfl ?_); refine goesL_ (some 13) rfl rfl Try.func86 (by kernel_rfl) rfl #[.int .u64 t204, .int .u64 t205] rfl (by (try simp only [List.map_toArray, List.map_cons, List.map_nil]); first | done | rfl | (simp only [List.length_drop, List.length_take]; rfl)) ?_; (with_reducible refine (thrumref01_Times.calls t204 t205 t206 t207 _ A5.out).mono ?_); rintro e w' ⟨rfl, ⟨nd, rfl⟩⟩; refine ⟨_, rfl, ?_⟩))
  go_ret2
  exact ⟨by first | rfl | (simp; done) | (simp [*]; done), by repeat (first | exact ddR _ | apply ddS)⟩
 ·
  rw [if_neg c6] at H
  have c6b0 : ((decide (a0 < 0)) == (decide (a1 < 0))) = false := by simpa using c6
  (try (have c6b1 : decide ((decide (a0 < 0)) = (decide (a1 < 0))) = false := by simpa using c6))
  (try (have c6b2 : ((decide (a0 < 0)) == (decide (a1 < 0))) = false := by simpa using c6))
  (try (have c6b3 : ¬ ((decide (a0 < 0)) = (decide (a1 < 0))) := by simpa using c6))
  clear c6
  by_cases c7 : (IntKind.u64.wrap ((Go.bits .xor .u64 IntKind.u64.max t207) + 1)) = 0
  ·
   rw [if_pos c7] at H
   have c7b0 : ((IntKind.u64.wrap ((Go.bits .xor .u64 IntKind.u64.max t207) + 1)) == 0) = true := beq_iff_eq.mpr c7
   have c7b1 : ((IntKind.u64.wrap ((Go.bits .xor .u64 IntKind.u64.max t207) + 1)) != 0) = false := bne_eq_false_iff_eq.mpr c7
   clear c7
   simp only [Option.some.injEq, Prod.mk.injEq] at H
   obtain ⟨rfl, rfl⟩ := H
   go_enter Try.func78, Try.ntmps78
   go_wp2_with (first | ((with_reducible refine gate_callee (f := 87) rfl ?_); refine goesL_ (some 10) rfl rfl Try.func87 (by kernel_rfl) rfl #[.int .i64 a0] rfl (by (try simp only [List.map_toArray, List.map_cons, List.map_nil]); first | done | rfl | (simp only [List.length_drop, List.length_take]; rfl)) ?_; (with_reducible refine (thrumref01_size.calls a0 t204 _ A3.out).mono ?_); rintro e w' ⟨rfl, ⟨nd, rfl⟩⟩; refine ⟨_, rfl, ?_⟩) | ((with_reducible refine gate_callee (f := 87) rfl ?_); refine goesL_ (some 12) rfl rfl Try.func87 (by kernel_rfl) rfl #[.int .i64 a1] rfl (by (try simp only [List.map_toArray, List.map_cons, List.map_nil]); first | done | rfl | (simp only [List.length_drop, List.length_take]; rfl)) ?_; (with_reducible refine (thrumref01_size.calls a1 t205 _ A4.out).mono ?_); rintro e w' ⟨rfl, ⟨nd, rfl⟩⟩; refine ⟨_, rfl, ?_⟩) | ((with_reducible refine gate_callee (f := 86) rfl ?_); refine goesL_ (some 13) rfl rfl Try.func86 (by kernel_rfl) rfl #[.int .u64 t204, .int .u64 t205] rfl (by (try simp only [List.map_toArray, List.map_cons, List.map_nil]); first | done | rfl | (simp only [List.length_drop, List.length_take]; rfl)) ?_; (with_reducible refine (thrumref01_Times.calls t204 t205 t206 t207 _ A5.out).mono ?_); rintro e w' ⟨rfl, ⟨nd, rfl⟩⟩; refine ⟨_, rfl, ?_⟩))
   go_ret2
   exact ⟨by first | rfl | (simp; done) | (simp [*]; done), by repeat (first | exact ddR _ | apply ddS)⟩
  ·
   rw [if_neg c7] at H
   have c7b0 : ((IntKind.u64.wrap ((Go.bits .xor .u64 IntKind.u64.max t207) + 1)) == 0) = false := beq_eq_false_iff_ne.mpr c7
   have c7b1 : ((IntKind.u64.wrap ((Go.bits .xor .u64 IntKind.u64.max t207) + 1)) != 0) = true := bne_iff_ne.mpr c7
   simp only [Option.some.injEq, Prod.mk.injEq] at H
   obtain ⟨rfl, rfl⟩ := H
   go_enter Try.func78, Try.ntmps78
   go_wp2_with (first | ((with_reducible refine gate_callee (f := 87) rfl ?_); refine goesL_ (some 10) rfl rfl Try.func87 (by kernel_rfl) rfl #[.int .i64 a0] rfl (by (try simp only [List.map_toArray, List.map_cons, List.map_nil]); first | done | rfl | (simp only [List.length_drop, List.length_take]; rfl)) ?_; (with_reducible refine (thrumref01_size.calls a0 t204 _ A3.out).mono ?_); rintro e w' ⟨rfl, ⟨nd, rfl⟩⟩; refine ⟨_, rfl, ?_⟩) | ((with_reducible refine gate_callee (f := 87) rfl ?_); refine goesL_ (some 12) rfl rfl Try.func87 (by kernel_rfl) rfl #[.int .i64 a1] rfl (by (try simp only [List.map_toArray, List.map_cons, List.map_nil]); first | done | rfl | (simp only [List.length_drop, List.length_take]; rfl)) ?_; (with_reducible refine (thrumref01_size.calls a1 t205 _ A4.out).mono ?_); rintro e w' ⟨rfl, ⟨nd, rfl⟩⟩; refine ⟨_, rfl, ?_⟩) | ((with_reducible refine gate_callee (f := 86) rfl ?_); refine goesL_ (some 13) rfl rfl Try.func86 (by kernel_rfl) rfl #[.int .u64 t204, .int .u64 t205] rfl (by (try simp only [List.map_toArray, List.map_cons, List.map_nil]); first | done | rfl | (simp only [List.length_drop, List.length_take]; rfl)) ?_; (with_reducible refine (thrumref01_Times.calls t204 t205 t206 t207 _ A5.out).mono ?_); rintro e w' ⟨rfl, ⟨nd, rfl⟩⟩; refine ⟨_, rfl, ?_⟩))
   go_ret2
   exact ⟨by first | rfl | (simp; done) | (simp [*]; done), by repeat (first | exact ddR _ | apply ddS)⟩

def thrumref01_Wide.f (a0 a1 : Int) : Option (Int × Int) := if I64 a0 ∧ I64 a1 then some (a0 * a1 / 18446744073709551616, a0 * a1 % 18446744073709551616) else none
theorem thrumref01_Wide.of (a0 a1 : Int)  (h_ : I64 a0 ∧ I64 a1) : thrumref01_Wide.f a0 a1 = some (a0 * a1 / 18446744073709551616, a0 * a1 % 18446744073709551616) := if_pos h_
theorem thrumref01_WideP.spec {a0 a1 : Int} (h0 : I64 a0) (h1 : I64 a1) : thrumref01_WideP.f a0 a1 = some (a0 * a1 / 18446744073709551616, a0 * a1 % 18446744073709551616) := by
  have hb := prod_bd h0 h1
  unfold thrumref01_WideP.f thrumref01_size.f
  rw [if_pos h0, if_pos h1]
  unfold I64 at h0 h1
  simp only [Option.bind_some]
  unfold thrumref01_Times.f
  rw [if_pos ⟨by unfold U64; omega, by unfold U64; omega⟩]
  simp only [Option.bind_some]
  obtain ⟨X, hX⟩ : ∃ X : Int, X = (a0.natAbs : Int) * (a1.natAbs : Int) := ⟨_, rfl⟩
  have hXP : a0 * a1 = if (a0 < 0) = (a1 < 0) then X else -X := by
    by_cases ca : a0 < 0 <;> by_cases cb : a1 < 0 <;> simp only [ca, cb, if_true, if_false, eq_self, eq_iff_iff, iff_true, iff_false, not_true, not_false_iff]
    · rw [hX, show (a0.natAbs : Int) = -a0 by omega, show (a1.natAbs : Int) = -a1 by omega]; grind
    · rw [hX, show (a0.natAbs : Int) = -a0 by omega, show (a1.natAbs : Int) = a1 by omega]; grind
    · rw [hX, show (a0.natAbs : Int) = a0 by omega, show (a1.natAbs : Int) = -a1 by omega]; grind
    · rw [hX, show (a0.natAbs : Int) = a0 by omega, show (a1.natAbs : Int) = a1 by omega]
  have hX0 : 0 ≤ X := by rw [hX]; exact Int.mul_nonneg (by omega) (by omega)
  rw [← hX]
  rw [hXP] at hb ⊢
  clear hX hXP
  by_cases cs : (a0 < 0) = (a1 < 0)
  · rw [if_pos cs] at hb ⊢
    rw [if_pos (by simp [cs]), wrap64_of (by unfold I64; omega)]
  · rw [if_neg cs] at hb ⊢
    rw [if_neg (by simpa using cs), not_u64 (by unfold U64; omega), not_u64 (by unfold U64; omega)]
    simp only [wu, wrap64_def]
    split <;> simp only [Option.some.injEq, Prod.mk.injEq] <;> omega
theorem thrumref01_Wide.calls (a0 : Int) (a1 : Int) (r1 : Int) (r2 : Int) (w : World) (h : thrumref01_Wide.f a0 a1 = some (r1, r2)) :
    Calls Try.prog 78 #[.int .i64 a0, .int .i64 a1] w fun e w' => e = .returned (.tuple #[.int .i64 r1, .int .u64 r2]) ∧ Drawn0 w w' := by
  unfold thrumref01_Wide.f at h
  split at h
  · rename_i hu
    exact thrumref01_WideP.calls a0 a1 r1 r2 w ((thrumref01_WideP.spec hu.1 hu.2).trans h)
  · cases h


/-! ### thrumref01_MulP: function 63 -/
mutual
def thrumref01_MulP.j0 : Nat → Int → Int → Int → Bool → Option (Int × Int)
 | 0, _, _, _, _ => none
 | k + 1, x0, x1, x2, x16 => if x16 = true then (some (0, 1)) else ((thrumref01_Wide.f x0 x1).bind fun bt208 => (thrumref01_MulP.l0 k bt208.1 bt208.2 x2 0))
def thrumref01_MulP.l0 : Nat → Int → Int → Int → Int → Option (Int × Int)
 | 0, _, _, _, _ => none
 | k + 1, x8, x9, x23, x24 => if x24 < x23 then (thrumref01_MulP.l0 k (x8 / 2) (Go.bits .or .u64 (x9 / 2) (IntKind.u64.wrap ((IntKind.u64.wrap (Go.bits .and .i64 x8 1)) * 9223372036854775808))) x23 (wrap64 (x24 + 1))) else (if x8 = ((wrap64 (x9)) / 9223372036854775808) then (some (wrap64 (x9), 0)) else (some (0, 2)))
end
def thrumref01_MulP.f (k : Nat) (a0 : Int) (a1 : Int) (a2 : Int) : Option (Int × Int) := if a2 < 0 then (thrumref01_MulP.j0 k a0 a1 a2 true) else (thrumref01_MulP.j0 k a0 a1 a2 (decide (a2 > 30)))
theorem thrumref01_MulP.mono_l : ∀ k, (∀ y0 y1 y2 y3, LeO (thrumref01_MulP.j0 k y0 y1 y2 y3) (thrumref01_MulP.j0 (k + 1) y0 y1 y2 y3)) ∧ (∀ y0 y1 y2 y3, LeO (thrumref01_MulP.l0 k y0 y1 y2 y3) (thrumref01_MulP.l0 (k + 1) y0 y1 y2 y3))
 | 0 => ⟨fun _ _ _ _ r h => by simp [thrumref01_MulP.j0] at h, fun _ _ _ _ r h => by simp [thrumref01_MulP.l0] at h⟩
 | k + 1 => by
  obtain ⟨ih0, ih1⟩ := thrumref01_MulP.mono_l k
  refine ⟨?_, ?_⟩
  ·
   intro y0 y1 y2 y3
   unfold thrumref01_MulP.j0
   repeat' first
   | (with_reducible exact ih0 _ _ _ _)
   | (with_reducible exact ih1 _ _ _ _)
   | (with_reducible exact LeO.refl _)
   | (with_reducible exact LeO.none _)
   | (with_reducible refine LeO.ite ?_ ?_)
   | (with_reducible refine LeO.bind ?_ (fun _ => ?_))
   | exact ih0 _ _ _ _
   | exact ih1 _ _ _ _
   | exact LeO.none _
   | refine LeO.ite ?_ ?_
   | refine LeO.bind ?_ (fun _ => ?_)
  ·
   intro y0 y1 y2 y3
   unfold thrumref01_MulP.l0
   repeat' first
   | (with_reducible exact ih0 _ _ _ _)
   | (with_reducible exact ih1 _ _ _ _)
   | (with_reducible exact LeO.refl _)
   | (with_reducible exact LeO.none _)
   | (with_reducible refine LeO.ite ?_ ?_)
   | (with_reducible refine LeO.bind ?_ (fun _ => ?_))
   | exact ih0 _ _ _ _
   | exact ih1 _ _ _ _
   | exact LeO.none _
   | refine LeO.ite ?_ ?_
   | refine LeO.bind ?_ (fun _ => ?_)
theorem thrumref01_MulP.mono : ∀ a0 a1 a2 k, LeO (thrumref01_MulP.f k a0 a1 a2) (thrumref01_MulP.f (k + 1) a0 a1 a2) := by
 intro a0 a1 a2 k
 obtain ⟨ih0, ih1⟩ := thrumref01_MulP.mono_l k
 unfold thrumref01_MulP.f
 repeat' first
   | (with_reducible exact ih0 _ _ _ _)
   | (with_reducible exact ih1 _ _ _ _)
   | (with_reducible exact LeO.refl _)
   | (with_reducible exact LeO.none _)
   | (with_reducible refine LeO.ite ?_ ?_)
   | (with_reducible refine LeO.bind ?_ (fun _ => ?_))
   | exact ih0 _ _ _ _
   | exact ih1 _ _ _ _
   | exact LeO.none _
   | refine LeO.ite ?_ ?_
   | refine LeO.bind ?_ (fun _ => ?_)
set_option maxHeartbeats 8000000 in
set_option maxRecDepth 100000 in
theorem thrumref01_MulP.calls (k : Nat) (a0 : Int) (a1 : Int) (a2 : Int) (r1 : Int) (r2 : Int) (w : World) (h : thrumref01_MulP.f k a0 a1 a2 = some (r1, r2)) :
  Calls Try.prog 63 #[.int .i64 a0, .int .i64 a1, .int .i64 a2] w fun e w' => e = .returned (.tuple #[.int .i64 r1, .int .i64 r2]) ∧ Drawn0 w w' := by
 have H : (if a2 < 0 then (thrumref01_MulP.j0 k a0 a1 a2 true) else (thrumref01_MulP.j0 k a0 a1 a2 (decide (a2 > 30)))) = some (r1, r2) := h
 clear h
 have HC4 := Aside0.mk H
 clear H
 go_enter Try.func63, Try.ntmps63
 go_upto_region 1 with (fail)
 go_cut [16] (fun v16 wc => ∃ (kq : Nat) (x16_3 : Bool), v16 = .bool x16_3 ∧ Aside0 (thrumref01_MulP.j0 kq a0 a1 a2 x16_3 = some (r1, r2)) ∧ Aside0 (kq ≤ k) ∧ Drawn0 w wc)
 case first =>
  have H := HC4.out
  clear HC4
  by_cases c5 : a2 < 0
  ·
   rw [if_pos c5] at H
   have c5b0 : decide (a2 < 0) = true := decide_eq_true c5
   clear c5
   (first | rw [c5b0] | (simp only [i64_w, i32_w]; rw [c5b0]) | skip)
   have H' := Aside0.mk H
   clear H
   go_wp2
   go_meet
   case rel => exact ⟨_, (true), (by first | rfl | (simp; done) | (simp [*]; done)), H', ⟨by first | omega | exact Nat.le_refl _⟩, by repeat (first | exact ddR _ | apply ddS)⟩
  ·
   rw [if_neg c5] at H
   have c5b0 : decide (a2 < 0) = false := decide_eq_false c5
   clear c5
   (first | rw [c5b0] | (simp only [i64_w, i32_w]; rw [c5b0]) | skip)
   have H' := Aside0.mk H
   clear H
   go_wp2
   go_meet
   case rel => exact ⟨_, (decide (a2 > 30)), (by first | rfl | (simp; done) | (simp [*]; done)), H', ⟨by first | omega | exact Nat.le_refl _⟩, by repeat (first | exact ddR _ | apply ddS)⟩
 case rest =>
  clear HC4
  try clear p2
  try clear c5
  try clear c5b0
  obtain ⟨kq, x16_3, rfl, HA, HJ3, ⟨mc3, rfl⟩⟩ := hcut
  cases kq with
  | zero => exact absurd HA.out (by simp [thrumref01_MulP.j0])
  | succ kj3 =>
   have H := HA.out
   clear HA
   simp only [thrumref01_MulP.j0] at H
   by_cases c6 : x16_3 = true
   ·
    subst c6
    have H1 : (some (0, 1)) = some (r1, r2) := by rw [if_pos rfl] at H; exact H
    clear H
    have H := H1
    clear H1
    simp only [Option.some.injEq, Prod.mk.injEq] at H
    obtain ⟨rfl, rfl⟩ := H
    go_wp2
    go_ret2
    exact ⟨by first | rfl | (simp; done) | (simp [*]; done), by repeat (first | exact ddR _ | apply ddS)⟩
   ·
    replace c6 := Bool.eq_false_iff.mpr c6
    subst c6
    have H1 : ((thrumref01_Wide.f a0 a1).bind fun bt208 => (thrumref01_MulP.l0 kj3 bt208.1 bt208.2 a2 0)) = some (r1, r2) := by rw [if_neg (show ¬ (false = true) by decide)] at H; exact H
    clear H
    have H := H1
    clear H1
    replace H := Option.bind_eq_some_iff.mp H
    obtain ⟨⟨t208, t209⟩, A70, H⟩ := H
    replace H : (thrumref01_MulP.l0 kj3 t208 t209 a2 0) = some (r1, r2) := H
    have A7 := Aside0.mk A70
    clear A70
    have H' := Aside0.mk H
    clear H
    go_wp2_with (first | ((with_reducible refine gate_callee (f := 78) rfl ?_); refine goesL_ (some 20) rfl rfl Try.func78 (by kernel_rfl) rfl #[.int .i64 a0, .int .i64 a1] rfl (by (try simp only [List.map_toArray, List.map_cons, List.map_nil]); first | done | rfl | (simp only [List.length_drop, List.length_take]; rfl)) ?_; (with_reducible refine (thrumref01_Wide.calls a0 a1 t208 t209 _ A7.out).mono ?_); rintro e w' ⟨rfl, ⟨nd, rfl⟩⟩; refine ⟨_, rfl, ?_⟩))
    go_loopg [8, 9, 24] kj3 (fun kq v8 v9 v24 w' => ∃ (x8_2 : Int) (x9_2 : Int) (x24_2 : Int), v8 = .int .i64 x8_2 ∧ v9 = .int .u64 x9_2 ∧ v24 = .int .i64 x24_2 ∧ Aside0 (thrumref01_MulP.l0 kq x8_2 x9_2 a2 x24_2 = some (r1, r2)) ∧ Aside0 (kq ≤ kj3) ∧ Drawn0 w w')
    case atStart => exact ⟨(t208), (t209), (0), (by first | rfl | (simp; done) | (simp [*]; done)), (by first | rfl | (simp; done) | (simp [*]; done)), (by first | rfl | (simp; done) | (simp [*]; done)), H', ⟨Nat.le_refl _⟩, by repeat (first | exact ddR _ | apply ddS)⟩
    case round =>
     clear H'
     try clear p2
     try clear c3
     try clear c5
     try clear c5b0
     try clear c6
     try clear c7
     try clear p2
     obtain ⟨x8_2, x9_2, x24_2, rfl, rfl, rfl, HA, HK2, ⟨m2, rfl⟩⟩ := hrel
     cases gk with
     | zero => exact absurd HA.out (by simp [thrumref01_MulP.l0])
     | succ k2 =>
      have H := HA.out
      clear HA
      simp only [thrumref01_MulP.l0] at H
      by_cases c8 : x24_2 < a2
      ·
       rw [if_pos c8] at H
       have c8b0 : decide (x24_2 < a2) = true := decide_eq_true c8
       clear c8
       have H' := Aside0.mk H
       clear H
       go_wp2
       go_roundg k2
       case measure => have := HJ3.out; have := HK2.out; omega
       case rel => exact ⟨(x8_2 / 2), (Go.bits .or .u64 (x9_2 / 2) (IntKind.u64.wrap ((IntKind.u64.wrap (Go.bits .and .i64 x8_2 1)) * 9223372036854775808))), (wrap64 (x24_2 + 1)), (by first | rfl | (simp; done) | (simp [*]; done)), (by first | rfl | (simp; done) | (simp [*]; done)), (by first | rfl | (simp; done) | (simp [*]; done)), H', ⟨by have := HJ3.out; have := HK2.out; omega⟩, by repeat (first | exact ddR _ | apply ddS)⟩
      ·
       rw [if_neg c8] at H
       have c8b0 : decide (x24_2 < a2) = false := decide_eq_false c8
       clear c8
       by_cases c9 : x8_2 = ((wrap64 (x9_2)) / 9223372036854775808)
       ·
        rw [if_pos c9] at H
        have c9b0 : (x8_2 == ((wrap64 (x9_2)) / 9223372036854775808)) = true := beq_iff_eq.mpr c9
        have c9b1 : (x8_2 != ((wrap64 (x9_2)) / 9223372036854775808)) = false := bne_eq_false_iff_eq.mpr c9
        clear c9
        simp only [Option.some.injEq, Prod.mk.injEq] at H
        obtain ⟨rfl, rfl⟩ := H
        go_wp2
        go_ret2
        exact ⟨by first | rfl | (simp; done) | (simp [*]; done), by repeat (first | exact ddR _ | apply ddS)⟩
       ·
        rw [if_neg c9] at H
        have c9b0 : (x8_2 == ((wrap64 (x9_2)) / 9223372036854775808)) = false := beq_eq_false_iff_ne.mpr c9
        have c9b1 : (x8_2 != ((wrap64 (x9_2)) / 9223372036854775808)) = true := bne_iff_ne.mpr c9
        simp only [Option.some.injEq, Prod.mk.injEq] at H
        obtain ⟨rfl, rfl⟩ := H
        go_wp2
        go_ret2
        exact ⟨by first | rfl | (simp; done) | (simp [*]; done), by repeat (first | exact ddR _ | apply ddS)⟩

def thrumref01_Mul.f (a0 a1 a2 : Int) : Option (Int × Int) := if I64 a0 ∧ I64 a1 then some (mulF a0 a1 a2) else none
theorem thrumref01_Mul.of (a0 a1 a2 : Int)  (h_ : I64 a0 ∧ I64 a1) : thrumref01_Mul.f a0 a1 a2 = some (mulF a0 a1 a2) := if_pos h_
theorem thrumref01_MulP.loop (n : Nat) : ∀ (p f i : Int) (k : Nat), -170141183460469231731687303715884105728 ≤ p → p < 170141183460469231731687303715884105728 → 0 ≤ i → f ≤ 30 → f - i = n →
    thrumref01_MulP.l0 (n + 1 + k) (p / 18446744073709551616) (p % 18446744073709551616) f i = some (res (p / 2 ^ n)) := by
  induction n with
  | zero =>
    intro p f i k h0 h1 hi hf hn
    rw [show 0 + 1 + k = k + 1 by omega, thrumref01_MulP.l0, if_neg (by omega), Int.pow_zero, Int.ediv_one]
    by_cases c : I64 p
    · rw [res_of c]
      unfold I64 at c
      rw [if_pos (by simp only [wrap64_def]; omega)]
      simp only [wrap64_def, Option.some.injEq, Prod.mk.injEq, and_true]; omega
    · rw [res_not c]
      unfold I64 at c
      obtain ⟨a, ha⟩ : ∃ a, a = p / 18446744073709551616 := ⟨_, rfl⟩
      obtain ⟨l, hl⟩ : ∃ l, l = p % 18446744073709551616 := ⟨_, rfl⟩
      have e : p = 18446744073709551616 * a + l := by omega
      rw [← ha, ← hl, wrap64_def]
      rw [if_neg]
      have hl0 : 0 ≤ l ∧ l < 18446744073709551616 := by omega
      clear ha hl h0 h1
      subst e
      by_cases c2 : l < 9223372036854775808
      · have e1 : (l + 9223372036854775808) % 18446744073709551616 - 9223372036854775808 = l := by omega
        rw [e1]; omega
      · have e1 : (l + 9223372036854775808) % 18446744073709551616 - 9223372036854775808 = l - 18446744073709551616 := by omega
        rw [e1]; omega
  | succ n ih =>
    intro p f i k h0 h1 hi hf hn
    rw [show n + 1 + 1 + k = (n + 1 + k) + 1 by omega, thrumref01_MulP.l0, if_pos (by omega)]
    have e1 : p / 18446744073709551616 / 2 = p / 2 / 18446744073709551616 := by omega
    have e2 : Go.bits .or .u64 (p % 18446744073709551616 / 2) (IntKind.u64.wrap (IntKind.u64.wrap (Go.bits .and .i64 (p / 18446744073709551616) 1) * 9223372036854775808)) = p / 2 % 18446744073709551616 := by
      rw [and1_i64, wu, wu, or_join' 63 (by unfold U64; omega) (by simp only [Int.reducePow]; omega) (by omega) (by simp only [Int.reducePow]; omega) (by unfold U64; omega)]
      omega
    rw [e1, e2, wrap64_of (show I64 (i + 1) by unfold I64; omega), ih (p / 2) f (i + 1) k (by omega) (by omega) (by omega) hf (by omega), Int.pow_succ, Int.mul_comm, Int.ediv_ediv_of_nonneg (by omega)]
theorem thrumref01_MulP.spec {a0 a1 a2 : Int} (h0 : I64 a0) (h1 : I64 a1) : thrumref01_MulP.f (a2.toNat + 2) a0 a1 a2 = some (mulF a0 a1 a2) := by
  have hb := prod_bd h0 h1
  unfold thrumref01_MulP.f mulF
  by_cases c : 0 ≤ a2 ∧ a2 ≤ 30
  · rw [if_neg (by omega), if_pos c, show a2.toNat + 2 = (a2.toNat + 1) + 1 from rfl, thrumref01_MulP.j0, if_neg (by simp; omega)]
    unfold thrumref01_Wide.f
    rw [if_pos ⟨h0, h1⟩]
    exact thrumref01_MulP.loop a2.toNat (a0 * a1) a2 0 0 hb.1 hb.2 (by omega) c.2 (by omega)
  · rw [if_neg c, show a2.toNat + 2 = (a2.toNat + 1) + 1 from rfl]
    by_cases c2 : a2 < 0
    · rw [if_pos c2, thrumref01_MulP.j0, if_pos rfl]
    · rw [if_neg c2, thrumref01_MulP.j0, if_pos (by simp; omega)]
theorem thrumref01_Mul.calls (a0 : Int) (a1 : Int) (a2 : Int) (r1 : Int) (r2 : Int) (w : World) (h : thrumref01_Mul.f a0 a1 a2 = some (r1, r2)) :
    Calls Try.prog 63 #[.int .i64 a0, .int .i64 a1, .int .i64 a2] w fun e w' => e = .returned (.tuple #[.int .i64 r1, .int .i64 r2]) ∧ Drawn0 w w' := by
  unfold thrumref01_Mul.f at h
  split at h
  · rename_i hu
    exact thrumref01_MulP.calls _ a0 a1 a2 r1 r2 w ((thrumref01_MulP.spec hu.1 hu.2).trans h)
  · cases h


/-! ### thrumref02_twoP: function 73 -/
def thrumref02_twoP.j0 : Nat → List Int → List Int → Bool → Option (Int)
 | 0, _, _, _ => none
 | k + 1, x0, x1, x12 => if x12 = true then (some 3) else (if (x0.length : Int) = (x1.length : Int) then (some 0) else (some 4))
def thrumref02_twoP.f (k : Nat) (l0 : List Int) (l1 : List Int) : Option (Int) := if (l0.length : Int) > 4096 then (thrumref02_twoP.j0 k l0 l1 true) else (thrumref02_twoP.j0 k l0 l1 (decide ((l1.length : Int) > 4096)))
theorem thrumref02_twoP.mono_l : ∀ k, (∀ y0 y1 y2, LeO (thrumref02_twoP.j0 k y0 y1 y2) (thrumref02_twoP.j0 (k + 1) y0 y1 y2))
 | 0 => fun _ _ _ r h => by simp [thrumref02_twoP.j0] at h
 | k + 1 => by
  have ih0 := thrumref02_twoP.mono_l k
  ·
   intro y0 y1 y2
   unfold thrumref02_twoP.j0
   repeat' first
   | (with_reducible exact ih0 _ _ _)
   | (with_reducible exact LeO.refl _)
   | (with_reducible exact LeO.none _)
   | (with_reducible refine LeO.ite ?_ ?_)
   | (with_reducible refine LeO.bind ?_ (fun _ => ?_))
   | exact ih0 _ _ _
   | exact LeO.none _
   | refine LeO.ite ?_ ?_
   | refine LeO.bind ?_ (fun _ => ?_)
theorem thrumref02_twoP.mono : ∀ a0 a1 k, LeO (thrumref02_twoP.f k a0 a1) (thrumref02_twoP.f (k + 1) a0 a1) := by
 intro a0 a1 k
 have ih0 := thrumref02_twoP.mono_l k
 unfold thrumref02_twoP.f
 repeat' first
   | (with_reducible exact ih0 _ _ _)
   | (with_reducible exact LeO.refl _)
   | (with_reducible exact LeO.none _)
   | (with_reducible refine LeO.ite ?_ ?_)
   | (with_reducible refine LeO.bind ?_ (fun _ => ?_))
   | exact ih0 _ _ _
   | exact LeO.none _
   | refine LeO.ite ?_ ?_
   | refine LeO.bind ?_ (fun _ => ?_)
set_option maxHeartbeats 8000000 in
set_option maxRecDepth 100000 in
theorem thrumref02_twoP.calls (k : Nat) (A0 : Option Addr) (c0 : Nat) (l0 : List Int) (A1 : Option Addr) (c1 : Nat) (l1 : List Int) (r : Int) (w : World) (hr0 : Kd.C (Kd.int .i64) w A0 l0.length l0) (hc0 : l0.length ≤ c0) (hr1 : Kd.C (Kd.int .i64) w A1 l1.length l1) (hc1 : l1.length ≤ c1) (h : thrumref02_twoP.f k l0 l1 = some r) :
  Calls Try.prog 73 #[.slice A0 l0.length c0, .slice A1 l1.length c1] w fun e w' => e = .returned (.int .i64 r) ∧ Drawn0 w w' := by
 have HR0 := Aside0.mk hr0
 have HC0 := Aside0.mk hc0
 clear hr0 hc0
 have HR1 := Aside0.mk hr1
 have HC1 := Aside0.mk hc1
 clear hr1 hc1
 have H : (if (l0.length : Int) > 4096 then (thrumref02_twoP.j0 k l0 l1 true) else (thrumref02_twoP.j0 k l0 l1 (decide ((l1.length : Int) > 4096)))) = some r := h
 clear h
 have HC3 := Aside0.mk H
 clear H
 go_enter Try.func73, Try.ntmps73
 go_upto_region 1 with (fail)
 go_cut [12] (fun v12 wc => ∃ (kq : Nat) (x12_2 : Bool), v12 = .bool x12_2 ∧ Aside0 (thrumref02_twoP.j0 kq l0 l1 x12_2 = some r) ∧ Aside0 (kq ≤ k) ∧ Drawn0 w wc)
 case first =>
  have H := HC3.out
  clear HC3
  by_cases c4 : (l0.length : Int) > 4096
  ·
   rw [if_pos c4] at H
   have c4b0 : decide (4096 < (l0.length : Int)) = true := decide_eq_true c4
   have c4b1 : decide (4096 < l0.length) = true := decide_eq_true (by omega)
   clear c4
   (first | rw [c4b0] | (simp only [i64_w, i32_w]; rw [c4b0]) | skip)
   have H' := Aside0.mk H
   clear H
   go_wp2
   go_meet
   case rel => exact ⟨_, (true), (by first | rfl | (simp; done) | (simp [*]; done)), H', ⟨by first | omega | exact Nat.le_refl _⟩, by repeat (first | exact ddR _ | apply ddS)⟩
  ·
   rw [if_neg c4] at H
   have c4b0 : decide (4096 < (l0.length : Int)) = false := decide_eq_false c4
   have c4b1 : decide (4096 < l0.length) = false := decide_eq_false (by omega)
   clear c4
   (first | rw [c4b0] | (simp only [i64_w, i32_w]; rw [c4b0]) | skip)
   have H' := Aside0.mk H
   clear H
   go_wp2
   go_meet
   case rel => exact ⟨_, (decide ((l1.length : Int) > 4096)), (by first | rfl | (simp; done) | (simp [*]; done)), H', ⟨by first | omega | exact Nat.le_refl _⟩, by repeat (first | exact ddR _ | apply ddS)⟩
 case rest =>
  clear HC3
  try clear c1
  try clear p2
  try clear c4
  try clear c4b0
  try clear c4b1
  obtain ⟨kq, x12_2, rfl, HA, HJ2, ⟨mc2, rfl⟩⟩ := hcut
  cases kq with
  | zero => exact absurd HA.out (by simp [thrumref02_twoP.j0])
  | succ kj2 =>
   have H := HA.out
   clear HA
   simp only [thrumref02_twoP.j0] at H
   by_cases c5 : x12_2 = true
   ·
    subst c5
    have H1 : (some 3) = some r := by rw [if_pos rfl] at H; exact H
    clear H
    have H := H1
    clear H1
    obtain rfl := Option.some.inj H
    go_wp2
    go_ret
    exact ⟨by first | rfl | (simp; done) | (simp [*]; done), by repeat (first | exact ddR _ | apply ddS)⟩
   ·
    replace c5 := Bool.eq_false_iff.mpr c5
    subst c5
    have H1 : (if (l0.length : Int) = (l1.length : Int) then (some 0) else (some 4)) = some r := by rw [if_neg (show ¬ (false = true) by decide)] at H; exact H
    clear H
    have H := H1
    clear H1
    by_cases c6 : (l0.length : Int) = (l1.length : Int)
    ·
     rw [if_pos c6] at H
     have c6b0 : ((l0.length : Int) == (l1.length : Int)) = true := beq_iff_eq.mpr c6
     have c6b1 : ((l0.length : Int) != (l1.length : Int)) = false := bne_eq_false_iff_eq.mpr c6
     have c6b2 : (l0.length == l1.length) = true := by first | simpa using c6 | (simp at c6 ⊢; omega)
     clear c6
     obtain rfl := Option.some.inj H
     go_wp2
     go_ret
     exact ⟨by first | rfl | (simp; done) | (simp [*]; done), by repeat (first | exact ddR _ | apply ddS)⟩
    ·
     rw [if_neg c6] at H
     have c6b0 : ((l0.length : Int) == (l1.length : Int)) = false := beq_eq_false_iff_ne.mpr c6
     have c6b1 : ((l0.length : Int) != (l1.length : Int)) = true := bne_iff_ne.mpr c6
     have c6b2 : (l0.length == l1.length) = false := by first | simpa using c6 | (simp at c6 ⊢; omega)
     obtain rfl := Option.some.inj H
     go_wp2
     go_ret
     exact ⟨by first | rfl | (simp; done) | (simp [*]; done), by repeat (first | exact ddR _ | apply ddS)⟩

def thrumref02_two.f (l0 l1 : List Int) : Option Int := some (pairE l0 l1)
theorem thrumref02_two.calls (A0 : Option Addr) (c0 : Nat) (l0 : List Int) (A1 : Option Addr) (c1 : Nat) (l1 : List Int) (r : Int) (w : World) (hr0 : Kd.C (Kd.int .i64) w A0 l0.length l0) (hc0 : l0.length ≤ c0) (hr1 : Kd.C (Kd.int .i64) w A1 l1.length l1) (hc1 : l1.length ≤ c1) (h : thrumref02_two.f l0 l1 = some r) :
    Calls Try.prog 73 #[.slice A0 l0.length c0, .slice A1 l1.length c1] w fun e w' => e = .returned (.int .i64 r) ∧ Drawn0 w w' := by
  refine thrumref02_twoP.calls 1 A0 c0 l0 A1 c1 l1 r w hr0 hc0 hr1 hc1 (Eq.trans ?_ h)
  unfold thrumref02_twoP.f thrumref02_two.f pairE
  by_cases c : l0.length > 4096
  · rw [if_pos (by omega), thrumref02_twoP.j0, if_pos rfl, if_pos (Or.inl c)]
  · rw [if_neg (by omega), thrumref02_twoP.j0]
    by_cases c2 : l1.length > 4096
    · rw [if_pos (decide_eq_true (by omega)), if_pos (Or.inr c2)]
    · rw [if_neg (by simp; omega), if_neg (show ¬ (l0.length > 4096 ∨ l1.length > 4096) by omega)]
      by_cases c3 : l0.length = l1.length
      · rw [if_pos (by omega), if_neg (by omega)]
      · rw [if_neg (by omega), if_pos c3]


end Go.Proofs.Ytalamamjodihaaa.HO
