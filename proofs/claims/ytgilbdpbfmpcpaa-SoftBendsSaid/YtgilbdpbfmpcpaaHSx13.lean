/- What Go functions do, each as a plain Lean function with the same answers, and the proof of it, in every world: printed by the session's driver over the kit's print, with texts by hand. -/
import Derived.Test.YtgilbdpbfmpcpaaHSx0
import Derived.Test.YtgilbdpbfmpcpaaMini
namespace Go.Proofs.Ytgilbdpbfmpcpaa.HS
open Go.RowKit Go.Proofs.YtgilbdpbfmpcpaaW.PrintWords Go.Proofs.YtgilbdpbfmpcpaaW.PrintLast Go.Proofs.YtgilbdpbfmpcpaaW.PrintMore
attribute [local go_sem] max2_int min2_int max_two min_two max_three min_three max_four min_four   -- for this text's walks alone
open Go.Proofs.Ytgilbdpbfmpcpaa.Sp
attribute [local go_sem] Go.Proofs.Ytgilbdpbfmpcpaa.Sp.u64_not
set_option linter.unusedVariables false
set_option linter.unusedSimpArgs false

/-! ### thrumref01_SubP: function 86 -/
def thrumref01_SubP.f (a0 : Int) (a1 : Int) : Option (Int × Int) := if a1 < 0 then (if a0 > (wrap64 (9223372036854775807 + a1)) then (some (0, 2)) else (if a1 > 0 then (if a0 < (wrap64 ((-9223372036854775808) + a1)) then (some (0, 2)) else (some (wrap64 (a0 - a1), 0))) else (some (wrap64 (a0 - a1), 0)))) else (if a1 > 0 then (if a0 < (wrap64 ((-9223372036854775808) + a1)) then (some (0, 2)) else (some (wrap64 (a0 - a1), 0))) else (some (wrap64 (a0 - a1), 0)))
set_option maxHeartbeats 8000000 in
set_option maxRecDepth 100000 in
theorem thrumref01_SubP.calls (a0 : Int) (a1 : Int) (r1 : Int) (r2 : Int) (w : World) (h : thrumref01_SubP.f a0 a1 = some (r1, r2)) :
  Calls Try.prog 86 #[.int .i64 a0, .int .i64 a1] w fun e w' => e = .returned (.tuple #[.int .i64 r1, .int .i64 r2]) ∧ Drawn0 w w' := by
 have H : (if a1 < 0 then (if a0 > (wrap64 (9223372036854775807 + a1)) then (some (0, 2)) else (if a1 > 0 then (if a0 < (wrap64 ((-9223372036854775808) + a1)) then (some (0, 2)) else (some (wrap64 (a0 - a1), 0))) else (some (wrap64 (a0 - a1), 0)))) else (if a1 > 0 then (if a0 < (wrap64 ((-9223372036854775808) + a1)) then (some (0, 2)) else (some (wrap64 (a0 - a1), 0))) else (some (wrap64 (a0 - a1), 0)))) = some (r1, r2) := h
 clear h
 by_cases c3 : a1 < 0
 case neg =>
  rw [if_neg c3] at H
  have c3b0 : decide (a1 < 0) = false := decide_eq_false c3
  clear c3
  by_cases c7 : a1 > 0
  case neg =>
   rw [if_neg c7] at H
   have c7b0 : decide (0 < a1) = false := decide_eq_false c7
   clear c7
   simp only [Option.some.injEq, Prod.mk.injEq] at H
   obtain ⟨rfl, rfl⟩ := H
   go_enter Try.func86, Try.ntmps86
   go_wp2
   go_ret2
   exact ⟨by first | rfl | (simp; done) | (simp [*]; done), by repeat (first | exact ddR _ | apply ddS)⟩
  rw [if_pos c7] at H
  have c7b0 : decide (0 < a1) = true := decide_eq_true c7
  clear c7
  by_cases c8 : a0 < (wrap64 ((-9223372036854775808) + a1))
  case neg =>
   rw [if_neg c8] at H
   have c8b0 : decide (a0 < (wrap64 ((-9223372036854775808) + a1))) = false := decide_eq_false c8
   clear c8
   simp only [Option.some.injEq, Prod.mk.injEq] at H
   obtain ⟨rfl, rfl⟩ := H
   go_enter Try.func86, Try.ntmps86
   go_wp2
   go_ret2
   exact ⟨by first | rfl | (simp; done) | (simp [*]; done), by repeat (first | exact ddR _ | apply ddS)⟩
  rw [if_pos c8] at H
  have c8b0 : decide (a0 < (wrap64 ((-9223372036854775808) + a1))) = true := decide_eq_true c8
  clear c8
  simp only [Option.some.injEq, Prod.mk.injEq] at H
  obtain ⟨rfl, rfl⟩ := H
  go_enter Try.func86, Try.ntmps86
  go_wp2
  go_ret2
  exact ⟨by first | rfl | (simp; done) | (simp [*]; done), by repeat (first | exact ddR _ | apply ddS)⟩
 rw [if_pos c3] at H
 have c3b0 : decide (a1 < 0) = true := decide_eq_true c3
 clear c3
 by_cases c4 : a0 > (wrap64 (9223372036854775807 + a1))
 ·
  rw [if_pos c4] at H
  have c4b0 : decide ((wrap64 (9223372036854775807 + a1)) < a0) = true := decide_eq_true c4
  clear c4
  simp only [Option.some.injEq, Prod.mk.injEq] at H
  obtain ⟨rfl, rfl⟩ := H
  go_enter Try.func86, Try.ntmps86
  go_wp2
  go_ret2
  exact ⟨by first | rfl | (simp; done) | (simp [*]; done), by repeat (first | exact ddR _ | apply ddS)⟩
 rw [if_neg c4] at H
 have c4b0 : decide ((wrap64 (9223372036854775807 + a1)) < a0) = false := decide_eq_false c4
 clear c4
 by_cases c5 : a1 > 0
 case neg =>
  rw [if_neg c5] at H
  have c5b0 : decide (0 < a1) = false := decide_eq_false c5
  clear c5
  simp only [Option.some.injEq, Prod.mk.injEq] at H
  obtain ⟨rfl, rfl⟩ := H
  go_enter Try.func86, Try.ntmps86
  go_wp2
  go_ret2
  exact ⟨by first | rfl | (simp; done) | (simp [*]; done), by repeat (first | exact ddR _ | apply ddS)⟩
 rw [if_pos c5] at H
 have c5b0 : decide (0 < a1) = true := decide_eq_true c5
 clear c5
 by_cases c6 : a0 < (wrap64 ((-9223372036854775808) + a1))
 case neg =>
  rw [if_neg c6] at H
  have c6b0 : decide (a0 < (wrap64 ((-9223372036854775808) + a1))) = false := decide_eq_false c6
  clear c6
  simp only [Option.some.injEq, Prod.mk.injEq] at H
  obtain ⟨rfl, rfl⟩ := H
  go_enter Try.func86, Try.ntmps86
  go_wp2
  go_ret2
  exact ⟨by first | rfl | (simp; done) | (simp [*]; done), by repeat (first | exact ddR _ | apply ddS)⟩
 rw [if_pos c6] at H
 have c6b0 : decide (a0 < (wrap64 ((-9223372036854775808) + a1))) = true := decide_eq_true c6
 clear c6
 simp only [Option.some.injEq, Prod.mk.injEq] at H
 obtain ⟨rfl, rfl⟩ := H
 go_enter Try.func86, Try.ntmps86
 go_wp2
 go_ret2
 exact ⟨by first | rfl | (simp; done) | (simp [*]; done), by repeat (first | exact ddR _ | apply ddS)⟩
def thrumref01_Sub.f (a0 a1 : Int) : Option (Int × Int) := if I64 a0 ∧ I64 a1 then some (res (a0 - a1)) else none
theorem thrumref01_Sub.of (a0 a1 : Int)  (h_ : I64 a0 ∧ I64 a1) : thrumref01_Sub.f a0 a1 = some (res (a0 - a1)) := if_pos h_
theorem thrumref01_Sub.calls (a0 : Int) (a1 : Int) (r1 : Int) (r2 : Int) (w : World) (h : thrumref01_Sub.f a0 a1 = some (r1, r2)) :
    Calls Try.prog 86 #[.int .i64 a0, .int .i64 a1] w fun e w' => e = .returned (.tuple #[.int .i64 r1, .int .i64 r2]) ∧ Drawn0 w w' := by
  unfold thrumref01_Sub.f at h
  split at h
  · rename_i hu
    refine thrumref01_SubP.calls a0 a1 r1 r2 w (Eq.trans ?_ h)
    unfold thrumref01_SubP.f
    obtain ⟨h0, h1⟩ := hu
    unfold I64 at h0 h1
    rcases Int.lt_trichotomy a1 0 with c | c | c
    · rw [if_pos c, wrap64_of (show I64 (9223372036854775807 + a1) by unfold I64; omega)]
      by_cases d : a0 > 9223372036854775807 + a1
      · rw [if_pos d, res_not (by unfold I64; omega)]
      · rw [if_neg d, if_neg (by omega), res_of (by unfold I64; omega), wrap64_of (by unfold I64; omega)]
    · rw [if_neg (by omega), if_neg (by omega), res_of (by unfold I64; omega), wrap64_of (by unfold I64; omega)]
    · rw [if_neg (by omega), if_pos (by omega), wrap64_of (show I64 (-9223372036854775808 + a1) by unfold I64; omega)]
      by_cases d : a0 < -9223372036854775808 + a1
      · rw [if_pos d, res_not (by unfold I64; omega)]
      · rw [if_neg d, res_of (by unfold I64; omega), wrap64_of (by unfold I64; omega)]
  · cases h


/-! ### thrumref01_NegP: function 97 -/
def thrumref01_NegP.f (a0 : Int) : Option (Int × Int) := (thrumref01_Sub.f 0 a0).bind fun bt321 => (some (bt321.1, bt321.2))
set_option maxHeartbeats 8000000 in
set_option maxRecDepth 100000 in
theorem thrumref01_NegP.calls (a0 : Int) (r1 : Int) (r2 : Int) (w : World) (h : thrumref01_NegP.f a0 = some (r1, r2)) :
  Calls Try.prog 97 #[.int .i64 a0] w fun e w' => e = .returned (.tuple #[.int .i64 r1, .int .i64 r2]) ∧ Drawn0 w w' := by
 have H : ((thrumref01_Sub.f 0 a0).bind fun bt321 => (some (bt321.1, bt321.2))) = some (r1, r2) := h
 clear h
 replace H := Option.bind_eq_some_iff.mp H
 obtain ⟨⟨t321, t322⟩, A20, H⟩ := H
 replace H : (some (t321, t322)) = some (r1, r2) := H
 have A2 := ZM A20
 clear A20
 simp only [Option.some.injEq, Prod.mk.injEq] at H
 obtain ⟨rfl, rfl⟩ := H
 go_enter Try.func97, Try.ntmps97
 go_wp2_with (first | ((with_reducible refine gate_callee (f := 86) rfl ?_); refine goesL_ (some 5) rfl rfl Try.func86 (by kernel_rfl) rfl #[.int .i64 0, .int .i64 a0] rfl Z2 ?_; (with_reducible refine (thrumref01_Sub.calls 0 a0 t321 t322 _ A2.out).mono ?_); rintro e w' ⟨rfl, ⟨nd, rfl⟩⟩; refine ⟨_, rfl, ?_⟩))
 go_ret2
 exact ⟨by first | rfl | (simp; done) | (simp [*]; done), by repeat (first | exact ddR _ | apply ddS)⟩
def thrumref01_Neg.f (a0 : Int) : Option (Int × Int) := if I64 a0 then some (res (-a0)) else none
theorem thrumref01_Neg.of (a0 : Int)  (h_ : I64 a0) : thrumref01_Neg.f a0 = some (res (-a0)) := if_pos h_
theorem thrumref01_Neg.calls (a0 : Int) (r1 : Int) (r2 : Int) (w : World) (h : thrumref01_Neg.f a0 = some (r1, r2)) :
    Calls Try.prog 97 #[.int .i64 a0] w fun e w' => e = .returned (.tuple #[.int .i64 r1, .int .i64 r2]) ∧ Drawn0 w w' := by
  unfold thrumref01_Neg.f at h
  split at h
  · rename_i hu
    refine thrumref01_NegP.calls a0 r1 r2 w (Eq.trans ?_ h)
    unfold thrumref01_NegP.f thrumref01_Sub.f
    rw [if_pos ⟨i64_zero, hu⟩]; simp
  · cases h


/-! ### thrumref13_RootP: function 101 -/
def thrumref13_RootP.l0 : Nat → Int → Int → Int → Option (Int)
 | 0, _, _, _ => none
 | k + 1, x0, x3, x4 => if x4 ≥ 0 then (if 0 ≤ x4 then (if (IntKind.u64.wrap ((IntKind.u64.wrap (x3 + (shl .u64 1 x4))) * (IntKind.u64.wrap (x3 + (shl .u64 1 x4))))) ≤ x0 then (thrumref13_RootP.l0 k x0 (IntKind.u64.wrap (x3 + (shl .u64 1 x4))) (wrap64 (x4 - 1))) else (thrumref13_RootP.l0 k x0 x3 (wrap64 (x4 - 1)))) else (none)) else (some x3)
def thrumref13_RootP.f (k : Nat) (a0 : Int) : Option (Int) := thrumref13_RootP.l0 k a0 0 31
theorem thrumref13_RootP.mono_l : ∀ k, (∀ y0 y1 y2, LeO (thrumref13_RootP.l0 k y0 y1 y2) (thrumref13_RootP.l0 (k + 1) y0 y1 y2))
 | 0 => fun _ _ _ r h => by simp [thrumref13_RootP.l0] at h
 | k + 1 => by
  have ih0 := thrumref13_RootP.mono_l k
  ·
   intro y0 y1 y2
   unfold thrumref13_RootP.l0
   repeat' first
   | (with_reducible exact ih0 _ _ _)
   | (with_reducible exact LeO.refl _)
   | (with_reducible exact LeO.none _)
   | (with_reducible refine LeO.ite ?_ ?_)
   | (with_reducible refine LeO.bind ?_ (fun _ => ?_))
theorem thrumref13_RootP.mono : ∀ a0 k, LeO (thrumref13_RootP.f k a0) (thrumref13_RootP.f (k + 1) a0) := by
 intro a0 k
 have ih0 := thrumref13_RootP.mono_l k
 unfold thrumref13_RootP.f
 repeat' first
   | (with_reducible exact ih0 _ _ _)
   | (with_reducible exact LeO.refl _)
   | (with_reducible exact LeO.none _)
   | (with_reducible refine LeO.ite ?_ ?_)
   | (with_reducible refine LeO.bind ?_ (fun _ => ?_))
set_option maxHeartbeats 8000000 in
set_option maxRecDepth 100000 in
theorem thrumref13_RootP.calls (k : Nat) (a0 : Int) (r : Int) (w : World) (h : thrumref13_RootP.f k a0 = some r) :
  Calls Try.prog 101 #[.int .u64 a0] w fun e w' => e = .returned (.int .u64 r) ∧ Drawn0 w w' := by
 have H : (thrumref13_RootP.l0 k a0 0 31) = some r := h
 clear h
 have H' := ZM H
 clear H
 go_enter Try.func101, Try.ntmps101
 go_wp2
 go_loopg [3, 4] k (fun kq v3 v4 w' => ∃ (x3_1 : Int) (x4_1 : Int), v3 = .int .u64 x3_1 ∧ v4 = .int .i64 x4_1 ∧ Aside0 (thrumref13_RootP.l0 kq a0 x3_1 x4_1 = some r) ∧ Aside0 (kq ≤ k) ∧ Drawn0 w w')
 case atStart => exact ⟨(0), (31), Z4, Z4, H', ⟨Nat.le_refl _⟩, by repeat (first | exact ddR _ | apply ddS)⟩
 case round =>
  clear H'
  try clear c1
  obtain ⟨x3_1, x4_1, rfl, rfl, HA, HK1, ⟨m1, rfl⟩⟩ := hrel
  cases gk with
  | zero => exact absurd HA.out (by simp [thrumref13_RootP.l0])
  | succ k1 =>
   have H := HA.out
   clear HA
   simp only [thrumref13_RootP.l0] at H
   by_cases c2 : x4_1 ≥ 0
   case neg =>
    rw [if_neg c2] at H
    have c2b0 : decide (0 ≤ x4_1) = false := decide_eq_false c2
    clear c2
    obtain rfl := Option.some.inj H
    go_wp2
    go_ret
    exact ⟨by first | rfl | (simp; done) | (simp [*]; done), by repeat (first | exact ddR _ | apply ddS)⟩
   rw [if_pos c2] at H
   have c2b0 : decide (0 ≤ x4_1) = true := decide_eq_true c2
   clear c2
   by_cases c3 : 0 ≤ x4_1
   case neg =>
    rw [if_neg c3] at H
    exact absurd H (by simp)
   rw [if_pos c3] at H
   have c3b0 := eq_true c3
   have c3b1 : decide (0 ≤ x4_1) = true := decide_eq_true c3
   clear c3
   obtain ⟨ji4, hji4⟩ : ∃ j_ : Int, (shl .u64 1 x4_1) = j_ := ⟨_, rfl⟩
   replace H : (if (IntKind.u64.wrap ((IntKind.u64.wrap (x3_1 + (ji4))) * (IntKind.u64.wrap (x3_1 + (ji4))))) ≤ a0 then (thrumref13_RootP.l0 k1 a0 (IntKind.u64.wrap (x3_1 + (ji4))) (wrap64 (x4_1 - 1))) else (thrumref13_RootP.l0 k1 a0 x3_1 (wrap64 (x4_1 - 1)))) = some r := by first | (rw [hji4] at H; exact H) | (simp only [hji4] at H ⊢; exact H)
   have hji4_ : (IntKind.u64.wrap (1 * 2 ^ min x4_1.toNat 64)) = ji4 := hji4
   have hji4z : x4_1 ≤ 64 → (IntKind.u64.wrap (1 * 2 ^ x4_1.toNat)) = ji4 := shl_small hji4
   have hji4u : (IntKind.u64.wrap (2 ^ min x4_1.toNat 64)) = ji4 := by have h_ := hji4_; rw [Int.one_mul] at h_; exact h_
   have hji4v : x4_1 ≤ 64 → (IntKind.u64.wrap (2 ^ x4_1.toNat)) = ji4 := fun hle_ => by have h_ := hji4z hle_; rw [Int.one_mul] at h_; exact h_
   by_cases c5 : (IntKind.u64.wrap ((IntKind.u64.wrap (x3_1 + (ji4))) * (IntKind.u64.wrap (x3_1 + (ji4))))) ≤ a0
   case neg =>
    rw [if_neg c5] at H
    have c5b0 : decide ((IntKind.u64.wrap ((IntKind.u64.wrap (x3_1 + (ji4))) * (IntKind.u64.wrap (x3_1 + (ji4))))) ≤ a0) = false := decide_eq_false c5
    clear c5
    have H' := ZM H
    clear H
    go_wp2
    go_roundg k1
    case measure => have := HK1.out; omega
    case rel => exact ⟨(x3_1), (wrap64 (x4_1 - 1)), Z4, Z4, H', ⟨by have := HK1.out; omega⟩, by repeat (first | exact ddR _ | apply ddS)⟩
   rw [if_pos c5] at H
   have c5b0 : decide ((IntKind.u64.wrap ((IntKind.u64.wrap (x3_1 + (ji4))) * (IntKind.u64.wrap (x3_1 + (ji4))))) ≤ a0) = true := decide_eq_true c5
   clear c5
   have H' := ZM H
   clear H
   go_wp2
   go_roundg k1
   case measure => have := HK1.out; omega
   case rel => exact ⟨(IntKind.u64.wrap (x3_1 + (ji4))), (wrap64 (x4_1 - 1)), (by first | rfl | (simp; done) | (simp only [← hji4] <;> (first | rfl | simp)) | (simp [*]; done)), Z4, H', ⟨by have := HK1.out; omega⟩, by repeat (first | exact ddR _ | apply ddS)⟩
theorem thrumref13_RootP.loop (x0 : Int) (hx : U64 x0) : ∀ (k : Nat) (out : Int), k ≤ 32 → 0 ≤ out → out + 2 ^ k ≤ 4294967296 →
    thrumref13_RootP.l0 (k + 1) x0 out ((k : Int) - 1) = some (rootGo x0 k out) := by
  intro k
  induction k with
  | zero =>
    intro out hk h0 h1
    rw [thrumref13_RootP.l0, if_neg (by omega)]; rfl
  | succ k ih =>
    intro out hk h0 h1
    have hp := pow_pos_ k
    have e2 : (2 : Int) ^ (k + 1) = 2 ^ k + 2 ^ k := by rw [Int.pow_succ]; omega
    have hm0 : 0 ≤ (out + 2 ^ k) * (out + 2 ^ k) := Int.mul_nonneg (by omega) (by omega)
    have hm1 : (out + 2 ^ k) * (out + 2 ^ k) ≤ 4294967295 * 4294967295 := Int.mul_le_mul (by omega) (by omega) (by omega) (by omega)
    have hs : shl .u64 1 (((k + 1 : Nat) : Int) - 1) = 2 ^ k := by
      unfold shl
      rw [show (((k + 1 : Nat) : Int) - 1).toNat = k by omega, show min k IntKind.u64.bits = k from by show min k 64 = _; omega, wu]; omega
    have e1 : IntKind.u64.wrap (out + 2 ^ k) = out + 2 ^ k := by rw [wu]; exact Int.emod_eq_of_lt (by omega) (by omega)
    have e3 : IntKind.u64.wrap ((out + 2 ^ k) * (out + 2 ^ k)) = (out + 2 ^ k) * (out + 2 ^ k) := by rw [wu]; exact Int.emod_eq_of_lt hm0 (by omega)
    rw [thrumref13_RootP.l0, if_pos (by omega), if_pos (by omega), hs, e1, e3, wrap64_of (by unfold I64; omega), show ((k + 1 : Nat) : Int) - 1 - 1 = (k : Int) - 1 by omega, rootGo]
    by_cases c : (out + 2 ^ k) * (out + 2 ^ k) ≤ x0
    · rw [if_pos c, if_pos c]; exact ih _ (by omega) (by omega) (by omega)
    · rw [if_neg c, if_neg c]; exact ih _ (by omega) (by omega) (by omega)
def thrumref13_Root.f (a0 : Int) : Option Int := if U64 a0 then some (rootF a0) else none
theorem thrumref13_Root.of (a0 : Int)  (h_ : U64 a0) : thrumref13_Root.f a0 = some (rootF a0) := if_pos h_
theorem thrumref13_Root.calls (a0 : Int) (r : Int) (w : World) (h : thrumref13_Root.f a0 = some r) :
    Calls Try.prog 101 #[.int .u64 a0] w fun e w' => e = .returned (.int .u64 r) ∧ Drawn0 w w' := by
  unfold thrumref13_Root.f at h
  split at h
  case isFalse => cases h
  rename_i hu
  refine thrumref13_RootP.calls 33 a0 r w (Eq.trans ?_ h)
  exact thrumref13_RootP.loop a0 hu 32 0 (by omega) (by omega) (by decide)


/-! ### thrumref13_Rows: function 98 -/
theorem thrumref13_Root.at_314317453456834560 : thrumref13_Root.f (IntKind.u64.wrap 314317453456834560) = some 560640217 := by decide +kernel
theorem thrumref13_Root.at_342765613334134784 : thrumref13_Root.f (IntKind.u64.wrap 342765613334134784) = some 585461880 := by decide +kernel
theorem thrumref13_Root.at_373788551207549160 : thrumref13_Root.f (IntKind.u64.wrap 373788551207549160) = some 611382491 := by decide +kernel
theorem thrumref13_Root.at_407619306507993088 : thrumref13_Root.f (IntKind.u64.wrap 407619306507993088) = some 638450707 := by decide +kernel
theorem thrumref13_Root.at_444512004437301131 : thrumref13_Root.f (IntKind.u64.wrap 444512004437301131) = some 666717334 := by decide +kernel
theorem thrumref13_Root.at_484743778457637668 : thrumref13_Root.f (IntKind.u64.wrap 484743778457637668) = some 696235433 := by decide +kernel
theorem thrumref13_Root.at_528616838838443692 : thrumref13_Root.f (IntKind.u64.wrap 528616838838443692) = some 727060409 := by decide +kernel
theorem thrumref13_Root.at_576460752303423488 : thrumref13_Root.f (IntKind.u64.wrap 576460752303423488) = some 759250124 := by decide +kernel
theorem thrumref13_Root.at_628634906129798244 : thrumref13_Root.f (IntKind.u64.wrap 628634906129798244) = some 792864998 := by decide +kernel
theorem thrumref13_Root.at_685531226722800600 : thrumref13_Root.f (IntKind.u64.wrap 685531226722800600) = some 827968131 := by decide +kernel
theorem thrumref13_Root.at_747577103499840150 : thrumref13_Root.f (IntKind.u64.wrap 747577103499840150) = some 864625412 := by decide +kernel
theorem thrumref13_Root.at_815238613015986176 : thrumref13_Root.f (IntKind.u64.wrap 815238613015986176) = some 902905650 := by decide +kernel
theorem thrumref13_Root.at_889024011054300450 : thrumref13_Root.f (IntKind.u64.wrap 889024011054300450) = some 942880698 := by decide +kernel
theorem thrumref13_Root.at_969487559530905600 : thrumref13_Root.f (IntKind.u64.wrap 969487559530905600) = some 984625593 := by decide +kernel
theorem thrumref13_Root.at_1057233680184901632 : thrumref13_Root.f (IntKind.u64.wrap 1057233680184901632) = some 1028218692 := by decide +kernel
def thrumref13_Rows.f : Option (List Int) := some tabL
set_option maxHeartbeats 8000000 in
set_option maxRecDepth 100000 in
theorem thrumref13_Rows.calls  (r : List Int) (w : World) (h : thrumref13_Rows.f  = some r) :
    Calls Try.prog 98 #[] w fun e w' => ∃ v0_ : Value, e = .returned (v0_) ∧ Kd.R (Kd.int .u64) 72 w' w.heap.size (fun _ => True) v0_ r ∧ Below w.heap.size w w' := by
 cases h
 have hm17 : madeCells #[Value.int .u64 0] 17 = (#[.int .u64 0, .int .u64 0, .int .u64 0, .int .u64 0, .int .u64 0, .int .u64 0, .int .u64 0, .int .u64 0, .int .u64 0, .int .u64 0, .int .u64 0, .int .u64 0, .int .u64 0, .int .u64 0, .int .u64 0, .int .u64 0, .int .u64 0] : Array Value) := by kernel_rfl
 have hmk : ∀ w : World, (Instr.makeSlice 100 (.int .i64 17) (.int .i64 17)).run Try.prog w = .ok (.slice (some ⟨w.heap.size, 0, none⟩) 17 17) (w.alloc (.cells #[.int .u64 0, .int .u64 0, .int .u64 0, .int .u64 0, .int .u64 0, .int .u64 0, .int .u64 0, .int .u64 0, .int .u64 0, .int .u64 0, .int .u64 0, .int .u64 0, .int .u64 0, .int .u64 0, .int .u64 0, .int .u64 0, .int .u64 0] 72)) := fun w => by have h := print_make (P := Try.prog) 100 72 .u64 8 Try.underlying100 info72 (by decide) 17 (by decide) w; rw [hm17] at h; exact h
 clear hm17
 have hu1 := Try.underlying100
 have hu2 := Try.underlying102
 go_enter Try.func98, Try.ntmps98
 go_wp2_with fail
 go_loopw [12] (fun v W => ((v = .int .i64 0 ∧ Aside0 (Kd.R (Kd.int .u64) 72 W w.heap.size (fun _ => True) (.slice (some ⟨w.heap.size, 0, none⟩) 17 17) ([1073741824, 0, 0, 0, 0, 0, 0, 0, 0, 0, 0, 0, 0, 0, 0, 0, 536870912] : List Int))) ∨ (v = .int .i64 1 ∧ Aside0 (Kd.R (Kd.int .u64) 72 W w.heap.size (fun _ => True) (.slice (some ⟨w.heap.size, 0, none⟩) 17 17) ([1073741824, 0, 0, 0, 0, 0, 0, 0, 759250124, 0, 0, 0, 0, 0, 0, 0, 536870912] : List Int))) ∨ (v = .int .i64 2 ∧ Aside0 (Kd.R (Kd.int .u64) 72 W w.heap.size (fun _ => True) (.slice (some ⟨w.heap.size, 0, none⟩) 17 17) ([1073741824, 0, 0, 0, 902905650, 0, 0, 0, 759250124, 0, 0, 0, 638450707, 0, 0, 0, 536870912] : List Int))) ∨ (v = .int .i64 3 ∧ Aside0 (Kd.R (Kd.int .u64) 72 W w.heap.size (fun _ => True) (.slice (some ⟨w.heap.size, 0, none⟩) 17 17) ([1073741824, 0, 984625593, 0, 902905650, 0, 827968131, 0, 759250124, 0, 696235433, 0, 638450707, 0, 585461880, 0, 536870912] : List Int))) ∨ (v = .int .i64 4 ∧ Aside0 (Kd.R (Kd.int .u64) 72 W w.heap.size (fun _ => True) (.slice (some ⟨w.heap.size, 0, none⟩) 17 17) ([1073741824, 1028218692, 984625593, 942880698, 902905650, 864625412, 827968131, 792864998, 759250124, 727060409, 696235433, 666717334, 638450707, 611382491, 585461880, 560640217, 536870912] : List Int)))) ∧ Aside0 (Below w.heap.size w W) ∧ Aside0 (W.cell? ⟨w.heap.size + 1, 0, none⟩ = some (.int .i64 8) ∧ W.cell? ⟨w.heap.size + 1, 1, none⟩ = some (.int .i64 4) ∧ W.cell? ⟨w.heap.size + 1, 2, none⟩ = some (.int .i64 2) ∧ W.cell? ⟨w.heap.size + 1, 3, none⟩ = some (.int .i64 1))) (fun v _ => 8 - (intOf v).toNat)
 case atStart => exact ⟨(.inl ⟨rfl, ⟨rrA (arr_R w 72 _ [1073741824, 0, 0, 0, 0, 0, 0, 0, 0, 0, 0, 0, 0, 0, 0, 0, 536870912] rfl rfl) _⟩⟩), ⟨zzA (zzA (Below.refl _ _) _) _⟩, ⟨by simp [go_sem], by simp [go_sem], by simp [go_sem], by simp [go_sem]⟩⟩
 case round =>
  obtain ⟨h, HB, HC⟩ := hrel
  have hc0 := HC.out.1
  have hc1 := HC.out.2.1
  have hc2 := HC.out.2.2.1
  have hc3 := HC.out.2.2.2
  rcases h with ⟨rfl, HO⟩ | ⟨rfl, HO⟩ | ⟨rfl, HO⟩ | ⟨rfl, HO⟩ | ⟨rfl, HO⟩
  · go_wp2_with fail
    go_loopw [4] (fun v W => ((v = .int .i64 8 ∧ Aside0 (Kd.R (Kd.int .u64) 72 W w.heap.size (fun _ => True) (.slice (some ⟨w.heap.size, 0, none⟩) 17 17) ([1073741824, 0, 0, 0, 0, 0, 0, 0, 0, 0, 0, 0, 0, 0, 0, 0, 536870912] : List Int))) ∨ (v = .int .i64 24 ∧ Aside0 (Kd.R (Kd.int .u64) 72 W w.heap.size (fun _ => True) (.slice (some ⟨w.heap.size, 0, none⟩) 17 17) ([1073741824, 0, 0, 0, 0, 0, 0, 0, 759250124, 0, 0, 0, 0, 0, 0, 0, 536870912] : List Int)))) ∧ Aside0 (Below w.heap.size w W) ∧ Aside0 (W.cell? ⟨w.heap.size + 1, 0, none⟩ = some (.int .i64 8) ∧ W.cell? ⟨w.heap.size + 1, 1, none⟩ = some (.int .i64 4) ∧ W.cell? ⟨w.heap.size + 1, 2, none⟩ = some (.int .i64 2) ∧ W.cell? ⟨w.heap.size + 1, 3, none⟩ = some (.int .i64 1))) (fun v _ => 64 - (intOf v).toNat)
    case atStart => exact ⟨(.inl ⟨rfl, HO⟩), HB, HC⟩
    case round =>
     clear HO HB HC hc0 hc1 hc2 hc3
     obtain ⟨h, HB, HC⟩ := hrel
     rcases h with ⟨rfl, HO⟩ | ⟨rfl, HO⟩
     · go_wp2
       have hx0 : wr.cell? ⟨w.heap.size, 0, none⟩ = some (.int .u64 1073741824) := (Kd.R_celln 0 HO.out 0 (by decide) (by decide)).1
       have hx1 : wr.cell? ⟨w.heap.size, 16, none⟩ = some (.int .u64 536870912) := (Kd.R_celln 0 HO.out 16 (by decide) (by decide)).1
       have hx2 : wr.cell? ⟨w.heap.size, 8, none⟩ = some (.int .u64 0) := (Kd.R_celln 0 HO.out 8 (by decide) (by decide)).1
       have hf2 : wr.frozen? ⟨w.heap.size, 8, none⟩ = false := (Kd.R_celln 0 HO.out 8 (by decide) (by decide)).2
       have hw0 : IntKind.i64.wrap 0 = 0 := rfl
       have hw1 : IntKind.i64.wrap 16 = 16 := rfl
       go_region_held3 (fun w' => w'.cell? ⟨w.heap.size, 0, none⟩ = some (.int .u64 1073741824) ∧ w'.cell? ⟨w.heap.size, 16, none⟩ = some (.int .u64 536870912)) (first | go_keep | (exact ⟨cell_set_ne hx0 (by decide), cell_set_ne hx1 (by decide)⟩)) ((go_at_call 101; (with_reducible refine (thrumref13_Root.calls (IntKind.u64.wrap 576460752303423488) 759250124 _ thrumref13_Root.at_576460752303423488).mono ?_); rintro ed W2 ⟨rfl, ⟨nd, rfl⟩⟩))
       go_wp2
       have hb : Below wr.heap.size wr (wr.drewN (1 + nd)) := zzN (Below.refl _ _) _
       have hp := Kd.R_putg (Kd.R_below HO.out hb) 8 759250124
       exact ⟨⟨(.inr ⟨rfl, ⟨hp.1⟩⟩), ⟨below_set (below_then HB.out HB.out.size hb) (Nat.le_refl _)⟩, ⟨cell_set_blk HC.out.1 (by omega), cell_set_blk HC.out.2.1 (by omega), cell_set_blk HC.out.2.2.1 (by omega), cell_set_blk HC.out.2.2.2 (by omega)⟩⟩, by simp [intOf]⟩
     · go_wp2
       exact ⟨⟨(.inr (.inl ⟨rfl, HO⟩)), HB, HC⟩, by simp [intOf]⟩
  · go_wp2_with fail
    go_loopw [4] (fun v W => ((v = .int .i64 4 ∧ Aside0 (Kd.R (Kd.int .u64) 72 W w.heap.size (fun _ => True) (.slice (some ⟨w.heap.size, 0, none⟩) 17 17) ([1073741824, 0, 0, 0, 0, 0, 0, 0, 759250124, 0, 0, 0, 0, 0, 0, 0, 536870912] : List Int))) ∨ (v = .int .i64 12 ∧ Aside0 (Kd.R (Kd.int .u64) 72 W w.heap.size (fun _ => True) (.slice (some ⟨w.heap.size, 0, none⟩) 17 17) ([1073741824, 0, 0, 0, 902905650, 0, 0, 0, 759250124, 0, 0, 0, 0, 0, 0, 0, 536870912] : List Int))) ∨ (v = .int .i64 20 ∧ Aside0 (Kd.R (Kd.int .u64) 72 W w.heap.size (fun _ => True) (.slice (some ⟨w.heap.size, 0, none⟩) 17 17) ([1073741824, 0, 0, 0, 902905650, 0, 0, 0, 759250124, 0, 0, 0, 638450707, 0, 0, 0, 536870912] : List Int)))) ∧ Aside0 (Below w.heap.size w W) ∧ Aside0 (W.cell? ⟨w.heap.size + 1, 0, none⟩ = some (.int .i64 8) ∧ W.cell? ⟨w.heap.size + 1, 1, none⟩ = some (.int .i64 4) ∧ W.cell? ⟨w.heap.size + 1, 2, none⟩ = some (.int .i64 2) ∧ W.cell? ⟨w.heap.size + 1, 3, none⟩ = some (.int .i64 1))) (fun v _ => 64 - (intOf v).toNat)
    case atStart => exact ⟨(.inl ⟨rfl, HO⟩), HB, HC⟩
    case round =>
     clear HO HB HC hc0 hc1 hc2 hc3
     obtain ⟨h, HB, HC⟩ := hrel
     rcases h with ⟨rfl, HO⟩ | ⟨rfl, HO⟩ | ⟨rfl, HO⟩
     · go_wp2
       have hx0 : wr.cell? ⟨w.heap.size, 0, none⟩ = some (.int .u64 1073741824) := (Kd.R_celln 0 HO.out 0 (by decide) (by decide)).1
       have hx1 : wr.cell? ⟨w.heap.size, 8, none⟩ = some (.int .u64 759250124) := (Kd.R_celln 0 HO.out 8 (by decide) (by decide)).1
       have hx2 : wr.cell? ⟨w.heap.size, 4, none⟩ = some (.int .u64 0) := (Kd.R_celln 0 HO.out 4 (by decide) (by decide)).1
       have hf2 : wr.frozen? ⟨w.heap.size, 4, none⟩ = false := (Kd.R_celln 0 HO.out 4 (by decide) (by decide)).2
       have hw0 : IntKind.i64.wrap 0 = 0 := rfl
       have hw1 : IntKind.i64.wrap 8 = 8 := rfl
       go_region_held3 (fun w' => w'.cell? ⟨w.heap.size, 0, none⟩ = some (.int .u64 1073741824) ∧ w'.cell? ⟨w.heap.size, 8, none⟩ = some (.int .u64 759250124)) (first | go_keep | (exact ⟨cell_set_ne hx0 (by decide), cell_set_ne hx1 (by decide)⟩)) ((go_at_call 101; (with_reducible refine (thrumref13_Root.calls (IntKind.u64.wrap 815238613015986176) 902905650 _ thrumref13_Root.at_815238613015986176).mono ?_); rintro ed W2 ⟨rfl, ⟨nd, rfl⟩⟩))
       go_wp2
       have hb : Below wr.heap.size wr (wr.drewN (1 + nd)) := zzN (Below.refl _ _) _
       have hp := Kd.R_putg (Kd.R_below HO.out hb) 4 902905650
       exact ⟨⟨(.inr (.inl ⟨rfl, ⟨hp.1⟩⟩)), ⟨below_set (below_then HB.out HB.out.size hb) (Nat.le_refl _)⟩, ⟨cell_set_blk HC.out.1 (by omega), cell_set_blk HC.out.2.1 (by omega), cell_set_blk HC.out.2.2.1 (by omega), cell_set_blk HC.out.2.2.2 (by omega)⟩⟩, by simp [intOf]⟩
     · go_wp2
       have hx0 : wr.cell? ⟨w.heap.size, 8, none⟩ = some (.int .u64 759250124) := (Kd.R_celln 0 HO.out 8 (by decide) (by decide)).1
       have hx1 : wr.cell? ⟨w.heap.size, 16, none⟩ = some (.int .u64 536870912) := (Kd.R_celln 0 HO.out 16 (by decide) (by decide)).1
       have hx2 : wr.cell? ⟨w.heap.size, 12, none⟩ = some (.int .u64 0) := (Kd.R_celln 0 HO.out 12 (by decide) (by decide)).1
       have hf2 : wr.frozen? ⟨w.heap.size, 12, none⟩ = false := (Kd.R_celln 0 HO.out 12 (by decide) (by decide)).2
       have hw0 : IntKind.i64.wrap 8 = 8 := rfl
       have hw1 : IntKind.i64.wrap 16 = 16 := rfl
       go_region_held3 (fun w' => w'.cell? ⟨w.heap.size, 8, none⟩ = some (.int .u64 759250124) ∧ w'.cell? ⟨w.heap.size, 16, none⟩ = some (.int .u64 536870912)) (first | go_keep | (exact ⟨cell_set_ne hx0 (by decide), cell_set_ne hx1 (by decide)⟩)) ((go_at_call 101; (with_reducible refine (thrumref13_Root.calls (IntKind.u64.wrap 407619306507993088) 638450707 _ thrumref13_Root.at_407619306507993088).mono ?_); rintro ed W2 ⟨rfl, ⟨nd, rfl⟩⟩))
       go_wp2
       have hb : Below wr.heap.size wr (wr.drewN (1 + nd)) := zzN (Below.refl _ _) _
       have hp := Kd.R_putg (Kd.R_below HO.out hb) 12 638450707
       exact ⟨⟨(.inr (.inr ⟨rfl, ⟨hp.1⟩⟩)), ⟨below_set (below_then HB.out HB.out.size hb) (Nat.le_refl _)⟩, ⟨cell_set_blk HC.out.1 (by omega), cell_set_blk HC.out.2.1 (by omega), cell_set_blk HC.out.2.2.1 (by omega), cell_set_blk HC.out.2.2.2 (by omega)⟩⟩, by simp [intOf]⟩
     · go_wp2
       exact ⟨⟨(.inr (.inr (.inl ⟨rfl, HO⟩))), HB, HC⟩, by simp [intOf]⟩
  · go_wp2_with fail
    go_loopw [4] (fun v W => ((v = .int .i64 2 ∧ Aside0 (Kd.R (Kd.int .u64) 72 W w.heap.size (fun _ => True) (.slice (some ⟨w.heap.size, 0, none⟩) 17 17) ([1073741824, 0, 0, 0, 902905650, 0, 0, 0, 759250124, 0, 0, 0, 638450707, 0, 0, 0, 536870912] : List Int))) ∨ (v = .int .i64 6 ∧ Aside0 (Kd.R (Kd.int .u64) 72 W w.heap.size (fun _ => True) (.slice (some ⟨w.heap.size, 0, none⟩) 17 17) ([1073741824, 0, 984625593, 0, 902905650, 0, 0, 0, 759250124, 0, 0, 0, 638450707, 0, 0, 0, 536870912] : List Int))) ∨ (v = .int .i64 10 ∧ Aside0 (Kd.R (Kd.int .u64) 72 W w.heap.size (fun _ => True) (.slice (some ⟨w.heap.size, 0, none⟩) 17 17) ([1073741824, 0, 984625593, 0, 902905650, 0, 827968131, 0, 759250124, 0, 0, 0, 638450707, 0, 0, 0, 536870912] : List Int))) ∨ (v = .int .i64 14 ∧ Aside0 (Kd.R (Kd.int .u64) 72 W w.heap.size (fun _ => True) (.slice (some ⟨w.heap.size, 0, none⟩) 17 17) ([1073741824, 0, 984625593, 0, 902905650, 0, 827968131, 0, 759250124, 0, 696235433, 0, 638450707, 0, 0, 0, 536870912] : List Int))) ∨ (v = .int .i64 18 ∧ Aside0 (Kd.R (Kd.int .u64) 72 W w.heap.size (fun _ => True) (.slice (some ⟨w.heap.size, 0, none⟩) 17 17) ([1073741824, 0, 984625593, 0, 902905650, 0, 827968131, 0, 759250124, 0, 696235433, 0, 638450707, 0, 585461880, 0, 536870912] : List Int)))) ∧ Aside0 (Below w.heap.size w W) ∧ Aside0 (W.cell? ⟨w.heap.size + 1, 0, none⟩ = some (.int .i64 8) ∧ W.cell? ⟨w.heap.size + 1, 1, none⟩ = some (.int .i64 4) ∧ W.cell? ⟨w.heap.size + 1, 2, none⟩ = some (.int .i64 2) ∧ W.cell? ⟨w.heap.size + 1, 3, none⟩ = some (.int .i64 1))) (fun v _ => 64 - (intOf v).toNat)
    case atStart => exact ⟨(.inl ⟨rfl, HO⟩), HB, HC⟩
    case round =>
     clear HO HB HC hc0 hc1 hc2 hc3
     obtain ⟨h, HB, HC⟩ := hrel
     rcases h with ⟨rfl, HO⟩ | ⟨rfl, HO⟩ | ⟨rfl, HO⟩ | ⟨rfl, HO⟩ | ⟨rfl, HO⟩
     · go_wp2
       have hx0 : wr.cell? ⟨w.heap.size, 0, none⟩ = some (.int .u64 1073741824) := (Kd.R_celln 0 HO.out 0 (by decide) (by decide)).1
       have hx1 : wr.cell? ⟨w.heap.size, 4, none⟩ = some (.int .u64 902905650) := (Kd.R_celln 0 HO.out 4 (by decide) (by decide)).1
       have hx2 : wr.cell? ⟨w.heap.size, 2, none⟩ = some (.int .u64 0) := (Kd.R_celln 0 HO.out 2 (by decide) (by decide)).1
       have hf2 : wr.frozen? ⟨w.heap.size, 2, none⟩ = false := (Kd.R_celln 0 HO.out 2 (by decide) (by decide)).2
       have hw0 : IntKind.i64.wrap 0 = 0 := rfl
       have hw1 : IntKind.i64.wrap 4 = 4 := rfl
       go_region_held3 (fun w' => w'.cell? ⟨w.heap.size, 0, none⟩ = some (.int .u64 1073741824) ∧ w'.cell? ⟨w.heap.size, 4, none⟩ = some (.int .u64 902905650)) (first | go_keep | (exact ⟨cell_set_ne hx0 (by decide), cell_set_ne hx1 (by decide)⟩)) ((go_at_call 101; (with_reducible refine (thrumref13_Root.calls (IntKind.u64.wrap 969487559530905600) 984625593 _ thrumref13_Root.at_969487559530905600).mono ?_); rintro ed W2 ⟨rfl, ⟨nd, rfl⟩⟩))
       go_wp2
       have hb : Below wr.heap.size wr (wr.drewN (1 + nd)) := zzN (Below.refl _ _) _
       have hp := Kd.R_putg (Kd.R_below HO.out hb) 2 984625593
       exact ⟨⟨(.inr (.inl ⟨rfl, ⟨hp.1⟩⟩)), ⟨below_set (below_then HB.out HB.out.size hb) (Nat.le_refl _)⟩, ⟨cell_set_blk HC.out.1 (by omega), cell_set_blk HC.out.2.1 (by omega), cell_set_blk HC.out.2.2.1 (by omega), cell_set_blk HC.out.2.2.2 (by omega)⟩⟩, by simp [intOf]⟩
     · go_wp2
       have hx0 : wr.cell? ⟨w.heap.size, 4, none⟩ = some (.int .u64 902905650) := (Kd.R_celln 0 HO.out 4 (by decide) (by decide)).1
       have hx1 : wr.cell? ⟨w.heap.size, 8, none⟩ = some (.int .u64 759250124) := (Kd.R_celln 0 HO.out 8 (by decide) (by decide)).1
       have hx2 : wr.cell? ⟨w.heap.size, 6, none⟩ = some (.int .u64 0) := (Kd.R_celln 0 HO.out 6 (by decide) (by decide)).1
       have hf2 : wr.frozen? ⟨w.heap.size, 6, none⟩ = false := (Kd.R_celln 0 HO.out 6 (by decide) (by decide)).2
       have hw0 : IntKind.i64.wrap 4 = 4 := rfl
       have hw1 : IntKind.i64.wrap 8 = 8 := rfl
       go_region_held3 (fun w' => w'.cell? ⟨w.heap.size, 4, none⟩ = some (.int .u64 902905650) ∧ w'.cell? ⟨w.heap.size, 8, none⟩ = some (.int .u64 759250124)) (first | go_keep | (exact ⟨cell_set_ne hx0 (by decide), cell_set_ne hx1 (by decide)⟩)) ((go_at_call 101; (with_reducible refine (thrumref13_Root.calls (IntKind.u64.wrap 685531226722800600) 827968131 _ thrumref13_Root.at_685531226722800600).mono ?_); rintro ed W2 ⟨rfl, ⟨nd, rfl⟩⟩))
       go_wp2
       have hb : Below wr.heap.size wr (wr.drewN (1 + nd)) := zzN (Below.refl _ _) _
       have hp := Kd.R_putg (Kd.R_below HO.out hb) 6 827968131
       exact ⟨⟨(.inr (.inr (.inl ⟨rfl, ⟨hp.1⟩⟩))), ⟨below_set (below_then HB.out HB.out.size hb) (Nat.le_refl _)⟩, ⟨cell_set_blk HC.out.1 (by omega), cell_set_blk HC.out.2.1 (by omega), cell_set_blk HC.out.2.2.1 (by omega), cell_set_blk HC.out.2.2.2 (by omega)⟩⟩, by simp [intOf]⟩
     · go_wp2
       have hx0 : wr.cell? ⟨w.heap.size, 8, none⟩ = some (.int .u64 759250124) := (Kd.R_celln 0 HO.out 8 (by decide) (by decide)).1
       have hx1 : wr.cell? ⟨w.heap.size, 12, none⟩ = some (.int .u64 638450707) := (Kd.R_celln 0 HO.out 12 (by decide) (by decide)).1
       have hx2 : wr.cell? ⟨w.heap.size, 10, none⟩ = some (.int .u64 0) := (Kd.R_celln 0 HO.out 10 (by decide) (by decide)).1
       have hf2 : wr.frozen? ⟨w.heap.size, 10, none⟩ = false := (Kd.R_celln 0 HO.out 10 (by decide) (by decide)).2
       have hw0 : IntKind.i64.wrap 8 = 8 := rfl
       have hw1 : IntKind.i64.wrap 12 = 12 := rfl
       go_region_held3 (fun w' => w'.cell? ⟨w.heap.size, 8, none⟩ = some (.int .u64 759250124) ∧ w'.cell? ⟨w.heap.size, 12, none⟩ = some (.int .u64 638450707)) (first | go_keep | (exact ⟨cell_set_ne hx0 (by decide), cell_set_ne hx1 (by decide)⟩)) ((go_at_call 101; (with_reducible refine (thrumref13_Root.calls (IntKind.u64.wrap 484743778457637668) 696235433 _ thrumref13_Root.at_484743778457637668).mono ?_); rintro ed W2 ⟨rfl, ⟨nd, rfl⟩⟩))
       go_wp2
       have hb : Below wr.heap.size wr (wr.drewN (1 + nd)) := zzN (Below.refl _ _) _
       have hp := Kd.R_putg (Kd.R_below HO.out hb) 10 696235433
       exact ⟨⟨(.inr (.inr (.inr (.inl ⟨rfl, ⟨hp.1⟩⟩)))), ⟨below_set (below_then HB.out HB.out.size hb) (Nat.le_refl _)⟩, ⟨cell_set_blk HC.out.1 (by omega), cell_set_blk HC.out.2.1 (by omega), cell_set_blk HC.out.2.2.1 (by omega), cell_set_blk HC.out.2.2.2 (by omega)⟩⟩, by simp [intOf]⟩
     · go_wp2
       have hx0 : wr.cell? ⟨w.heap.size, 12, none⟩ = some (.int .u64 638450707) := (Kd.R_celln 0 HO.out 12 (by decide) (by decide)).1
       have hx1 : wr.cell? ⟨w.heap.size, 16, none⟩ = some (.int .u64 536870912) := (Kd.R_celln 0 HO.out 16 (by decide) (by decide)).1
       have hx2 : wr.cell? ⟨w.heap.size, 14, none⟩ = some (.int .u64 0) := (Kd.R_celln 0 HO.out 14 (by decide) (by decide)).1
       have hf2 : wr.frozen? ⟨w.heap.size, 14, none⟩ = false := (Kd.R_celln 0 HO.out 14 (by decide) (by decide)).2
       have hw0 : IntKind.i64.wrap 12 = 12 := rfl
       have hw1 : IntKind.i64.wrap 16 = 16 := rfl
       go_region_held3 (fun w' => w'.cell? ⟨w.heap.size, 12, none⟩ = some (.int .u64 638450707) ∧ w'.cell? ⟨w.heap.size, 16, none⟩ = some (.int .u64 536870912)) (first | go_keep | (exact ⟨cell_set_ne hx0 (by decide), cell_set_ne hx1 (by decide)⟩)) ((go_at_call 101; (with_reducible refine (thrumref13_Root.calls (IntKind.u64.wrap 342765613334134784) 585461880 _ thrumref13_Root.at_342765613334134784).mono ?_); rintro ed W2 ⟨rfl, ⟨nd, rfl⟩⟩))
       go_wp2
       have hb : Below wr.heap.size wr (wr.drewN (1 + nd)) := zzN (Below.refl _ _) _
       have hp := Kd.R_putg (Kd.R_below HO.out hb) 14 585461880
       exact ⟨⟨(.inr (.inr (.inr (.inr ⟨rfl, ⟨hp.1⟩⟩)))), ⟨below_set (below_then HB.out HB.out.size hb) (Nat.le_refl _)⟩, ⟨cell_set_blk HC.out.1 (by omega), cell_set_blk HC.out.2.1 (by omega), cell_set_blk HC.out.2.2.1 (by omega), cell_set_blk HC.out.2.2.2 (by omega)⟩⟩, by simp [intOf]⟩
     · go_wp2
       exact ⟨⟨(.inr (.inr (.inr (.inl ⟨rfl, HO⟩)))), HB, HC⟩, by simp [intOf]⟩
  · go_wp2_with fail
    go_loopw [4] (fun v W => ((v = .int .i64 1 ∧ Aside0 (Kd.R (Kd.int .u64) 72 W w.heap.size (fun _ => True) (.slice (some ⟨w.heap.size, 0, none⟩) 17 17) ([1073741824, 0, 984625593, 0, 902905650, 0, 827968131, 0, 759250124, 0, 696235433, 0, 638450707, 0, 585461880, 0, 536870912] : List Int))) ∨ (v = .int .i64 3 ∧ Aside0 (Kd.R (Kd.int .u64) 72 W w.heap.size (fun _ => True) (.slice (some ⟨w.heap.size, 0, none⟩) 17 17) ([1073741824, 1028218692, 984625593, 0, 902905650, 0, 827968131, 0, 759250124, 0, 696235433, 0, 638450707, 0, 585461880, 0, 536870912] : List Int))) ∨ (v = .int .i64 5 ∧ Aside0 (Kd.R (Kd.int .u64) 72 W w.heap.size (fun _ => True) (.slice (some ⟨w.heap.size, 0, none⟩) 17 17) ([1073741824, 1028218692, 984625593, 942880698, 902905650, 0, 827968131, 0, 759250124, 0, 696235433, 0, 638450707, 0, 585461880, 0, 536870912] : List Int))) ∨ (v = .int .i64 7 ∧ Aside0 (Kd.R (Kd.int .u64) 72 W w.heap.size (fun _ => True) (.slice (some ⟨w.heap.size, 0, none⟩) 17 17) ([1073741824, 1028218692, 984625593, 942880698, 902905650, 864625412, 827968131, 0, 759250124, 0, 696235433, 0, 638450707, 0, 585461880, 0, 536870912] : List Int))) ∨ (v = .int .i64 9 ∧ Aside0 (Kd.R (Kd.int .u64) 72 W w.heap.size (fun _ => True) (.slice (some ⟨w.heap.size, 0, none⟩) 17 17) ([1073741824, 1028218692, 984625593, 942880698, 902905650, 864625412, 827968131, 792864998, 759250124, 0, 696235433, 0, 638450707, 0, 585461880, 0, 536870912] : List Int))) ∨ (v = .int .i64 11 ∧ Aside0 (Kd.R (Kd.int .u64) 72 W w.heap.size (fun _ => True) (.slice (some ⟨w.heap.size, 0, none⟩) 17 17) ([1073741824, 1028218692, 984625593, 942880698, 902905650, 864625412, 827968131, 792864998, 759250124, 727060409, 696235433, 0, 638450707, 0, 585461880, 0, 536870912] : List Int))) ∨ (v = .int .i64 13 ∧ Aside0 (Kd.R (Kd.int .u64) 72 W w.heap.size (fun _ => True) (.slice (some ⟨w.heap.size, 0, none⟩) 17 17) ([1073741824, 1028218692, 984625593, 942880698, 902905650, 864625412, 827968131, 792864998, 759250124, 727060409, 696235433, 666717334, 638450707, 0, 585461880, 0, 536870912] : List Int))) ∨ (v = .int .i64 15 ∧ Aside0 (Kd.R (Kd.int .u64) 72 W w.heap.size (fun _ => True) (.slice (some ⟨w.heap.size, 0, none⟩) 17 17) ([1073741824, 1028218692, 984625593, 942880698, 902905650, 864625412, 827968131, 792864998, 759250124, 727060409, 696235433, 666717334, 638450707, 611382491, 585461880, 0, 536870912] : List Int))) ∨ (v = .int .i64 17 ∧ Aside0 (Kd.R (Kd.int .u64) 72 W w.heap.size (fun _ => True) (.slice (some ⟨w.heap.size, 0, none⟩) 17 17) ([1073741824, 1028218692, 984625593, 942880698, 902905650, 864625412, 827968131, 792864998, 759250124, 727060409, 696235433, 666717334, 638450707, 611382491, 585461880, 560640217, 536870912] : List Int)))) ∧ Aside0 (Below w.heap.size w W) ∧ Aside0 (W.cell? ⟨w.heap.size + 1, 0, none⟩ = some (.int .i64 8) ∧ W.cell? ⟨w.heap.size + 1, 1, none⟩ = some (.int .i64 4) ∧ W.cell? ⟨w.heap.size + 1, 2, none⟩ = some (.int .i64 2) ∧ W.cell? ⟨w.heap.size + 1, 3, none⟩ = some (.int .i64 1))) (fun v _ => 64 - (intOf v).toNat)
    case atStart => exact ⟨(.inl ⟨rfl, HO⟩), HB, HC⟩
    case round =>
     clear HO HB HC hc0 hc1 hc2 hc3
     obtain ⟨h, HB, HC⟩ := hrel
     rcases h with ⟨rfl, HO⟩ | ⟨rfl, HO⟩ | ⟨rfl, HO⟩ | ⟨rfl, HO⟩ | ⟨rfl, HO⟩ | ⟨rfl, HO⟩ | ⟨rfl, HO⟩ | ⟨rfl, HO⟩ | ⟨rfl, HO⟩
     · go_wp2
       have hx0 : wr.cell? ⟨w.heap.size, 0, none⟩ = some (.int .u64 1073741824) := (Kd.R_celln 0 HO.out 0 (by decide) (by decide)).1
       have hx1 : wr.cell? ⟨w.heap.size, 2, none⟩ = some (.int .u64 984625593) := (Kd.R_celln 0 HO.out 2 (by decide) (by decide)).1
       have hx2 : wr.cell? ⟨w.heap.size, 1, none⟩ = some (.int .u64 0) := (Kd.R_celln 0 HO.out 1 (by decide) (by decide)).1
       have hf2 : wr.frozen? ⟨w.heap.size, 1, none⟩ = false := (Kd.R_celln 0 HO.out 1 (by decide) (by decide)).2
       have hw0 : IntKind.i64.wrap 0 = 0 := rfl
       have hw1 : IntKind.i64.wrap 2 = 2 := rfl
       go_region_held3 (fun w' => w'.cell? ⟨w.heap.size, 0, none⟩ = some (.int .u64 1073741824) ∧ w'.cell? ⟨w.heap.size, 2, none⟩ = some (.int .u64 984625593)) (first | go_keep | (exact ⟨cell_set_ne hx0 (by decide), cell_set_ne hx1 (by decide)⟩)) ((go_at_call 101; (with_reducible refine (thrumref13_Root.calls (IntKind.u64.wrap 1057233680184901632) 1028218692 _ thrumref13_Root.at_1057233680184901632).mono ?_); rintro ed W2 ⟨rfl, ⟨nd, rfl⟩⟩))
       go_wp2
       have hb : Below wr.heap.size wr (wr.drewN (1 + nd)) := zzN (Below.refl _ _) _
       have hp := Kd.R_putg (Kd.R_below HO.out hb) 1 1028218692
       exact ⟨⟨(.inr (.inl ⟨rfl, ⟨hp.1⟩⟩)), ⟨below_set (below_then HB.out HB.out.size hb) (Nat.le_refl _)⟩, ⟨cell_set_blk HC.out.1 (by omega), cell_set_blk HC.out.2.1 (by omega), cell_set_blk HC.out.2.2.1 (by omega), cell_set_blk HC.out.2.2.2 (by omega)⟩⟩, by simp [intOf]⟩
     · go_wp2
       have hx0 : wr.cell? ⟨w.heap.size, 2, none⟩ = some (.int .u64 984625593) := (Kd.R_celln 0 HO.out 2 (by decide) (by decide)).1
       have hx1 : wr.cell? ⟨w.heap.size, 4, none⟩ = some (.int .u64 902905650) := (Kd.R_celln 0 HO.out 4 (by decide) (by decide)).1
       have hx2 : wr.cell? ⟨w.heap.size, 3, none⟩ = some (.int .u64 0) := (Kd.R_celln 0 HO.out 3 (by decide) (by decide)).1
       have hf2 : wr.frozen? ⟨w.heap.size, 3, none⟩ = false := (Kd.R_celln 0 HO.out 3 (by decide) (by decide)).2
       have hw0 : IntKind.i64.wrap 2 = 2 := rfl
       have hw1 : IntKind.i64.wrap 4 = 4 := rfl
       go_region_held3 (fun w' => w'.cell? ⟨w.heap.size, 2, none⟩ = some (.int .u64 984625593) ∧ w'.cell? ⟨w.heap.size, 4, none⟩ = some (.int .u64 902905650)) (first | go_keep | (exact ⟨cell_set_ne hx0 (by decide), cell_set_ne hx1 (by decide)⟩)) ((go_at_call 101; (with_reducible refine (thrumref13_Root.calls (IntKind.u64.wrap 889024011054300450) 942880698 _ thrumref13_Root.at_889024011054300450).mono ?_); rintro ed W2 ⟨rfl, ⟨nd, rfl⟩⟩))
       go_wp2
       have hb : Below wr.heap.size wr (wr.drewN (1 + nd)) := zzN (Below.refl _ _) _
       have hp := Kd.R_putg (Kd.R_below HO.out hb) 3 942880698
       exact ⟨⟨(.inr (.inr (.inl ⟨rfl, ⟨hp.1⟩⟩))), ⟨below_set (below_then HB.out HB.out.size hb) (Nat.le_refl _)⟩, ⟨cell_set_blk HC.out.1 (by omega), cell_set_blk HC.out.2.1 (by omega), cell_set_blk HC.out.2.2.1 (by omega), cell_set_blk HC.out.2.2.2 (by omega)⟩⟩, by simp [intOf]⟩
     · go_wp2
       have hx0 : wr.cell? ⟨w.heap.size, 4, none⟩ = some (.int .u64 902905650) := (Kd.R_celln 0 HO.out 4 (by decide) (by decide)).1
       have hx1 : wr.cell? ⟨w.heap.size, 6, none⟩ = some (.int .u64 827968131) := (Kd.R_celln 0 HO.out 6 (by decide) (by decide)).1
       have hx2 : wr.cell? ⟨w.heap.size, 5, none⟩ = some (.int .u64 0) := (Kd.R_celln 0 HO.out 5 (by decide) (by decide)).1
       have hf2 : wr.frozen? ⟨w.heap.size, 5, none⟩ = false := (Kd.R_celln 0 HO.out 5 (by decide) (by decide)).2
       have hw0 : IntKind.i64.wrap 4 = 4 := rfl
       have hw1 : IntKind.i64.wrap 6 = 6 := rfl
       go_region_held3 (fun w' => w'.cell? ⟨w.heap.size, 4, none⟩ = some (.int .u64 902905650) ∧ w'.cell? ⟨w.heap.size, 6, none⟩ = some (.int .u64 827968131)) (first | go_keep | (exact ⟨cell_set_ne hx0 (by decide), cell_set_ne hx1 (by decide)⟩)) ((go_at_call 101; (with_reducible refine (thrumref13_Root.calls (IntKind.u64.wrap 747577103499840150) 864625412 _ thrumref13_Root.at_747577103499840150).mono ?_); rintro ed W2 ⟨rfl, ⟨nd, rfl⟩⟩))
       go_wp2
       have hb : Below wr.heap.size wr (wr.drewN (1 + nd)) := zzN (Below.refl _ _) _
       have hp := Kd.R_putg (Kd.R_below HO.out hb) 5 864625412
       exact ⟨⟨(.inr (.inr (.inr (.inl ⟨rfl, ⟨hp.1⟩⟩)))), ⟨below_set (below_then HB.out HB.out.size hb) (Nat.le_refl _)⟩, ⟨cell_set_blk HC.out.1 (by omega), cell_set_blk HC.out.2.1 (by omega), cell_set_blk HC.out.2.2.1 (by omega), cell_set_blk HC.out.2.2.2 (by omega)⟩⟩, by simp [intOf]⟩
     · go_wp2
       have hx0 : wr.cell? ⟨w.heap.size, 6, none⟩ = some (.int .u64 827968131) := (Kd.R_celln 0 HO.out 6 (by decide) (by decide)).1
       have hx1 : wr.cell? ⟨w.heap.size, 8, none⟩ = some (.int .u64 759250124) := (Kd.R_celln 0 HO.out 8 (by decide) (by decide)).1
       have hx2 : wr.cell? ⟨w.heap.size, 7, none⟩ = some (.int .u64 0) := (Kd.R_celln 0 HO.out 7 (by decide) (by decide)).1
       have hf2 : wr.frozen? ⟨w.heap.size, 7, none⟩ = false := (Kd.R_celln 0 HO.out 7 (by decide) (by decide)).2
       have hw0 : IntKind.i64.wrap 6 = 6 := rfl
       have hw1 : IntKind.i64.wrap 8 = 8 := rfl
       go_region_held3 (fun w' => w'.cell? ⟨w.heap.size, 6, none⟩ = some (.int .u64 827968131) ∧ w'.cell? ⟨w.heap.size, 8, none⟩ = some (.int .u64 759250124)) (first | go_keep | (exact ⟨cell_set_ne hx0 (by decide), cell_set_ne hx1 (by decide)⟩)) ((go_at_call 101; (with_reducible refine (thrumref13_Root.calls (IntKind.u64.wrap 628634906129798244) 792864998 _ thrumref13_Root.at_628634906129798244).mono ?_); rintro ed W2 ⟨rfl, ⟨nd, rfl⟩⟩))
       go_wp2
       have hb : Below wr.heap.size wr (wr.drewN (1 + nd)) := zzN (Below.refl _ _) _
       have hp := Kd.R_putg (Kd.R_below HO.out hb) 7 792864998
       exact ⟨⟨(.inr (.inr (.inr (.inr (.inl ⟨rfl, ⟨hp.1⟩⟩))))), ⟨below_set (below_then HB.out HB.out.size hb) (Nat.le_refl _)⟩, ⟨cell_set_blk HC.out.1 (by omega), cell_set_blk HC.out.2.1 (by omega), cell_set_blk HC.out.2.2.1 (by omega), cell_set_blk HC.out.2.2.2 (by omega)⟩⟩, by simp [intOf]⟩
     · go_wp2
       have hx0 : wr.cell? ⟨w.heap.size, 8, none⟩ = some (.int .u64 759250124) := (Kd.R_celln 0 HO.out 8 (by decide) (by decide)).1
       have hx1 : wr.cell? ⟨w.heap.size, 10, none⟩ = some (.int .u64 696235433) := (Kd.R_celln 0 HO.out 10 (by decide) (by decide)).1
       have hx2 : wr.cell? ⟨w.heap.size, 9, none⟩ = some (.int .u64 0) := (Kd.R_celln 0 HO.out 9 (by decide) (by decide)).1
       have hf2 : wr.frozen? ⟨w.heap.size, 9, none⟩ = false := (Kd.R_celln 0 HO.out 9 (by decide) (by decide)).2
       have hw0 : IntKind.i64.wrap 8 = 8 := rfl
       have hw1 : IntKind.i64.wrap 10 = 10 := rfl
       go_region_held3 (fun w' => w'.cell? ⟨w.heap.size, 8, none⟩ = some (.int .u64 759250124) ∧ w'.cell? ⟨w.heap.size, 10, none⟩ = some (.int .u64 696235433)) (first | go_keep | (exact ⟨cell_set_ne hx0 (by decide), cell_set_ne hx1 (by decide)⟩)) ((go_at_call 101; (with_reducible refine (thrumref13_Root.calls (IntKind.u64.wrap 528616838838443692) 727060409 _ thrumref13_Root.at_528616838838443692).mono ?_); rintro ed W2 ⟨rfl, ⟨nd, rfl⟩⟩))
       go_wp2
       have hb : Below wr.heap.size wr (wr.drewN (1 + nd)) := zzN (Below.refl _ _) _
       have hp := Kd.R_putg (Kd.R_below HO.out hb) 9 727060409
       exact ⟨⟨(.inr (.inr (.inr (.inr (.inr (.inl ⟨rfl, ⟨hp.1⟩⟩)))))), ⟨below_set (below_then HB.out HB.out.size hb) (Nat.le_refl _)⟩, ⟨cell_set_blk HC.out.1 (by omega), cell_set_blk HC.out.2.1 (by omega), cell_set_blk HC.out.2.2.1 (by omega), cell_set_blk HC.out.2.2.2 (by omega)⟩⟩, by simp [intOf]⟩
     · go_wp2
       have hx0 : wr.cell? ⟨w.heap.size, 10, none⟩ = some (.int .u64 696235433) := (Kd.R_celln 0 HO.out 10 (by decide) (by decide)).1
       have hx1 : wr.cell? ⟨w.heap.size, 12, none⟩ = some (.int .u64 638450707) := (Kd.R_celln 0 HO.out 12 (by decide) (by decide)).1
       have hx2 : wr.cell? ⟨w.heap.size, 11, none⟩ = some (.int .u64 0) := (Kd.R_celln 0 HO.out 11 (by decide) (by decide)).1
       have hf2 : wr.frozen? ⟨w.heap.size, 11, none⟩ = false := (Kd.R_celln 0 HO.out 11 (by decide) (by decide)).2
       have hw0 : IntKind.i64.wrap 10 = 10 := rfl
       have hw1 : IntKind.i64.wrap 12 = 12 := rfl
       go_region_held3 (fun w' => w'.cell? ⟨w.heap.size, 10, none⟩ = some (.int .u64 696235433) ∧ w'.cell? ⟨w.heap.size, 12, none⟩ = some (.int .u64 638450707)) (first | go_keep | (exact ⟨cell_set_ne hx0 (by decide), cell_set_ne hx1 (by decide)⟩)) ((go_at_call 101; (with_reducible refine (thrumref13_Root.calls (IntKind.u64.wrap 444512004437301131) 666717334 _ thrumref13_Root.at_444512004437301131).mono ?_); rintro ed W2 ⟨rfl, ⟨nd, rfl⟩⟩))
       go_wp2
       have hb : Below wr.heap.size wr (wr.drewN (1 + nd)) := zzN (Below.refl _ _) _
       have hp := Kd.R_putg (Kd.R_below HO.out hb) 11 666717334
       exact ⟨⟨(.inr (.inr (.inr (.inr (.inr (.inr (.inl ⟨rfl, ⟨hp.1⟩⟩))))))), ⟨below_set (below_then HB.out HB.out.size hb) (Nat.le_refl _)⟩, ⟨cell_set_blk HC.out.1 (by omega), cell_set_blk HC.out.2.1 (by omega), cell_set_blk HC.out.2.2.1 (by omega), cell_set_blk HC.out.2.2.2 (by omega)⟩⟩, by simp [intOf]⟩
     · go_wp2
       have hx0 : wr.cell? ⟨w.heap.size, 12, none⟩ = some (.int .u64 638450707) := (Kd.R_celln 0 HO.out 12 (by decide) (by decide)).1
       have hx1 : wr.cell? ⟨w.heap.size, 14, none⟩ = some (.int .u64 585461880) := (Kd.R_celln 0 HO.out 14 (by decide) (by decide)).1
       have hx2 : wr.cell? ⟨w.heap.size, 13, none⟩ = some (.int .u64 0) := (Kd.R_celln 0 HO.out 13 (by decide) (by decide)).1
       have hf2 : wr.frozen? ⟨w.heap.size, 13, none⟩ = false := (Kd.R_celln 0 HO.out 13 (by decide) (by decide)).2
       have hw0 : IntKind.i64.wrap 12 = 12 := rfl
       have hw1 : IntKind.i64.wrap 14 = 14 := rfl
       go_region_held3 (fun w' => w'.cell? ⟨w.heap.size, 12, none⟩ = some (.int .u64 638450707) ∧ w'.cell? ⟨w.heap.size, 14, none⟩ = some (.int .u64 585461880)) (first | go_keep | (exact ⟨cell_set_ne hx0 (by decide), cell_set_ne hx1 (by decide)⟩)) ((go_at_call 101; (with_reducible refine (thrumref13_Root.calls (IntKind.u64.wrap 373788551207549160) 611382491 _ thrumref13_Root.at_373788551207549160).mono ?_); rintro ed W2 ⟨rfl, ⟨nd, rfl⟩⟩))
       go_wp2
       have hb : Below wr.heap.size wr (wr.drewN (1 + nd)) := zzN (Below.refl _ _) _
       have hp := Kd.R_putg (Kd.R_below HO.out hb) 13 611382491
       exact ⟨⟨(.inr (.inr (.inr (.inr (.inr (.inr (.inr (.inl ⟨rfl, ⟨hp.1⟩⟩)))))))), ⟨below_set (below_then HB.out HB.out.size hb) (Nat.le_refl _)⟩, ⟨cell_set_blk HC.out.1 (by omega), cell_set_blk HC.out.2.1 (by omega), cell_set_blk HC.out.2.2.1 (by omega), cell_set_blk HC.out.2.2.2 (by omega)⟩⟩, by simp [intOf]⟩
     · go_wp2
       have hx0 : wr.cell? ⟨w.heap.size, 14, none⟩ = some (.int .u64 585461880) := (Kd.R_celln 0 HO.out 14 (by decide) (by decide)).1
       have hx1 : wr.cell? ⟨w.heap.size, 16, none⟩ = some (.int .u64 536870912) := (Kd.R_celln 0 HO.out 16 (by decide) (by decide)).1
       have hx2 : wr.cell? ⟨w.heap.size, 15, none⟩ = some (.int .u64 0) := (Kd.R_celln 0 HO.out 15 (by decide) (by decide)).1
       have hf2 : wr.frozen? ⟨w.heap.size, 15, none⟩ = false := (Kd.R_celln 0 HO.out 15 (by decide) (by decide)).2
       have hw0 : IntKind.i64.wrap 14 = 14 := rfl
       have hw1 : IntKind.i64.wrap 16 = 16 := rfl
       go_region_held3 (fun w' => w'.cell? ⟨w.heap.size, 14, none⟩ = some (.int .u64 585461880) ∧ w'.cell? ⟨w.heap.size, 16, none⟩ = some (.int .u64 536870912)) (first | go_keep | (exact ⟨cell_set_ne hx0 (by decide), cell_set_ne hx1 (by decide)⟩)) ((go_at_call 101; (with_reducible refine (thrumref13_Root.calls (IntKind.u64.wrap 314317453456834560) 560640217 _ thrumref13_Root.at_314317453456834560).mono ?_); rintro ed W2 ⟨rfl, ⟨nd, rfl⟩⟩))
       go_wp2
       have hb : Below wr.heap.size wr (wr.drewN (1 + nd)) := zzN (Below.refl _ _) _
       have hp := Kd.R_putg (Kd.R_below HO.out hb) 15 560640217
       exact ⟨⟨(.inr (.inr (.inr (.inr (.inr (.inr (.inr (.inr ⟨rfl, ⟨hp.1⟩⟩)))))))), ⟨below_set (below_then HB.out HB.out.size hb) (Nat.le_refl _)⟩, ⟨cell_set_blk HC.out.1 (by omega), cell_set_blk HC.out.2.1 (by omega), cell_set_blk HC.out.2.2.1 (by omega), cell_set_blk HC.out.2.2.2 (by omega)⟩⟩, by simp [intOf]⟩
     · go_wp2
       exact ⟨⟨(.inr (.inr (.inr (.inr ⟨rfl, HO⟩)))), HB, HC⟩, by simp [intOf]⟩
  · go_wp2
    go_ret
    exact ⟨_, rfl, HO.out, HB.out⟩
end Go.Proofs.Ytgilbdpbfmpcpaa.HS
