/- What Go functions do, each as a plain Lean function with the same answers, and the proof of it, in every world: printed by the session's driver over the kit's print, with texts by hand. -/
import Derived.Test.YtihgcjagokippaaHSx0
import Derived.Test.YtihgcjagokippaaMini
namespace Go.Proofs.Ytihgcjagokippaa.HS
open Go.RowKit Go.Proofs.YtihgcjagokippaaW.PrintWords Go.Proofs.YtihgcjagokippaaW.PrintLast Go.Proofs.YtihgcjagokippaaW.PrintMore
attribute [local go_sem] max2_int min2_int max_two min_two max_three min_three max_four min_four   -- for this text's walks alone
open Go.Proofs.Ytihgcjagokippaa.Sp
attribute [local go_sem] Go.Proofs.Ytihgcjagokippaa.Sp.u64_not
set_option linter.unusedVariables false
set_option linter.unusedSimpArgs false

/-! ### thrumref01_AddP: function 64 -/
def thrumref01_AddP.f (a0 : Int) (a1 : Int) : Option (Int × Int) := if a1 > 0 then (if a0 > (wrap64 (9223372036854775807 - a1)) then (some (0, 2)) else (if a1 < 0 then (if a0 < (wrap64 ((-9223372036854775808) - a1)) then (some (0, 2)) else (some (wrap64 (a0 + a1), 0))) else (some (wrap64 (a0 + a1), 0)))) else (if a1 < 0 then (if a0 < (wrap64 ((-9223372036854775808) - a1)) then (some (0, 2)) else (some (wrap64 (a0 + a1), 0))) else (some (wrap64 (a0 + a1), 0)))
set_option maxHeartbeats 8000000 in
set_option maxRecDepth 100000 in
theorem thrumref01_AddP.calls (a0 : Int) (a1 : Int) (r1 : Int) (r2 : Int) (w : World) (h : thrumref01_AddP.f a0 a1 = some (r1, r2)) :
  Calls Try.prog 64 #[.int .i64 a0, .int .i64 a1] w fun e w' => e = .returned (.tuple #[.int .i64 r1, .int .i64 r2]) ∧ Drawn0 w w' := by
 have H : (if a1 > 0 then (if a0 > (wrap64 (9223372036854775807 - a1)) then (some (0, 2)) else (if a1 < 0 then (if a0 < (wrap64 ((-9223372036854775808) - a1)) then (some (0, 2)) else (some (wrap64 (a0 + a1), 0))) else (some (wrap64 (a0 + a1), 0)))) else (if a1 < 0 then (if a0 < (wrap64 ((-9223372036854775808) - a1)) then (some (0, 2)) else (some (wrap64 (a0 + a1), 0))) else (some (wrap64 (a0 + a1), 0)))) = some (r1, r2) := h
 clear h
 by_cases c3 : a1 > 0
 case neg =>
  rw [if_neg c3] at H
  have c3b0 : decide (0 < a1) = false := decide_eq_false c3
  clear c3
  by_cases c7 : a1 < 0
  case neg =>
   rw [if_neg c7] at H
   have c7b0 : decide (a1 < 0) = false := decide_eq_false c7
   clear c7
   simp only [Option.some.injEq, Prod.mk.injEq] at H
   obtain ⟨rfl, rfl⟩ := H
   go_enter Try.func64, Try.ntmps64
   go_wp2
   go_ret2
   exact ⟨by first | rfl | (simp; done) | (simp [*]; done), by repeat (first | exact ddR _ | apply ddS)⟩
  rw [if_pos c7] at H
  have c7b0 : decide (a1 < 0) = true := decide_eq_true c7
  clear c7
  by_cases c8 : a0 < (wrap64 ((-9223372036854775808) - a1))
  case neg =>
   rw [if_neg c8] at H
   have c8b0 : decide (a0 < (wrap64 ((-9223372036854775808) - a1))) = false := decide_eq_false c8
   clear c8
   simp only [Option.some.injEq, Prod.mk.injEq] at H
   obtain ⟨rfl, rfl⟩ := H
   go_enter Try.func64, Try.ntmps64
   go_wp2
   go_ret2
   exact ⟨by first | rfl | (simp; done) | (simp [*]; done), by repeat (first | exact ddR _ | apply ddS)⟩
  rw [if_pos c8] at H
  have c8b0 : decide (a0 < (wrap64 ((-9223372036854775808) - a1))) = true := decide_eq_true c8
  clear c8
  simp only [Option.some.injEq, Prod.mk.injEq] at H
  obtain ⟨rfl, rfl⟩ := H
  go_enter Try.func64, Try.ntmps64
  go_wp2
  go_ret2
  exact ⟨by first | rfl | (simp; done) | (simp [*]; done), by repeat (first | exact ddR _ | apply ddS)⟩
 rw [if_pos c3] at H
 have c3b0 : decide (0 < a1) = true := decide_eq_true c3
 clear c3
 by_cases c4 : a0 > (wrap64 (9223372036854775807 - a1))
 ·
  rw [if_pos c4] at H
  have c4b0 : decide ((wrap64 (9223372036854775807 - a1)) < a0) = true := decide_eq_true c4
  clear c4
  simp only [Option.some.injEq, Prod.mk.injEq] at H
  obtain ⟨rfl, rfl⟩ := H
  go_enter Try.func64, Try.ntmps64
  go_wp2
  go_ret2
  exact ⟨by first | rfl | (simp; done) | (simp [*]; done), by repeat (first | exact ddR _ | apply ddS)⟩
 rw [if_neg c4] at H
 have c4b0 : decide ((wrap64 (9223372036854775807 - a1)) < a0) = false := decide_eq_false c4
 clear c4
 by_cases c5 : a1 < 0
 case neg =>
  rw [if_neg c5] at H
  have c5b0 : decide (a1 < 0) = false := decide_eq_false c5
  clear c5
  simp only [Option.some.injEq, Prod.mk.injEq] at H
  obtain ⟨rfl, rfl⟩ := H
  go_enter Try.func64, Try.ntmps64
  go_wp2
  go_ret2
  exact ⟨by first | rfl | (simp; done) | (simp [*]; done), by repeat (first | exact ddR _ | apply ddS)⟩
 rw [if_pos c5] at H
 have c5b0 : decide (a1 < 0) = true := decide_eq_true c5
 clear c5
 by_cases c6 : a0 < (wrap64 ((-9223372036854775808) - a1))
 case neg =>
  rw [if_neg c6] at H
  have c6b0 : decide (a0 < (wrap64 ((-9223372036854775808) - a1))) = false := decide_eq_false c6
  clear c6
  simp only [Option.some.injEq, Prod.mk.injEq] at H
  obtain ⟨rfl, rfl⟩ := H
  go_enter Try.func64, Try.ntmps64
  go_wp2
  go_ret2
  exact ⟨by first | rfl | (simp; done) | (simp [*]; done), by repeat (first | exact ddR _ | apply ddS)⟩
 rw [if_pos c6] at H
 have c6b0 : decide (a0 < (wrap64 ((-9223372036854775808) - a1))) = true := decide_eq_true c6
 clear c6
 simp only [Option.some.injEq, Prod.mk.injEq] at H
 obtain ⟨rfl, rfl⟩ := H
 go_enter Try.func64, Try.ntmps64
 go_wp2
 go_ret2
 exact ⟨by first | rfl | (simp; done) | (simp [*]; done), by repeat (first | exact ddR _ | apply ddS)⟩
def thrumref01_Add.f (a0 a1 : Int) : Option (Int × Int) := if I64 a0 ∧ I64 a1 then some (res (a0 + a1)) else none
theorem thrumref01_Add.of (a0 a1 : Int)  (h_ : I64 a0 ∧ I64 a1) : thrumref01_Add.f a0 a1 = some (res (a0 + a1)) := if_pos h_
theorem thrumref01_Add.calls (a0 : Int) (a1 : Int) (r1 : Int) (r2 : Int) (w : World) (h : thrumref01_Add.f a0 a1 = some (r1, r2)) :
    Calls Try.prog 64 #[.int .i64 a0, .int .i64 a1] w fun e w' => e = .returned (.tuple #[.int .i64 r1, .int .i64 r2]) ∧ Drawn0 w w' := by
  unfold thrumref01_Add.f at h
  split at h
  · rename_i hu
    refine thrumref01_AddP.calls a0 a1 r1 r2 w (Eq.trans ?_ h)
    unfold thrumref01_AddP.f
    obtain ⟨h0, h1⟩ := hu
    unfold I64 at h0 h1
    rcases Int.lt_trichotomy a1 0 with c | c | c
    · rw [if_neg (by omega), if_pos c, wrap64_of (show I64 (-9223372036854775808 - a1) by unfold I64; omega)]
      by_cases d : a0 < -9223372036854775808 - a1
      · rw [if_pos d, res_not (by unfold I64; omega)]
      · rw [if_neg d, res_of (by unfold I64; omega), wrap64_of (by unfold I64; omega)]
    · rw [if_neg (by omega), if_neg (by omega), res_of (by unfold I64; omega), wrap64_of (by unfold I64; omega)]
    · rw [if_pos (by omega), wrap64_of (show I64 (9223372036854775807 - a1) by unfold I64; omega)]
      by_cases d : a0 > 9223372036854775807 - a1
      · rw [if_pos d, res_not (by unfold I64; omega)]
      · rw [if_neg d, if_neg (by omega), res_of (by unfold I64; omega), wrap64_of (by unfold I64; omega)]
  · cases h


/-! ### thrumref02_twoP: function 81 -/
def thrumref02_twoP.j0 : Nat → List Int → List Int → Bool → Option (Int)
 | 0, _, _, _ => none
 | k + 1, x0, x1, x12 => if x12 = true then (some 3) else (if (x0.length : Int) = (x1.length : Int) then (some 0) else (some 4))
def thrumref02_twoP.f (k : Nat) (l0 : List Int) (l1 : List Int) : Option (Int) := if (l0.length : Int) > 4096 then (thrumref02_twoP.j0 k l0 l1 true) else (thrumref02_twoP.j0 k l0 l1 (decide ((l1.length : Int) > 4096)))
theorem thrumref02_twoP.mono_l : ∀ k, (∀ y0 y1 y2, LeO (thrumref02_twoP.j0 k y0 y1 y2) (thrumref02_twoP.j0 (k + 1) y0 y1 y2))
 | 0 => fun _ _ _ r h => by simp [thrumref02_twoP.j0] at h
 | k + 1 => by
  have ih0 := thrumref02_twoP.mono_l k
  ·
   intro y0 y1 y2
   unfold thrumref02_twoP.j0
   repeat' first
   | (with_reducible exact ih0 _ _ _)
   | (with_reducible exact LeO.refl _)
   | (with_reducible exact LeO.none _)
   | (with_reducible refine LeO.ite ?_ ?_)
   | (with_reducible refine LeO.bind ?_ (fun _ => ?_))
theorem thrumref02_twoP.mono : ∀ a0 a1 k, LeO (thrumref02_twoP.f k a0 a1) (thrumref02_twoP.f (k + 1) a0 a1) := by
 intro a0 a1 k
 have ih0 := thrumref02_twoP.mono_l k
 unfold thrumref02_twoP.f
 repeat' first
   | (with_reducible exact ih0 _ _ _)
   | (with_reducible exact LeO.refl _)
   | (with_reducible exact LeO.none _)
   | (with_reducible refine LeO.ite ?_ ?_)
   | (with_reducible refine LeO.bind ?_ (fun _ => ?_))
set_option maxHeartbeats 8000000 in
set_option maxRecDepth 100000 in
theorem thrumref02_twoP.calls (k : Nat) (A0 : Option Addr) (c0 : Nat) (l0 : List Int) (A1 : Option Addr) (c1 : Nat) (l1 : List Int) (r : Int) (w : World) (hr0 : Kd.C (Kd.int .i64) w A0 l0.length l0) (hc0 : l0.length ≤ c0) (hr1 : Kd.C (Kd.int .i64) w A1 l1.length l1) (hc1 : l1.length ≤ c1) (h : thrumref02_twoP.f k l0 l1 = some r) :
  Calls Try.prog 81 #[.slice A0 l0.length c0, .slice A1 l1.length c1] w fun e w' => e = .returned (.int .i64 r) ∧ Drawn0 w w' := by
 have HR0 := ZM hr0
 have HC0 := ZM hc0
 clear hr0 hc0
 have HR1 := ZM hr1
 have HC1 := ZM hc1
 clear hr1 hc1
 have H : (if (l0.length : Int) > 4096 then (thrumref02_twoP.j0 k l0 l1 true) else (thrumref02_twoP.j0 k l0 l1 (decide ((l1.length : Int) > 4096)))) = some r := h
 clear h
 have HC3 := ZM H
 clear H
 go_enter Try.func81, Try.ntmps81
 go_upto_region 1 with (fail)
 go_cut [12] (fun v12 wc => ∃ (kq : Nat) (x12_2 : Bool), v12 = .bool x12_2 ∧ Aside0 (thrumref02_twoP.j0 kq l0 l1 x12_2 = some r) ∧ Aside0 (kq ≤ k) ∧ Drawn0 w wc)
 case first =>
  have H := HC3.out
  clear HC3
  by_cases c4 : (l0.length : Int) > 4096
  case neg =>
   rw [if_neg c4] at H
   have c4b0 : decide (4096 < (l0.length : Int)) = false := decide_eq_false c4
   have c4b1 : decide (4096 < l0.length) = false := decide_eq_false (by omega)
   clear c4
   (first | rw [c4b0] | (simp only [i64_w, i32_w]; rw [c4b0]) | skip)
   have H' := ZM H
   clear H
   go_wp2
   go_meet
   case rel => exact ⟨_, (decide ((l1.length : Int) > 4096)), Z5, H', ⟨by first | omega | exact Nat.le_refl _⟩, by repeat (first | exact ddR _ | apply ddS)⟩
  rw [if_pos c4] at H
  have c4b0 : decide (4096 < (l0.length : Int)) = true := decide_eq_true c4
  have c4b1 : decide (4096 < l0.length) = true := decide_eq_true (by omega)
  clear c4
  (first | rw [c4b0] | (simp only [i64_w, i32_w]; rw [c4b0]) | skip)
  have H' := ZM H
  clear H
  go_wp2
  go_meet
  case rel => exact ⟨_, (true), Z5, H', ⟨by first | omega | exact Nat.le_refl _⟩, by repeat (first | exact ddR _ | apply ddS)⟩
 clear HC3
 try clear c1
 obtain ⟨kq, x12_2, rfl, HA, HJ2, ⟨mc2, rfl⟩⟩ := hcut
 cases kq with
 | zero => exact absurd HA.out (by simp [thrumref02_twoP.j0])
 | succ kj2 =>
  have H := HA.out
  clear HA
  simp only [thrumref02_twoP.j0] at H
  by_cases c5 : x12_2 = true
  ·
   subst c5
   have H1 : (some 3) = some r := by rw [if_pos rfl] at H; exact H
   clear H
   have H := H1
   clear H1
   obtain rfl := Option.some.inj H
   go_wp2
   go_ret
   exact ⟨by first | rfl | (simp; done) | (simp [*]; done), by repeat (first | exact ddR _ | apply ddS)⟩
  replace c5 := Bool.eq_false_iff.mpr c5
  subst c5
  have H1 : (if (l0.length : Int) = (l1.length : Int) then (some 0) else (some 4)) = some r := by rw [if_neg (show ¬ (false = true) by decide)] at H; exact H
  clear H
  have H := H1
  clear H1
  by_cases c6 : (l0.length : Int) = (l1.length : Int)
  case neg =>
   rw [if_neg c6] at H
   have c6b0 : ((l0.length : Int) == (l1.length : Int)) = false := beq_eq_false_iff_ne.mpr c6
   have c6b1 : ((l0.length : Int) != (l1.length : Int)) = true := bne_iff_ne.mpr c6
   have c6b2 : (l0.length == l1.length) = false := by first | simpa using c6 | (simp at c6 ⊢; omega)
   obtain rfl := Option.some.inj H
   go_wp2
   go_ret
   exact ⟨by first | rfl | (simp; done) | (simp [*]; done), by repeat (first | exact ddR _ | apply ddS)⟩
  rw [if_pos c6] at H
  have c6b0 : ((l0.length : Int) == (l1.length : Int)) = true := beq_iff_eq.mpr c6
  have c6b1 : ((l0.length : Int) != (l1.length : Int)) = false := bne_eq_false_iff_eq.mpr c6
  have c6b2 : (l0.length == l1.length) = true := by first | simpa using c6 | (simp at c6 ⊢; omega)
  clear c6
  obtain rfl := Option.some.inj H
  go_wp2
  go_ret
  exact ⟨by first | rfl | (simp; done) | (simp [*]; done), by repeat (first | exact ddR _ | apply ddS)⟩
def thrumref02_two.f (l0 l1 : List Int) : Option Int := some (pairE l0 l1)
theorem thrumref02_two.calls (A0 : Option Addr) (c0 : Nat) (l0 : List Int) (A1 : Option Addr) (c1 : Nat) (l1 : List Int) (r : Int) (w : World) (hr0 : Kd.C (Kd.int .i64) w A0 l0.length l0) (hc0 : l0.length ≤ c0) (hr1 : Kd.C (Kd.int .i64) w A1 l1.length l1) (hc1 : l1.length ≤ c1) (h : thrumref02_two.f l0 l1 = some r) :
    Calls Try.prog 81 #[.slice A0 l0.length c0, .slice A1 l1.length c1] w fun e w' => e = .returned (.int .i64 r) ∧ Drawn0 w w' := by
  refine thrumref02_twoP.calls 1 A0 c0 l0 A1 c1 l1 r w hr0 hc0 hr1 hc1 (Eq.trans ?_ h)
  unfold thrumref02_twoP.f thrumref02_two.f pairE
  by_cases c : l0.length > 4096
  · rw [if_pos (by omega), thrumref02_twoP.j0, if_pos rfl, if_pos (Or.inl c)]
  · rw [if_neg (by omega), thrumref02_twoP.j0]
    by_cases c2 : l1.length > 4096
    · rw [if_pos (decide_eq_true (by omega)), if_pos (Or.inr c2)]
    · rw [if_neg (by simp; omega), if_neg (show ¬ (l0.length > 4096 ∨ l1.length > 4096) by omega)]
      by_cases c3 : l0.length = l1.length
      · rw [if_pos (by omega), if_neg (by omega)]
      · rw [if_neg (by omega), if_pos c3]


/-! ### thrumref01_TimesP: function 67 -/
def thrumref01_TimesP.f (a0 : Int) (a1 : Int) : Option (Int × Int) := some (IntKind.u64.wrap ((IntKind.u64.wrap ((IntKind.u64.wrap ((a0 / 4294967296) * (a1 / 4294967296))) + ((IntKind.u64.wrap ((IntKind.u64.wrap ((a0 / 4294967296) * (Go.bits .and .u64 a1 4294967295))) + ((IntKind.u64.wrap ((Go.bits .and .u64 a0 4294967295) * (Go.bits .and .u64 a1 4294967295))) / 4294967296))) / 4294967296))) + ((IntKind.u64.wrap ((IntKind.u64.wrap ((Go.bits .and .u64 a0 4294967295) * (a1 / 4294967296))) + (Go.bits .and .u64 (IntKind.u64.wrap ((IntKind.u64.wrap ((a0 / 4294967296) * (Go.bits .and .u64 a1 4294967295))) + ((IntKind.u64.wrap ((Go.bits .and .u64 a0 4294967295) * (Go.bits .and .u64 a1 4294967295))) / 4294967296))) 4294967295))) / 4294967296)), Go.bits .or .u64 (IntKind.u64.wrap ((IntKind.u64.wrap ((IntKind.u64.wrap ((Go.bits .and .u64 a0 4294967295) * (a1 / 4294967296))) + (Go.bits .and .u64 (IntKind.u64.wrap ((IntKind.u64.wrap ((a0 / 4294967296) * (Go.bits .and .u64 a1 4294967295))) + ((IntKind.u64.wrap ((Go.bits .and .u64 a0 4294967295) * (Go.bits .and .u64 a1 4294967295))) / 4294967296))) 4294967295))) * 4294967296)) (Go.bits .and .u64 (IntKind.u64.wrap ((Go.bits .and .u64 a0 4294967295) * (Go.bits .and .u64 a1 4294967295))) 4294967295))
set_option maxHeartbeats 8000000 in
set_option maxRecDepth 100000 in
theorem thrumref01_TimesP.calls (a0 : Int) (a1 : Int) (r1 : Int) (r2 : Int) (w : World) (h : thrumref01_TimesP.f a0 a1 = some (r1, r2)) :
  Calls Try.prog 67 #[.int .u64 a0, .int .u64 a1] w fun e w' => e = .returned (.tuple #[.int .u64 r1, .int .u64 r2]) ∧ Drawn0 w w' := by
 have H : (some (IntKind.u64.wrap ((IntKind.u64.wrap ((IntKind.u64.wrap ((a0 / 4294967296) * (a1 / 4294967296))) + ((IntKind.u64.wrap ((IntKind.u64.wrap ((a0 / 4294967296) * (Go.bits .and .u64 a1 4294967295))) + ((IntKind.u64.wrap ((Go.bits .and .u64 a0 4294967295) * (Go.bits .and .u64 a1 4294967295))) / 4294967296))) / 4294967296))) + ((IntKind.u64.wrap ((IntKind.u64.wrap ((Go.bits .and .u64 a0 4294967295) * (a1 / 4294967296))) + (Go.bits .and .u64 (IntKind.u64.wrap ((IntKind.u64.wrap ((a0 / 4294967296) * (Go.bits .and .u64 a1 4294967295))) + ((IntKind.u64.wrap ((Go.bits .and .u64 a0 4294967295) * (Go.bits .and .u64 a1 4294967295))) / 4294967296))) 4294967295))) / 4294967296)), Go.bits .or .u64 (IntKind.u64.wrap ((IntKind.u64.wrap ((IntKind.u64.wrap ((Go.bits .and .u64 a0 4294967295) * (a1 / 4294967296))) + (Go.bits .and .u64 (IntKind.u64.wrap ((IntKind.u64.wrap ((a0 / 4294967296) * (Go.bits .and .u64 a1 4294967295))) + ((IntKind.u64.wrap ((Go.bits .and .u64 a0 4294967295) * (Go.bits .and .u64 a1 4294967295))) / 4294967296))) 4294967295))) * 4294967296)) (Go.bits .and .u64 (IntKind.u64.wrap ((Go.bits .and .u64 a0 4294967295) * (Go.bits .and .u64 a1 4294967295))) 4294967295))) = some (r1, r2) := h
 clear h
 simp only [Option.some.injEq, Prod.mk.injEq] at H
 obtain ⟨rfl, rfl⟩ := H
 go_enter Try.func67, Try.ntmps67
 go_wp2
 go_ret2
 exact ⟨by first | rfl | (simp; done) | (simp [*]; done), by repeat (first | exact ddR _ | apply ddS)⟩
def thrumref01_Times.f (a0 a1 : Int) : Option (Int × Int) := if U64 a0 ∧ U64 a1 then some (a0 * a1 / 18446744073709551616, a0 * a1 % 18446744073709551616) else none
theorem thrumref01_Times.of (a0 a1 : Int)  (h_ : U64 a0 ∧ U64 a1) : thrumref01_Times.f a0 a1 = some (a0 * a1 / 18446744073709551616, a0 * a1 % 18446744073709551616) := if_pos h_
theorem thrumref01_TimesP.spec {a0 a1 : Int} (h0 : U64 a0) (h1 : U64 a1) : thrumref01_TimesP.f a0 a1 = some (a0 * a1 / 18446744073709551616, a0 * a1 % 18446744073709551616) := by
  unfold thrumref01_TimesP.f
  rw [and32 h0, and32 h1]
  unfold U64 at h0 h1
  obtain ⟨x, rfl⟩ := Int.eq_ofNat_of_zero_le h0.1
  obtain ⟨y, rfl⟩ := Int.eq_ofNat_of_zero_le h1.1
  have hx : x < 18446744073709551616 := by omega
  have hy : y < 18446744073709551616 := by omega
  have hm : ((x * y : Nat) : Int) = (x : Int) * y := by simp
  obtain ⟨k1, k2, k3, k4⟩ := Lib.mul64_hi x y hx hy
  have e1 : (x : Int) / 4294967296 * ((y : Int) / 4294967296) = ((x / 4294967296 * (y / 4294967296) : Nat) : Int) := by simp
  have e2 : (x : Int) / 4294967296 * ((y : Int) % 4294967296) = ((x / 4294967296 * (y % 4294967296) : Nat) : Int) := by simp
  have e3 : (x : Int) % 4294967296 * ((y : Int) % 4294967296) = ((x % 4294967296 * (y % 4294967296) : Nat) : Int) := by simp
  have e4 : (x : Int) % 4294967296 * ((y : Int) / 4294967296) = ((x % 4294967296 * (y / 4294967296) : Nat) : Int) := by simp
  have ha := Lib.half_mul_le (a := x / 4294967296) (b := y / 4294967296) (by omega) (by omega)
  have hb := Lib.half_mul_le (a := x / 4294967296) (b := y % 4294967296) (by omega) (by omega)
  have hc := Lib.half_mul_le (a := x % 4294967296) (b := y / 4294967296) (by omega) (by omega)
  have hd := Lib.half_mul_le (a := x % 4294967296) (b := y % 4294967296) (by omega) (by omega)
  have hsp : x * y = (x / 4294967296) * (y / 4294967296) * (4294967296 * 4294967296) + ((x / 4294967296) * (y % 4294967296) + (x % 4294967296) * (y / 4294967296)) * 4294967296 + (x % 4294967296) * (y % 4294967296) := by
    rw [← Lib.split_mul, Nat.div_add_mod' x 4294967296, Nat.div_add_mod' y 4294967296]
  rw [← hm]
  simp only [wu, and32m, e1, e2, e3, e4]
  clear e1 e2 e3 e4 hm
  generalize x / 4294967296 * (y / 4294967296) = a at *
  generalize x / 4294967296 * (y % 4294967296) = b at *
  generalize x % 4294967296 * (y / 4294967296) = c at *
  generalize x % 4294967296 * (y % 4294967296) = d at *
  generalize x * y = p at *
  rw [or_join 32 (by unfold U64; omega) Z39 (by omega) Z39 (by unfold U64; omega)]
  simp only [Option.some.injEq, Prod.mk.injEq]
  omega
theorem thrumref01_Times.calls (a0 : Int) (a1 : Int) (r1 : Int) (r2 : Int) (w : World) (h : thrumref01_Times.f a0 a1 = some (r1, r2)) :
    Calls Try.prog 67 #[.int .u64 a0, .int .u64 a1] w fun e w' => e = .returned (.tuple #[.int .u64 r1, .int .u64 r2]) ∧ Drawn0 w w' := by
  unfold thrumref01_Times.f at h
  split at h
  · rename_i hu
    exact thrumref01_TimesP.calls a0 a1 r1 r2 w ((thrumref01_TimesP.spec hu.1 hu.2).trans h)
  · cases h


/-! ### thrumref01_sizeP: function 68 -/
def thrumref01_sizeP.f (a0 : Int) : Option (Int) := if a0 < 0 then (some (IntKind.u64.wrap ((IntKind.u64.wrap (wrap64 (-(wrap64 (a0 + 1))))) + 1))) else (some (IntKind.u64.wrap (a0)))
set_option maxHeartbeats 8000000 in
set_option maxRecDepth 100000 in
theorem thrumref01_sizeP.calls (a0 : Int) (r : Int) (w : World) (h : thrumref01_sizeP.f a0 = some r) :
  Calls Try.prog 68 #[.int .i64 a0] w fun e w' => e = .returned (.int .u64 r) ∧ Drawn0 w w' := by
 have H : (if a0 < 0 then (some (IntKind.u64.wrap ((IntKind.u64.wrap (wrap64 (-(wrap64 (a0 + 1))))) + 1))) else (some (IntKind.u64.wrap (a0)))) = some r := h
 clear h
 by_cases c2 : a0 < 0
 case neg =>
  rw [if_neg c2] at H
  have c2b0 : decide (a0 < 0) = false := decide_eq_false c2
  clear c2
  obtain rfl := Option.some.inj H
  go_enter Try.func68, Try.ntmps68
  go_wp2
  go_ret
  exact ⟨by first | rfl | (simp; done) | (simp [*]; done), by repeat (first | exact ddR _ | apply ddS)⟩
 rw [if_pos c2] at H
 have c2b0 : decide (a0 < 0) = true := decide_eq_true c2
 clear c2
 obtain rfl := Option.some.inj H
 go_enter Try.func68, Try.ntmps68
 go_wp2
 go_ret
 exact ⟨by first | rfl | (simp; done) | (simp [*]; done), by repeat (first | exact ddR _ | apply ddS)⟩
def thrumref01_size.f (a0 : Int) : Option Int := if I64 a0 then some (a0.natAbs : Int) else none
theorem thrumref01_size.of (a0 : Int)  (h_ : I64 a0) : thrumref01_size.f a0 = some (a0.natAbs : Int) := if_pos h_
theorem thrumref01_size.calls (a0 : Int) (r : Int) (w : World) (h : thrumref01_size.f a0 = some r) :
    Calls Try.prog 68 #[.int .i64 a0] w fun e w' => e = .returned (.int .u64 r) ∧ Drawn0 w w' := by
  unfold thrumref01_size.f at h
  split at h
  · rename_i hu
    refine thrumref01_sizeP.calls a0 r w (Eq.trans ?_ h)
    unfold thrumref01_sizeP.f; unfold I64 at hu; simp only [wu, wrap64_def]
    split <;> simp only [Option.some.injEq] <;> omega
  · cases h


/-! ### thrumref01_WideP: function 90 -/
def thrumref01_WideP.f (a0 : Int) (a1 : Int) : Option (Int × Int) := (thrumref01_size.f a0).bind fun t266 => ((thrumref01_size.f a1).bind fun t267 => ((thrumref01_Times.f t266 t267).bind fun bt268 => (if ((decide (a0 < 0)) == (decide (a1 < 0))) = true then (some (wrap64 (bt268.1), bt268.2)) else (if (IntKind.u64.wrap ((Go.bits .xor .u64 IntKind.u64.max bt268.2) + 1)) = 0 then (some (wrap64 (IntKind.u64.wrap ((Go.bits .xor .u64 IntKind.u64.max bt268.1) + 1)), IntKind.u64.wrap ((Go.bits .xor .u64 IntKind.u64.max bt268.2) + 1))) else (some (wrap64 (Go.bits .xor .u64 IntKind.u64.max bt268.1), IntKind.u64.wrap ((Go.bits .xor .u64 IntKind.u64.max bt268.2) + 1)))))))
set_option maxHeartbeats 8000000 in
set_option maxRecDepth 100000 in
theorem thrumref01_WideP.calls (a0 : Int) (a1 : Int) (r1 : Int) (r2 : Int) (w : World) (h : thrumref01_WideP.f a0 a1 = some (r1, r2)) :
  Calls Try.prog 90 #[.int .i64 a0, .int .i64 a1] w fun e w' => e = .returned (.tuple #[.int .i64 r1, .int .u64 r2]) ∧ Drawn0 w w' := by
 have H : ((thrumref01_size.f a0).bind fun t266 => ((thrumref01_size.f a1).bind fun t267 => ((thrumref01_Times.f t266 t267).bind fun bt268 => (if ((decide (a0 < 0)) == (decide (a1 < 0))) = true then (some (wrap64 (bt268.1), bt268.2)) else (if (IntKind.u64.wrap ((Go.bits .xor .u64 IntKind.u64.max bt268.2) + 1)) = 0 then (some (wrap64 (IntKind.u64.wrap ((Go.bits .xor .u64 IntKind.u64.max bt268.1) + 1)), IntKind.u64.wrap ((Go.bits .xor .u64 IntKind.u64.max bt268.2) + 1))) else (some (wrap64 (Go.bits .xor .u64 IntKind.u64.max bt268.1), IntKind.u64.wrap ((Go.bits .xor .u64 IntKind.u64.max bt268.2) + 1)))))))) = some (r1, r2) := h
 clear h
 replace H := Option.bind_eq_some_iff.mp H
 obtain ⟨t266, A30, H⟩ := H
 replace H : ((thrumref01_size.f a1).bind fun t267 => ((thrumref01_Times.f t266 t267).bind fun bt268 => (if ((decide (a0 < 0)) == (decide (a1 < 0))) = true then (some (wrap64 (bt268.1), bt268.2)) else (if (IntKind.u64.wrap ((Go.bits .xor .u64 IntKind.u64.max bt268.2) + 1)) = 0 then (some (wrap64 (IntKind.u64.wrap ((Go.bits .xor .u64 IntKind.u64.max bt268.1) + 1)), IntKind.u64.wrap ((Go.bits .xor .u64 IntKind.u64.max bt268.2) + 1))) else (some (wrap64 (Go.bits .xor .u64 IntKind.u64.max bt268.1), IntKind.u64.wrap ((Go.bits .xor .u64 IntKind.u64.max bt268.2) + 1))))))) = some (r1, r2) := H
 have A3 := ZM A30
 clear A30
 replace H := Option.bind_eq_some_iff.mp H
 obtain ⟨t267, A40, H⟩ := H
 replace H : ((thrumref01_Times.f t266 t267).bind fun bt268 => (if ((decide (a0 < 0)) == (decide (a1 < 0))) = true then (some (wrap64 (bt268.1), bt268.2)) else (if (IntKind.u64.wrap ((Go.bits .xor .u64 IntKind.u64.max bt268.2) + 1)) = 0 then (some (wrap64 (IntKind.u64.wrap ((Go.bits .xor .u64 IntKind.u64.max bt268.1) + 1)), IntKind.u64.wrap ((Go.bits .xor .u64 IntKind.u64.max bt268.2) + 1))) else (some (wrap64 (Go.bits .xor .u64 IntKind.u64.max bt268.1), IntKind.u64.wrap ((Go.bits .xor .u64 IntKind.u64.max bt268.2) + 1)))))) = some (r1, r2) := H
 have A4 := ZM A40
 clear A40
 replace H := Option.bind_eq_some_iff.mp H
 obtain ⟨⟨t268, t269⟩, A50, H⟩ := H
 replace H : (if ((decide (a0 < 0)) == (decide (a1 < 0))) = true then (some (wrap64 (t268), t269)) else (if (IntKind.u64.wrap ((Go.bits .xor .u64 IntKind.u64.max t269) + 1)) = 0 then (some (wrap64 (IntKind.u64.wrap ((Go.bits .xor .u64 IntKind.u64.max t268) + 1)), IntKind.u64.wrap ((Go.bits .xor .u64 IntKind.u64.max t269) + 1))) else (some (wrap64 (Go.bits .xor .u64 IntKind.u64.max t268), IntKind.u64.wrap ((Go.bits .xor .u64 IntKind.u64.max t269) + 1))))) = some (r1, r2) := H
 have A5 := ZM A50
 clear A50
 by_cases c6 : ((decide (a0 < 0)) == (decide (a1 < 0))) = true
 ·
  rw [if_pos c6] at H
  have c6b0 : ((decide (a0 < 0)) == (decide (a1 < 0))) = true := c6
  (try (have c6b1 : decide ((decide (a0 < 0)) = (decide (a1 < 0))) = true := by simpa using c6))
  (try (have c6b2 : ((decide (a0 < 0)) == (decide (a1 < 0))) = true := by simpa using c6))
  clear c6
  simp only [Option.some.injEq, Prod.mk.injEq] at H
  obtain ⟨rfl, rfl⟩ := H
  go_enter Try.func90, Try.ntmps90
  go_wp2_with (first | ((with_reducible refine gate_callee (f := 68) rfl ?_); refine goesL_ (some 10) rfl rfl Try.func68 (by kernel_rfl) rfl #[.int .i64 a0] rfl Z2 ?_; (with_reducible refine (thrumref01_size.calls a0 t266 _ A3.out).mono ?_); rintro e w' ⟨rfl, ⟨nd, rfl⟩⟩; refine ⟨_, rfl, ?_⟩) | ((with_reducible refine gate_callee (f := 68) rfl ?_); refine goesL_ (some 12) rfl rfl Try.func68 (by kernel_rfl) rfl #[.int .i64 a1] rfl Z2 ?_; (with_reducible refine (thrumref01_size.calls a1 t267 _ A4.out).mono ?_); rintro e w' ⟨rfl, ⟨nd, rfl⟩⟩; refine ⟨_, rfl, ?_⟩) | ((with_reducible refine gate_callee (f := 67) rfl ?_); refine goesL_ (some 13) rfl rfl Try.func67 (by kernel_rfl) rfl #[.int .u64 t266, .int .u64 t267] rfl Z2 ?_; (with_reducible refine (thrumref01_Times.calls t266 t267 t268 t269 _ A5.out).mono ?_); rintro e w' ⟨rfl, ⟨nd, rfl⟩⟩; refine ⟨_, rfl, ?_⟩))
  go_ret2
  exact ⟨by first | rfl | (simp; done) | (simp [*]; done), by repeat (first | exact ddR _ | apply ddS)⟩
 rw [if_neg c6] at H
 have c6b0 : ((decide (a0 < 0)) == (decide (a1 < 0))) = false := by simpa using c6
 (try (have c6b1 : decide ((decide (a0 < 0)) = (decide (a1 < 0))) = false := by simpa using c6))
 (try (have c6b2 : ((decide (a0 < 0)) == (decide (a1 < 0))) = false := by simpa using c6))
 (try (have c6b3 : ¬ ((decide (a0 < 0)) = (decide (a1 < 0))) := by simpa using c6))
 clear c6
 by_cases c7 : (IntKind.u64.wrap ((Go.bits .xor .u64 IntKind.u64.max t269) + 1)) = 0
 case neg =>
  rw [if_neg c7] at H
  have c7b0 : ((IntKind.u64.wrap ((Go.bits .xor .u64 IntKind.u64.max t269) + 1)) == 0) = false := beq_eq_false_iff_ne.mpr c7
  have c7b1 : ((IntKind.u64.wrap ((Go.bits .xor .u64 IntKind.u64.max t269) + 1)) != 0) = true := bne_iff_ne.mpr c7
  simp only [Option.some.injEq, Prod.mk.injEq] at H
  obtain ⟨rfl, rfl⟩ := H
  go_enter Try.func90, Try.ntmps90
  go_wp2_with (first | ((with_reducible refine gate_callee (f := 68) rfl ?_); refine goesL_ (some 10) rfl rfl Try.func68 (by kernel_rfl) rfl #[.int .i64 a0] rfl Z2 ?_; (with_reducible refine (thrumref01_size.calls a0 t266 _ A3.out).mono ?_); rintro e w' ⟨rfl, ⟨nd, rfl⟩⟩; refine ⟨_, rfl, ?_⟩) | ((with_reducible refine gate_callee (f := 68) rfl ?_); refine goesL_ (some 12) rfl rfl Try.func68 (by kernel_rfl) rfl #[.int .i64 a1] rfl Z2 ?_; (with_reducible refine (thrumref01_size.calls a1 t267 _ A4.out).mono ?_); rintro e w' ⟨rfl, ⟨nd, rfl⟩⟩; refine ⟨_, rfl, ?_⟩) | ((with_reducible refine gate_callee (f := 67) rfl ?_); refine goesL_ (some 13) rfl rfl Try.func67 (by kernel_rfl) rfl #[.int .u64 t266, .int .u64 t267] rfl Z2 ?_; (with_reducible refine (thrumref01_Times.calls t266 t267 t268 t269 _ A5.out).mono ?_); rintro e w' ⟨rfl, ⟨nd, rfl⟩⟩; refine ⟨_, rfl, ?_⟩))
  go_ret2
  exact ⟨by first | rfl | (simp; done) | (simp [*]; done), by repeat (first | exact ddR _ | apply ddS)⟩
 rw [if_pos c7] at H
 have c7b0 : ((IntKind.u64.wrap ((Go.bits .xor .u64 IntKind.u64.max t269) + 1)) == 0) = true := beq_iff_eq.mpr c7
 have c7b1 : ((IntKind.u64.wrap ((Go.bits .xor .u64 IntKind.u64.max t269) + 1)) != 0) = false := bne_eq_false_iff_eq.mpr c7
 clear c7
 simp only [Option.some.injEq, Prod.mk.injEq] at H
 obtain ⟨rfl, rfl⟩ := H
 go_enter Try.func90, Try.ntmps90
 go_wp2_with (first | ((with_reducible refine gate_callee (f := 68) rfl ?_); refine goesL_ (some 10) rfl rfl Try.func68 (by kernel_rfl) rfl #[.int .i64 a0] rfl Z2 ?_; (with_reducible refine (thrumref01_size.calls a0 t266 _ A3.out).mono ?_); rintro e w' ⟨rfl, ⟨nd, rfl⟩⟩; refine ⟨_, rfl, ?_⟩) | ((with_reducible refine gate_callee (f := 68) rfl ?_); refine goesL_ (some 12) rfl rfl Try.func68 (by kernel_rfl) rfl #[.int .i64 a1] rfl Z2 ?_; (with_reducible refine (thrumref01_size.calls a1 t267 _ A4.out).mono ?_); rintro e w' ⟨rfl, ⟨nd, rfl⟩⟩; refine ⟨_, rfl, ?_⟩) | ((with_reducible refine gate_callee (f := 67) rfl ?_); refine goesL_ (some 13) rfl rfl Try.func67 (by kernel_rfl) rfl #[.int .u64 t266, .int .u64 t267] rfl Z2 ?_; (with_reducible refine (thrumref01_Times.calls t266 t267 t268 t269 _ A5.out).mono ?_); rintro e w' ⟨rfl, ⟨nd, rfl⟩⟩; refine ⟨_, rfl, ?_⟩))
 go_ret2
 exact ⟨by first | rfl | (simp; done) | (simp [*]; done), by repeat (first | exact ddR _ | apply ddS)⟩
def thrumref01_Wide.f (a0 a1 : Int) : Option (Int × Int) := if I64 a0 ∧ I64 a1 then some (a0 * a1 / 18446744073709551616, a0 * a1 % 18446744073709551616) else none
theorem thrumref01_Wide.of (a0 a1 : Int)  (h_ : I64 a0 ∧ I64 a1) : thrumref01_Wide.f a0 a1 = some (a0 * a1 / 18446744073709551616, a0 * a1 % 18446744073709551616) := if_pos h_
theorem thrumref01_WideP.spec {a0 a1 : Int} (h0 : I64 a0) (h1 : I64 a1) : thrumref01_WideP.f a0 a1 = some (a0 * a1 / 18446744073709551616, a0 * a1 % 18446744073709551616) := by
  have hb := prod_bd h0 h1
  unfold thrumref01_WideP.f thrumref01_size.f
  rw [if_pos h0, if_pos h1]
  unfold I64 at h0 h1
  simp only [Option.bind_some]
  unfold thrumref01_Times.f
  rw [if_pos ⟨by unfold U64; omega, by unfold U64; omega⟩]
  simp only [Option.bind_some]
  obtain ⟨X, hX⟩ : ∃ X : Int, X = (a0.natAbs : Int) * (a1.natAbs : Int) := ⟨_, rfl⟩
  have hXP : a0 * a1 = if (a0 < 0) = (a1 < 0) then X else -X := by
    by_cases ca : a0 < 0 <;> by_cases cb : a1 < 0 <;> simp only [ca, cb, if_true, if_false, eq_self, eq_iff_iff, iff_true, iff_false, not_true, not_false_iff]
    · rw [hX, show (a0.natAbs : Int) = -a0 by omega, show (a1.natAbs : Int) = -a1 by omega]; grind
    · rw [hX, show (a0.natAbs : Int) = -a0 by omega, show (a1.natAbs : Int) = a1 by omega]; grind
    · rw [hX, show (a0.natAbs : Int) = a0 by omega, show (a1.natAbs : Int) = -a1 by omega]; grind
    · rw [hX, show (a0.natAbs : Int) = a0 by omega, show (a1.natAbs : Int) = a1 by omega]
  have hX0 : 0 ≤ X := by rw [hX]; exact Int.mul_nonneg (by omega) (by omega)
  rw [← hX]
  rw [hXP] at hb ⊢
  clear hX hXP
  by_cases cs : (a0 < 0) = (a1 < 0)
  · rw [if_pos cs] at hb ⊢
    rw [if_pos (by simp [cs]), wrap64_of (by unfold I64; omega)]
  · rw [if_neg cs] at hb ⊢
    rw [if_neg (by simpa using cs), not_u64 (by unfold U64; omega), not_u64 (by unfold U64; omega)]
    simp only [wu, wrap64_def]
    split <;> simp only [Option.some.injEq, Prod.mk.injEq] <;> omega
theorem thrumref01_Wide.calls (a0 : Int) (a1 : Int) (r1 : Int) (r2 : Int) (w : World) (h : thrumref01_Wide.f a0 a1 = some (r1, r2)) :
    Calls Try.prog 90 #[.int .i64 a0, .int .i64 a1] w fun e w' => e = .returned (.tuple #[.int .i64 r1, .int .u64 r2]) ∧ Drawn0 w w' := by
  unfold thrumref01_Wide.f at h
  split at h
  · rename_i hu
    exact thrumref01_WideP.calls a0 a1 r1 r2 w ((thrumref01_WideP.spec hu.1 hu.2).trans h)
  · cases h


/-! ### thrumref01_MulP: function 82 -/
mutual
def thrumref01_MulP.j0 : Nat → Int → Int → Int → Bool → Option (Int × Int)
 | 0, _, _, _, _ => none
 | k + 1, x0, x1, x2, x16 => if x16 = true then (some (0, 1)) else ((thrumref01_Wide.f x0 x1).bind fun bt270 => (thrumref01_MulP.l0 k bt270.1 bt270.2 x2 0))
def thrumref01_MulP.l0 : Nat → Int → Int → Int → Int → Option (Int × Int)
 | 0, _, _, _, _ => none
 | k + 1, x8, x9, x23, x24 => if x24 < x23 then (thrumref01_MulP.l0 k (x8 / 2) (Go.bits .or .u64 (x9 / 2) (IntKind.u64.wrap ((IntKind.u64.wrap (Go.bits .and .i64 x8 1)) * 9223372036854775808))) x23 (wrap64 (x24 + 1))) else (if x8 = ((wrap64 (x9)) / 9223372036854775808) then (some (wrap64 (x9), 0)) else (some (0, 2)))
end
def thrumref01_MulP.f (k : Nat) (a0 : Int) (a1 : Int) (a2 : Int) : Option (Int × Int) := if a2 < 0 then (thrumref01_MulP.j0 k a0 a1 a2 true) else (thrumref01_MulP.j0 k a0 a1 a2 (decide (a2 > 30)))
theorem thrumref01_MulP.mono_l : ∀ k, (∀ y0 y1 y2 y3, LeO (thrumref01_MulP.j0 k y0 y1 y2 y3) (thrumref01_MulP.j0 (k + 1) y0 y1 y2 y3)) ∧ (∀ y0 y1 y2 y3, LeO (thrumref01_MulP.l0 k y0 y1 y2 y3) (thrumref01_MulP.l0 (k + 1) y0 y1 y2 y3))
 | 0 => ⟨fun _ _ _ _ r h => by simp [thrumref01_MulP.j0] at h, fun _ _ _ _ r h => by simp [thrumref01_MulP.l0] at h⟩
 | k + 1 => by
  obtain ⟨ih0, ih1⟩ := thrumref01_MulP.mono_l k
  refine ⟨?_, ?_⟩
  ·
   intro y0 y1 y2 y3
   unfold thrumref01_MulP.j0
   repeat' first
   | (with_reducible exact ih0 _ _ _ _)
   | (with_reducible exact ih1 _ _ _ _)
   | (with_reducible exact LeO.refl _)
   | (with_reducible exact LeO.none _)
   | (with_reducible refine LeO.ite ?_ ?_)
   | (with_reducible refine LeO.bind ?_ (fun _ => ?_))
  ·
   intro y0 y1 y2 y3
   unfold thrumref01_MulP.l0
   repeat' first
   | (with_reducible exact ih0 _ _ _ _)
   | (with_reducible exact ih1 _ _ _ _)
   | (with_reducible exact LeO.refl _)
   | (with_reducible exact LeO.none _)
   | (with_reducible refine LeO.ite ?_ ?_)
   | (with_reducible refine LeO.bind ?_ (fun _ => ?_))
theorem thrumref01_MulP.mono : ∀ a0 a1 a2 k, LeO (thrumref01_MulP.f k a0 a1 a2) (thrumref01_MulP.f (k + 1) a0 a1 a2) := by
 intro a0 a1 a2 k
 obtain ⟨ih0, ih1⟩ := thrumref01_MulP.mono_l k
 unfold thrumref01_MulP.f
 repeat' first
   | (with_reducible exact ih0 _ _ _ _)
   | (with_reducible exact ih1 _ _ _ _)
   | (with_reducible exact LeO.refl _)
   | (with_reducible exact LeO.none _)
   | (with_reducible refine LeO.ite ?_ ?_)
   | (with_reducible refine LeO.bind ?_ (fun _ => ?_))
set_option maxHeartbeats 8000000 in
set_option maxRecDepth 100000 in
theorem thrumref01_MulP.calls (k : Nat) (a0 : Int) (a1 : Int) (a2 : Int) (r1 : Int) (r2 : Int) (w : World) (h : thrumref01_MulP.f k a0 a1 a2 = some (r1, r2)) :
  Calls Try.prog 82 #[.int .i64 a0, .int .i64 a1, .int .i64 a2] w fun e w' => e = .returned (.tuple #[.int .i64 r1, .int .i64 r2]) ∧ Drawn0 w w' := by
 have H : (if a2 < 0 then (thrumref01_MulP.j0 k a0 a1 a2 true) else (thrumref01_MulP.j0 k a0 a1 a2 (decide (a2 > 30)))) = some (r1, r2) := h
 clear h
 have HC4 := ZM H
 clear H
 go_enter Try.func82, Try.ntmps82
 go_upto_region 1 with (fail)
 go_cut [16] (fun v16 wc => ∃ (kq : Nat) (x16_3 : Bool), v16 = .bool x16_3 ∧ Aside0 (thrumref01_MulP.j0 kq a0 a1 a2 x16_3 = some (r1, r2)) ∧ Aside0 (kq ≤ k) ∧ Drawn0 w wc)
 case first =>
  have H := HC4.out
  clear HC4
  by_cases c5 : a2 < 0
  case neg =>
   rw [if_neg c5] at H
   have c5b0 : decide (a2 < 0) = false := decide_eq_false c5
   clear c5
   (first | rw [c5b0] | (simp only [i64_w, i32_w]; rw [c5b0]) | skip)
   have H' := ZM H
   clear H
   go_wp2
   go_meet
   case rel => exact ⟨_, (decide (a2 > 30)), Z5, H', ⟨by first | omega | exact Nat.le_refl _⟩, by repeat (first | exact ddR _ | apply ddS)⟩
  rw [if_pos c5] at H
  have c5b0 : decide (a2 < 0) = true := decide_eq_true c5
  clear c5
  (first | rw [c5b0] | (simp only [i64_w, i32_w]; rw [c5b0]) | skip)
  have H' := ZM H
  clear H
  go_wp2
  go_meet
  case rel => exact ⟨_, (true), Z5, H', ⟨by first | omega | exact Nat.le_refl _⟩, by repeat (first | exact ddR _ | apply ddS)⟩
 clear HC4
 obtain ⟨kq, x16_3, rfl, HA, HJ3, ⟨mc3, rfl⟩⟩ := hcut
 cases kq with
 | zero => exact absurd HA.out (by simp [thrumref01_MulP.j0])
 | succ kj3 =>
  have H := HA.out
  clear HA
  simp only [thrumref01_MulP.j0] at H
  by_cases c6 : x16_3 = true
  ·
   subst c6
   have H1 : (some (0, 1)) = some (r1, r2) := by rw [if_pos rfl] at H; exact H
   clear H
   have H := H1
   clear H1
   simp only [Option.some.injEq, Prod.mk.injEq] at H
   obtain ⟨rfl, rfl⟩ := H
   go_wp2
   go_ret2
   exact ⟨by first | rfl | (simp; done) | (simp [*]; done), by repeat (first | exact ddR _ | apply ddS)⟩
  replace c6 := Bool.eq_false_iff.mpr c6
  subst c6
  have H1 : ((thrumref01_Wide.f a0 a1).bind fun bt270 => (thrumref01_MulP.l0 kj3 bt270.1 bt270.2 a2 0)) = some (r1, r2) := by rw [if_neg (show ¬ (false = true) by decide)] at H; exact H
  clear H
  have H := H1
  clear H1
  replace H := Option.bind_eq_some_iff.mp H
  obtain ⟨⟨t270, t271⟩, A70, H⟩ := H
  replace H : (thrumref01_MulP.l0 kj3 t270 t271 a2 0) = some (r1, r2) := H
  have A7 := ZM A70
  clear A70
  have H' := ZM H
  clear H
  go_wp2_with (first | ((with_reducible refine gate_callee (f := 90) rfl ?_); refine goesL_ (some 20) rfl rfl Try.func90 (by kernel_rfl) rfl #[.int .i64 a0, .int .i64 a1] rfl Z2 ?_; (with_reducible refine (thrumref01_Wide.calls a0 a1 t270 t271 _ A7.out).mono ?_); rintro e w' ⟨rfl, ⟨nd, rfl⟩⟩; refine ⟨_, rfl, ?_⟩))
  go_loopg [8, 9, 24] kj3 (fun kq v8 v9 v24 w' => ∃ (x8_2 : Int) (x9_2 : Int) (x24_2 : Int), v8 = .int .i64 x8_2 ∧ v9 = .int .u64 x9_2 ∧ v24 = .int .i64 x24_2 ∧ Aside0 (thrumref01_MulP.l0 kq x8_2 x9_2 a2 x24_2 = some (r1, r2)) ∧ Aside0 (kq ≤ kj3) ∧ Drawn0 w w')
  case atStart => exact ⟨(t270), (t271), (0), Z5, Z5, Z5, H', ⟨Nat.le_refl _⟩, by repeat (first | exact ddR _ | apply ddS)⟩
  case round =>
   clear H'
   try clear c6
   obtain ⟨x8_2, x9_2, x24_2, rfl, rfl, rfl, HA, HK2, ⟨m2, rfl⟩⟩ := hrel
   cases gk with
   | zero => exact absurd HA.out (by simp [thrumref01_MulP.l0])
   | succ k2 =>
    have H := HA.out
    clear HA
    simp only [thrumref01_MulP.l0] at H
    by_cases c8 : x24_2 < a2
    ·
     rw [if_pos c8] at H
     have c8b0 : decide (x24_2 < a2) = true := decide_eq_true c8
     clear c8
     have H' := ZM H
     clear H
     go_wp2
     go_roundg k2
     case measure => have := HJ3.out; have := HK2.out; omega
     case rel => exact ⟨(x8_2 / 2), (Go.bits .or .u64 (x9_2 / 2) (IntKind.u64.wrap ((IntKind.u64.wrap (Go.bits .and .i64 x8_2 1)) * 9223372036854775808))), (wrap64 (x24_2 + 1)), Z5, Z5, Z5, H', ⟨by have := HJ3.out; have := HK2.out; omega⟩, by repeat (first | exact ddR _ | apply ddS)⟩
    rw [if_neg c8] at H
    have c8b0 : decide (x24_2 < a2) = false := decide_eq_false c8
    clear c8
    by_cases c9 : x8_2 = ((wrap64 (x9_2)) / 9223372036854775808)
    case neg =>
     rw [if_neg c9] at H
     have c9b0 : (x8_2 == ((wrap64 (x9_2)) / 9223372036854775808)) = false := beq_eq_false_iff_ne.mpr c9
     have c9b1 : (x8_2 != ((wrap64 (x9_2)) / 9223372036854775808)) = true := bne_iff_ne.mpr c9
     simp only [Option.some.injEq, Prod.mk.injEq] at H
     obtain ⟨rfl, rfl⟩ := H
     go_wp2
     go_ret2
     exact ⟨by first | rfl | (simp; done) | (simp [*]; done), by repeat (first | exact ddR _ | apply ddS)⟩
    rw [if_pos c9] at H
    have c9b0 : (x8_2 == ((wrap64 (x9_2)) / 9223372036854775808)) = true := beq_iff_eq.mpr c9
    have c9b1 : (x8_2 != ((wrap64 (x9_2)) / 9223372036854775808)) = false := bne_eq_false_iff_eq.mpr c9
    clear c9
    simp only [Option.some.injEq, Prod.mk.injEq] at H
    obtain ⟨rfl, rfl⟩ := H
    go_wp2
    go_ret2
    exact ⟨by first | rfl | (simp; done) | (simp [*]; done), by repeat (first | exact ddR _ | apply ddS)⟩
def thrumref01_Mul.f (a0 a1 a2 : Int) : Option (Int × Int) := if I64 a0 ∧ I64 a1 then some (mulF a0 a1 a2) else none
theorem thrumref01_Mul.of (a0 a1 a2 : Int)  (h_ : I64 a0 ∧ I64 a1) : thrumref01_Mul.f a0 a1 a2 = some (mulF a0 a1 a2) := if_pos h_
theorem thrumref01_MulP.loop (n : Nat) : ∀ (p f i : Int) (k : Nat), -170141183460469231731687303715884105728 ≤ p → p < 170141183460469231731687303715884105728 → 0 ≤ i → f ≤ 30 → f - i = n →
    thrumref01_MulP.l0 (n + 1 + k) (p / 18446744073709551616) (p % 18446744073709551616) f i = some (res (p / 2 ^ n)) := by
  induction n with
  | zero =>
    intro p f i k h0 h1 hi hf hn
    rw [show 0 + 1 + k = k + 1 by omega, thrumref01_MulP.l0, if_neg (by omega), Int.pow_zero, Int.ediv_one]
    by_cases c : I64 p
    · rw [res_of c]
      unfold I64 at c
      rw [if_pos (by simp only [wrap64_def]; omega)]
      simp only [wrap64_def, Option.some.injEq, Prod.mk.injEq, and_true]; omega
    · rw [res_not c]
      unfold I64 at c
      obtain ⟨a, ha⟩ : ∃ a, a = p / 18446744073709551616 := ⟨_, rfl⟩
      obtain ⟨l, hl⟩ : ∃ l, l = p % 18446744073709551616 := ⟨_, rfl⟩
      have e : p = 18446744073709551616 * a + l := by omega
      rw [← ha, ← hl, wrap64_def]
      rw [if_neg]
      have hl0 : 0 ≤ l ∧ l < 18446744073709551616 := by omega
      clear ha hl h0 h1
      subst e
      by_cases c2 : l < 9223372036854775808
      · have e1 : (l + 9223372036854775808) % 18446744073709551616 - 9223372036854775808 = l := by omega
        rw [e1]; omega
      · have e1 : (l + 9223372036854775808) % 18446744073709551616 - 9223372036854775808 = l - 18446744073709551616 := by omega
        rw [e1]; omega
  | succ n ih =>
    intro p f i k h0 h1 hi hf hn
    rw [show n + 1 + 1 + k = (n + 1 + k) + 1 by omega, thrumref01_MulP.l0, if_pos (by omega)]
    have e1 : p / 18446744073709551616 / 2 = p / 2 / 18446744073709551616 := by omega
    have e2 : Go.bits .or .u64 (p % 18446744073709551616 / 2) (IntKind.u64.wrap (IntKind.u64.wrap (Go.bits .and .i64 (p / 18446744073709551616) 1) * 9223372036854775808)) = p / 2 % 18446744073709551616 := by
      rw [and1_i64, wu, wu, or_join' 63 (by unfold U64; omega) Z39 (by omega) Z39 (by unfold U64; omega)]
      omega
    rw [e1, e2, wrap64_of (show I64 (i + 1) by unfold I64; omega), ih (p / 2) f (i + 1) k (by omega) (by omega) (by omega) hf (by omega), Int.pow_succ, Int.mul_comm, Int.ediv_ediv_of_nonneg (by omega)]
theorem thrumref01_MulP.spec {a0 a1 a2 : Int} (h0 : I64 a0) (h1 : I64 a1) : thrumref01_MulP.f (a2.toNat + 2) a0 a1 a2 = some (mulF a0 a1 a2) := by
  have hb := prod_bd h0 h1
  unfold thrumref01_MulP.f mulF
  by_cases c : 0 ≤ a2 ∧ a2 ≤ 30
  · rw [if_neg (by omega), if_pos c, show a2.toNat + 2 = (a2.toNat + 1) + 1 from rfl, thrumref01_MulP.j0, if_neg (by simp; omega)]
    unfold thrumref01_Wide.f
    rw [if_pos ⟨h0, h1⟩]
    exact thrumref01_MulP.loop a2.toNat (a0 * a1) a2 0 0 hb.1 hb.2 (by omega) c.2 (by omega)
  · rw [if_neg c, show a2.toNat + 2 = (a2.toNat + 1) + 1 from rfl]
    by_cases c2 : a2 < 0
    · rw [if_pos c2, thrumref01_MulP.j0, if_pos rfl]
    · rw [if_neg c2, thrumref01_MulP.j0, if_pos (by simp; omega)]
theorem thrumref01_Mul.calls (a0 : Int) (a1 : Int) (a2 : Int) (r1 : Int) (r2 : Int) (w : World) (h : thrumref01_Mul.f a0 a1 a2 = some (r1, r2)) :
    Calls Try.prog 82 #[.int .i64 a0, .int .i64 a1, .int .i64 a2] w fun e w' => e = .returned (.tuple #[.int .i64 r1, .int .i64 r2]) ∧ Drawn0 w w' := by
  unfold thrumref01_Mul.f at h
  split at h
  · rename_i hu
    exact thrumref01_MulP.calls _ a0 a1 a2 r1 r2 w ((thrumref01_MulP.spec hu.1 hu.2).trans h)
  · cases h


/-! ### thrumref02_DotP: function 63 -/
mutual
def thrumref02_DotP.j0 : Nat → List Int → List Int → Int → Bool → Option (Int × Int)
 | 0, _, _, _, _ => none
 | k + 1, x0, x1, x2, x24 => if x24 = true then (some (0, 1)) else (thrumref02_DotP.l0 k x0 x1 x2 0 (x0.length : Int) 0)
def thrumref02_DotP.l0 : Nat → List Int → List Int → Int → Int → Int → Int → Option (Int × Int)
 | 0, _, _, _, _, _, _ => none
 | k + 1, x0, x1, x2, x9, x26, x27 => if x27 < x26 then (if 0 ≤ x27 then (if x27 < (x0.length : Int) then (if x27 < (x1.length : Int) then ((thrumref01_Mul.f (rd x0 x27) (rd x1 x27) x2).bind fun bt275 => (if bt275.2 = 0 then ((thrumref01_Add.f x9 bt275.1).bind fun bt277 => (if bt277.2 = 0 then (thrumref02_DotP.l0 k x0 x1 x2 bt277.1 x26 (wrap64 (x27 + 1))) else (some (0, bt277.2)))) else (some (0, bt275.2)))) else (none)) else (none)) else (none)) else (some (x9, 0))
end
def thrumref02_DotP.f (k : Nat) (l0 : List Int) (l1 : List Int) (a2 : Int) : Option (Int × Int) := (thrumref02_two.f l0 l1).bind fun t272 => (if t272 = 0 then (if a2 < 0 then (thrumref02_DotP.j0 k l0 l1 a2 true) else (thrumref02_DotP.j0 k l0 l1 a2 (decide (a2 > 30)))) else (some (0, t272)))
theorem thrumref02_DotP.mono_l : ∀ k, (∀ y0 y1 y2 y3, LeO (thrumref02_DotP.j0 k y0 y1 y2 y3) (thrumref02_DotP.j0 (k + 1) y0 y1 y2 y3)) ∧ (∀ y0 y1 y2 y3 y4 y5, LeO (thrumref02_DotP.l0 k y0 y1 y2 y3 y4 y5) (thrumref02_DotP.l0 (k + 1) y0 y1 y2 y3 y4 y5))
 | 0 => ⟨fun _ _ _ _ r h => by simp [thrumref02_DotP.j0] at h, fun _ _ _ _ _ _ r h => by simp [thrumref02_DotP.l0] at h⟩
 | k + 1 => by
  obtain ⟨ih0, ih1⟩ := thrumref02_DotP.mono_l k
  refine ⟨?_, ?_⟩
  ·
   intro y0 y1 y2 y3
   unfold thrumref02_DotP.j0
   repeat' first
   | (with_reducible exact ih0 _ _ _ _)
   | (with_reducible exact ih1 _ _ _ _ _ _)
   | (with_reducible exact LeO.refl _)
   | (with_reducible exact LeO.none _)
   | (with_reducible refine LeO.ite ?_ ?_)
   | (with_reducible refine LeO.bind ?_ (fun _ => ?_))
  ·
   intro y0 y1 y2 y3 y4 y5
   unfold thrumref02_DotP.l0
   repeat' first
   | (with_reducible exact ih0 _ _ _ _)
   | (with_reducible exact ih1 _ _ _ _ _ _)
   | (with_reducible exact LeO.refl _)
   | (with_reducible exact LeO.none _)
   | (with_reducible refine LeO.ite ?_ ?_)
   | (with_reducible refine LeO.bind ?_ (fun _ => ?_))
theorem thrumref02_DotP.mono : ∀ a0 a1 a2 k, LeO (thrumref02_DotP.f k a0 a1 a2) (thrumref02_DotP.f (k + 1) a0 a1 a2) := by
 intro a0 a1 a2 k
 obtain ⟨ih0, ih1⟩ := thrumref02_DotP.mono_l k
 unfold thrumref02_DotP.f
 repeat' first
   | (with_reducible exact ih0 _ _ _ _)
   | (with_reducible exact ih1 _ _ _ _ _ _)
   | (with_reducible exact LeO.refl _)
   | (with_reducible exact LeO.none _)
   | (with_reducible refine LeO.ite ?_ ?_)
   | (with_reducible refine LeO.bind ?_ (fun _ => ?_))
set_option maxHeartbeats 8000000 in
set_option maxRecDepth 100000 in
theorem thrumref02_DotP.calls (k : Nat) (A0 : Option Addr) (c0 : Nat) (l0 : List Int) (A1 : Option Addr) (c1 : Nat) (l1 : List Int) (a2 : Int) (r1 : Int) (r2 : Int) (w : World) (hr0 : Kd.C (Kd.int .i64) w A0 l0.length l0) (hc0 : l0.length ≤ c0) (hr1 : Kd.C (Kd.int .i64) w A1 l1.length l1) (hc1 : l1.length ≤ c1) (h : thrumref02_DotP.f k l0 l1 a2 = some (r1, r2)) :
  Calls Try.prog 63 #[.slice A0 l0.length c0, .slice A1 l1.length c1, .int .i64 a2] w fun e w' => e = .returned (.tuple #[.int .i64 r1, .int .i64 r2]) ∧ Drawn0 w w' := by
 have HR0 := ZM hr0
 have HC0 := ZM hc0
 clear hr0 hc0
 have HR1 := ZM hr1
 have HC1 := ZM hc1
 clear hr1 hc1
 have H : ((thrumref02_two.f l0 l1).bind fun t272 => (if t272 = 0 then (if a2 < 0 then (thrumref02_DotP.j0 k l0 l1 a2 true) else (thrumref02_DotP.j0 k l0 l1 a2 (decide (a2 > 30)))) else (some (0, t272)))) = some (r1, r2) := h
 clear h
 replace H := Option.bind_eq_some_iff.mp H
 obtain ⟨t272, A40, H⟩ := H
 replace H : (if t272 = 0 then (if a2 < 0 then (thrumref02_DotP.j0 k l0 l1 a2 true) else (thrumref02_DotP.j0 k l0 l1 a2 (decide (a2 > 30)))) else (some (0, t272))) = some (r1, r2) := H
 have A4 := ZM A40
 clear A40
 by_cases c5 : t272 = 0
 case neg =>
  rw [if_neg c5] at H
  have c5b0 : (t272 == 0) = false := beq_eq_false_iff_ne.mpr c5
  have c5b1 : (t272 != 0) = true := bne_iff_ne.mpr c5
  simp only [Option.some.injEq, Prod.mk.injEq] at H
  obtain ⟨rfl, rfl⟩ := H
  go_enter Try.func63, Try.ntmps63
  go_wp2_with (first | (go_at_call 81; (with_reducible refine (thrumref02_two.calls _ _ l0 _ _ l1 t272 _ ?side1 ?side2 ?side3 ?side4 A4.out).mono ?_); (case side1 => exact Z14); (case side2 => exact HC0.out); (case side3 => exact Z6); (case side4 => exact HC1.out); rintro e w' ⟨rfl, ⟨nd, rfl⟩⟩; (try first | exact ⟨rfl, _, wwN _ _ _⟩ | exact ⟨rfl, _, ww3 _ _ _ _⟩)))
  repeat (go_quiet (first | (go_at_call 81; (with_reducible refine (thrumref02_two.calls _ _ l0 _ _ l1 t272 _ ?side1 ?side2 ?side3 ?side4 A4.out).mono ?_); (case side1 => exact Z14); (case side2 => exact HC0.out); (case side3 => exact Z6); (case side4 => exact HC1.out); rintro e w' ⟨rfl, ⟨nd, rfl⟩⟩; (try first | exact ⟨rfl, _, wwN _ _ _⟩ | exact ⟨rfl, _, ww3 _ _ _ _⟩))); try go_wp2_with (first | (go_at_call 81; (with_reducible refine (thrumref02_two.calls _ _ l0 _ _ l1 t272 _ ?side1 ?side2 ?side3 ?side4 A4.out).mono ?_); (case side1 => exact Z14); (case side2 => exact HC0.out); (case side3 => exact Z6); (case side4 => exact HC1.out); rintro e w' ⟨rfl, ⟨nd, rfl⟩⟩; (try first | exact ⟨rfl, _, wwN _ _ _⟩ | exact ⟨rfl, _, ww3 _ _ _ _⟩))))
  go_ret2
  exact ⟨by first | rfl | (simp; done) | (simp [*]; done), by repeat (first | exact ddR _ | apply ddS)⟩
 rw [if_pos c5] at H
 have c5b0 : (t272 == 0) = true := beq_iff_eq.mpr c5
 have c5b1 : (t272 != 0) = false := bne_eq_false_iff_eq.mpr c5
 clear c5
 have HC6 := ZM H
 clear H
 go_enter Try.func63, Try.ntmps63
 go_upto_region 4 with (first | (go_at_call 81; (with_reducible refine (thrumref02_two.calls _ _ l0 _ _ l1 t272 _ ?side1 ?side2 ?side3 ?side4 A4.out).mono ?_); (case side1 => exact Z14); (case side2 => exact HC0.out); (case side3 => exact Z6); (case side4 => exact HC1.out); rintro e w' ⟨rfl, ⟨nd, rfl⟩⟩; (try first | exact ⟨rfl, _, wwN _ _ _⟩ | exact ⟨rfl, _, ww3 _ _ _ _⟩)))
 repeat (go_quiet (first | (go_at_call 81; (with_reducible refine (thrumref02_two.calls _ _ l0 _ _ l1 t272 _ ?side1 ?side2 ?side3 ?side4 A4.out).mono ?_); (case side1 => exact Z14); (case side2 => exact HC0.out); (case side3 => exact Z6); (case side4 => exact HC1.out); rintro e w' ⟨rfl, ⟨nd, rfl⟩⟩; (try first | exact ⟨rfl, _, wwN _ _ _⟩ | exact ⟨rfl, _, ww3 _ _ _ _⟩))); go_upto_region 4 with (first | (go_at_call 81; (with_reducible refine (thrumref02_two.calls _ _ l0 _ _ l1 t272 _ ?side1 ?side2 ?side3 ?side4 A4.out).mono ?_); (case side1 => exact Z14); (case side2 => exact HC0.out); (case side3 => exact Z6); (case side4 => exact HC1.out); rintro e w' ⟨rfl, ⟨nd, rfl⟩⟩; (try first | exact ⟨rfl, _, wwN _ _ _⟩ | exact ⟨rfl, _, ww3 _ _ _ _⟩))))
 (try simp only [Act.put, Zt])
 go_cut [24] (fun v24 wc => ∃ (kq : Nat) (x24_5 : Bool), v24 = .bool x24_5 ∧ Aside0 (thrumref02_DotP.j0 kq l0 l1 a2 x24_5 = some (r1, r2)) ∧ Aside0 (kq ≤ k) ∧ Drawn0 w wc)
 case first =>
  have H := HC6.out
  clear HC6
  by_cases c7 : a2 < 0
  case neg =>
   rw [if_neg c7] at H
   have c7b0 : decide (a2 < 0) = false := decide_eq_false c7
   clear c7
   (first | rw [c7b0] | (simp only [i64_w, i32_w]; rw [c7b0]) | skip)
   have H' := ZM H
   clear H
   go_wp2
   repeat (go_quiet (fail); try go_wp2)
   go_meet
   case rel => exact ⟨_, (decide (a2 > 30)), Z5, H', ⟨by first | omega | exact Nat.le_refl _⟩, by repeat (first | exact ddR _ | apply ddS)⟩
  rw [if_pos c7] at H
  have c7b0 : decide (a2 < 0) = true := decide_eq_true c7
  clear c7
  (first | rw [c7b0] | (simp only [i64_w, i32_w]; rw [c7b0]) | skip)
  have H' := ZM H
  clear H
  go_wp2
  repeat (go_quiet (fail); try go_wp2)
  go_meet
  case rel => exact ⟨_, (true), Z5, H', ⟨by first | omega | exact Nat.le_refl _⟩, by repeat (first | exact ddR _ | apply ddS)⟩
 clear HC6
 try clear c1
 try clear c5
 try clear c5b0
 try clear c5b1
 obtain ⟨kq, x24_5, rfl, HA, HJ5, ⟨mc5, rfl⟩⟩ := hcut
 cases kq with
 | zero => exact absurd HA.out (by simp [thrumref02_DotP.j0])
 | succ kj5 =>
  have H := HA.out
  clear HA
  simp only [thrumref02_DotP.j0] at H
  by_cases c8 : x24_5 = true
  ·
   subst c8
   have H1 : (some (0, 1)) = some (r1, r2) := by rw [if_pos rfl] at H; exact H
   clear H
   have H := H1
   clear H1
   simp only [Option.some.injEq, Prod.mk.injEq] at H
   obtain ⟨rfl, rfl⟩ := H
   go_wp2
   repeat (go_quiet (fail); try go_wp2)
   go_ret2
   exact ⟨by first | rfl | (simp; done) | (simp [*]; done), by repeat (first | exact ddR _ | apply ddS)⟩
  replace c8 := Bool.eq_false_iff.mpr c8
  subst c8
  have H1 : (thrumref02_DotP.l0 kj5 l0 l1 a2 0 (l0.length : Int) 0) = some (r1, r2) := by rw [if_neg (show ¬ (false = true) by decide)] at H; exact H
  clear H
  have H := H1
  clear H1
  have H' := ZM H
  clear H
  go_wp2
  repeat (go_quiet (fail); try go_wp2)
  go_loopg [9, 27] kj5 (fun kq v9 v27 w' => ∃ (x9_2 : Int) (x27_2 : Int), v9 = .int .i64 x9_2 ∧ v27 = .int .i64 x27_2 ∧ Aside0 (thrumref02_DotP.l0 kq l0 l1 a2 x9_2 (l0.length : Int) x27_2 = some (r1, r2)) ∧ Aside0 (kq ≤ kj5) ∧ Drawn0 w w')
  case atStart => exact ⟨(0), (0), Z5, Z5, H', ⟨Nat.le_refl _⟩, by repeat (first | exact ddR _ | apply ddS)⟩
  case round =>
   clear H'
   try clear c1
   try clear c5
   try clear c5b0
   try clear c5b1
   try clear c8
   obtain ⟨x9_2, x27_2, rfl, rfl, HA, HK2, ⟨m2, rfl⟩⟩ := hrel
   cases gk with
   | zero => exact absurd HA.out (by simp [thrumref02_DotP.l0])
   | succ k2 =>
    have H := HA.out
    clear HA
    simp only [thrumref02_DotP.l0] at H
    by_cases c9 : x27_2 < (l0.length : Int)
    case neg =>
     rw [if_neg c9] at H
     have c9b0 : decide (x27_2 < (l0.length : Int)) = false := decide_eq_false c9
     clear c9
     simp only [Option.some.injEq, Prod.mk.injEq] at H
     obtain ⟨rfl, rfl⟩ := H
     go_wp2
     repeat (go_quiet (fail); try go_wp2)
     go_ret2
     exact ⟨by first | rfl | (simp; done) | (simp [*]; done), by repeat (first | exact ddR _ | apply ddS)⟩
    rw [if_pos c9] at H
    have c9b0 : decide (x27_2 < (l0.length : Int)) = true := decide_eq_true c9
    clear c9
    by_cases c10 : 0 ≤ x27_2
    case neg =>
     rw [if_neg c10] at H
     exact absurd H (by simp)
    rw [if_pos c10] at H
    have c10b0 : decide (0 ≤ x27_2) = true := decide_eq_true c10
    clear c10
    by_cases c11 : x27_2 < (l0.length : Int)
    case neg =>
     rw [if_neg c11] at H
     exact absurd H (by simp)
    rw [if_pos c11] at H
    have c11b0 : decide (x27_2 < (l0.length : Int)) = true := decide_eq_true c11
    clear c11
    by_cases c12 : x27_2 < (l1.length : Int)
    case neg =>
     rw [if_neg c12] at H
     exact absurd H (by simp)
    rw [if_pos c12] at H
    have c12b0 : decide (x27_2 < (l1.length : Int)) = true := decide_eq_true c12
    clear c12
    replace H := Option.bind_eq_some_iff.mp H
    obtain ⟨⟨t275, t276⟩, A130, H⟩ := H
    replace H : (if t276 = 0 then ((thrumref01_Add.f x9_2 t275).bind fun bt277 => (if bt277.2 = 0 then (thrumref02_DotP.l0 k2 l0 l1 a2 bt277.1 (l0.length : Int) (wrap64 (x27_2 + 1))) else (some (0, bt277.2)))) else (some (0, t276))) = some (r1, r2) := H
    have A13 := ZM A130
    clear A130
    by_cases c14 : t276 = 0
    case neg =>
     rw [if_neg c14] at H
     have c14b0 : (t276 == 0) = false := beq_eq_false_iff_ne.mpr c14
     have c14b1 : (t276 != 0) = true := bne_iff_ne.mpr c14
     simp only [Option.some.injEq, Prod.mk.injEq] at H
     obtain ⟨rfl, rfl⟩ := H
     have p273 : 0 ≤ (x27_2 : Int) := of_decide_eq_true Z3
     have q273 : x27_2 < (l0.length : Int) := of_decide_eq_true Z3
     obtain ⟨ad273, e273, hx273_0⟩ := Kd.at_int HR0.out x27_2 p273 q273
     cases e273
     replace p273 := eq_true p273
     replace q273 := eq_true q273
     have p274 : 0 ≤ (x27_2 : Int) := of_decide_eq_true Z3
     have q274 : x27_2 < (l1.length : Int) := of_decide_eq_true Z3
     obtain ⟨ad274, e274, hx274_0⟩ := Kd.at_int HR1.out x27_2 p274 q274
     cases e274
     replace p274 := eq_true p274
     replace q274 := eq_true q274
     go_wp2_with (first | (go_at_call 82; (with_reducible refine (thrumref01_Mul.calls (rd l0 x27_2) (rd l1 x27_2) a2 t275 t276 _ A13.out).mono ?_); rintro e w' ⟨rfl, ⟨nd, rfl⟩⟩; (try first | exact ⟨rfl, _, wwN _ _ _⟩ | exact ⟨rfl, _, ww3 _ _ _ _⟩)))
     repeat (go_quiet (first | (go_at_call 82; (with_reducible refine (thrumref01_Mul.calls (rd l0 x27_2) (rd l1 x27_2) a2 t275 t276 _ A13.out).mono ?_); rintro e w' ⟨rfl, ⟨nd, rfl⟩⟩; (try first | exact ⟨rfl, _, wwN _ _ _⟩ | exact ⟨rfl, _, ww3 _ _ _ _⟩))); try go_wp2_with (first | (go_at_call 82; (with_reducible refine (thrumref01_Mul.calls (rd l0 x27_2) (rd l1 x27_2) a2 t275 t276 _ A13.out).mono ?_); rintro e w' ⟨rfl, ⟨nd, rfl⟩⟩; (try first | exact ⟨rfl, _, wwN _ _ _⟩ | exact ⟨rfl, _, ww3 _ _ _ _⟩))))
     go_ret2
     exact ⟨by first | rfl | (simp; done) | (simp [*]; done), by repeat (first | exact ddR _ | apply ddS)⟩
    rw [if_pos c14] at H
    have c14b0 : (t276 == 0) = true := beq_iff_eq.mpr c14
    have c14b1 : (t276 != 0) = false := bne_eq_false_iff_eq.mpr c14
    clear c14
    replace H := Option.bind_eq_some_iff.mp H
    obtain ⟨⟨t277, t278⟩, A150, H⟩ := H
    replace H : (if t278 = 0 then (thrumref02_DotP.l0 k2 l0 l1 a2 t277 (l0.length : Int) (wrap64 (x27_2 + 1))) else (some (0, t278))) = some (r1, r2) := H
    have A15 := ZM A150
    clear A150
    by_cases c16 : t278 = 0
    case neg =>
     rw [if_neg c16] at H
     have c16b0 : (t278 == 0) = false := beq_eq_false_iff_ne.mpr c16
     have c16b1 : (t278 != 0) = true := bne_iff_ne.mpr c16
     simp only [Option.some.injEq, Prod.mk.injEq] at H
     obtain ⟨rfl, rfl⟩ := H
     have p273 : 0 ≤ (x27_2 : Int) := of_decide_eq_true Z3
     have q273 : x27_2 < (l0.length : Int) := of_decide_eq_true Z3
     obtain ⟨ad273, e273, hx273_0⟩ := Kd.at_int HR0.out x27_2 p273 q273
     cases e273
     replace p273 := eq_true p273
     replace q273 := eq_true q273
     have p274 : 0 ≤ (x27_2 : Int) := of_decide_eq_true Z3
     have q274 : x27_2 < (l1.length : Int) := of_decide_eq_true Z3
     obtain ⟨ad274, e274, hx274_0⟩ := Kd.at_int HR1.out x27_2 p274 q274
     cases e274
     replace p274 := eq_true p274
     replace q274 := eq_true q274
     go_wp2_with (first | (go_at_call 82; (with_reducible refine (thrumref01_Mul.calls (rd l0 x27_2) (rd l1 x27_2) a2 t275 t276 _ A13.out).mono ?_); rintro e w' ⟨rfl, ⟨nd, rfl⟩⟩; (try first | exact ⟨rfl, _, wwN _ _ _⟩ | exact ⟨rfl, _, ww3 _ _ _ _⟩)) | (go_at_call 64; (with_reducible refine (thrumref01_Add.calls x9_2 t275 t277 t278 _ A15.out).mono ?_); rintro e w' ⟨rfl, ⟨nd, rfl⟩⟩; (try first | exact ⟨rfl, _, wwN _ _ _⟩ | exact ⟨rfl, _, ww3 _ _ _ _⟩)))
     repeat (go_quiet (first | (go_at_call 82; (with_reducible refine (thrumref01_Mul.calls (rd l0 x27_2) (rd l1 x27_2) a2 t275 t276 _ A13.out).mono ?_); rintro e w' ⟨rfl, ⟨nd, rfl⟩⟩; (try first | exact ⟨rfl, _, wwN _ _ _⟩ | exact ⟨rfl, _, ww3 _ _ _ _⟩)) | (go_at_call 64; (with_reducible refine (thrumref01_Add.calls x9_2 t275 t277 t278 _ A15.out).mono ?_); rintro e w' ⟨rfl, ⟨nd, rfl⟩⟩; (try first | exact ⟨rfl, _, wwN _ _ _⟩ | exact ⟨rfl, _, ww3 _ _ _ _⟩))); try go_wp2_with (first | (go_at_call 82; (with_reducible refine (thrumref01_Mul.calls (rd l0 x27_2) (rd l1 x27_2) a2 t275 t276 _ A13.out).mono ?_); rintro e w' ⟨rfl, ⟨nd, rfl⟩⟩; (try first | exact ⟨rfl, _, wwN _ _ _⟩ | exact ⟨rfl, _, ww3 _ _ _ _⟩)) | (go_at_call 64; (with_reducible refine (thrumref01_Add.calls x9_2 t275 t277 t278 _ A15.out).mono ?_); rintro e w' ⟨rfl, ⟨nd, rfl⟩⟩; (try first | exact ⟨rfl, _, wwN _ _ _⟩ | exact ⟨rfl, _, ww3 _ _ _ _⟩))))
     go_ret2
     exact ⟨by first | rfl | (simp; done) | (simp [*]; done), by repeat (first | exact ddR _ | apply ddS)⟩
    rw [if_pos c16] at H
    have c16b0 : (t278 == 0) = true := beq_iff_eq.mpr c16
    have c16b1 : (t278 != 0) = false := bne_eq_false_iff_eq.mpr c16
    clear c16
    have H' := ZM H
    clear H
    have p273 : 0 ≤ (x27_2 : Int) := of_decide_eq_true Z3
    have q273 : x27_2 < (l0.length : Int) := of_decide_eq_true Z3
    obtain ⟨ad273, e273, hx273_0⟩ := Kd.at_int HR0.out x27_2 p273 q273
    cases e273
    replace p273 := eq_true p273
    replace q273 := eq_true q273
    have p274 : 0 ≤ (x27_2 : Int) := of_decide_eq_true Z3
    have q274 : x27_2 < (l1.length : Int) := of_decide_eq_true Z3
    obtain ⟨ad274, e274, hx274_0⟩ := Kd.at_int HR1.out x27_2 p274 q274
    cases e274
    replace p274 := eq_true p274
    replace q274 := eq_true q274
    go_wp2_with (first | (go_at_call 82; (with_reducible refine (thrumref01_Mul.calls (rd l0 x27_2) (rd l1 x27_2) a2 t275 t276 _ A13.out).mono ?_); rintro e w' ⟨rfl, ⟨nd, rfl⟩⟩; (try first | exact ⟨rfl, _, wwN _ _ _⟩ | exact ⟨rfl, _, ww3 _ _ _ _⟩)) | (go_at_call 64; (with_reducible refine (thrumref01_Add.calls x9_2 t275 t277 t278 _ A15.out).mono ?_); rintro e w' ⟨rfl, ⟨nd, rfl⟩⟩; (try first | exact ⟨rfl, _, wwN _ _ _⟩ | exact ⟨rfl, _, ww3 _ _ _ _⟩)))
    repeat (go_quiet (first | (go_at_call 82; (with_reducible refine (thrumref01_Mul.calls (rd l0 x27_2) (rd l1 x27_2) a2 t275 t276 _ A13.out).mono ?_); rintro e w' ⟨rfl, ⟨nd, rfl⟩⟩; (try first | exact ⟨rfl, _, wwN _ _ _⟩ | exact ⟨rfl, _, ww3 _ _ _ _⟩)) | (go_at_call 64; (with_reducible refine (thrumref01_Add.calls x9_2 t275 t277 t278 _ A15.out).mono ?_); rintro e w' ⟨rfl, ⟨nd, rfl⟩⟩; (try first | exact ⟨rfl, _, wwN _ _ _⟩ | exact ⟨rfl, _, ww3 _ _ _ _⟩))); try go_wp2_with (first | (go_at_call 82; (with_reducible refine (thrumref01_Mul.calls (rd l0 x27_2) (rd l1 x27_2) a2 t275 t276 _ A13.out).mono ?_); rintro e w' ⟨rfl, ⟨nd, rfl⟩⟩; (try first | exact ⟨rfl, _, wwN _ _ _⟩ | exact ⟨rfl, _, ww3 _ _ _ _⟩)) | (go_at_call 64; (with_reducible refine (thrumref01_Add.calls x9_2 t275 t277 t278 _ A15.out).mono ?_); rintro e w' ⟨rfl, ⟨nd, rfl⟩⟩; (try first | exact ⟨rfl, _, wwN _ _ _⟩ | exact ⟨rfl, _, ww3 _ _ _ _⟩))))
    go_roundg k2
    case measure => have := HJ5.out; have := HK2.out; omega
    case rel => exact ⟨(t277), (wrap64 (x27_2 + 1)), Z5, Z5, H', ⟨by have := HJ5.out; have := HK2.out; omega⟩, by repeat (first | exact ddR _ | apply ddS)⟩
theorem thrumref02_DotP.loop (x0 x1 : List Int) (x2 : Int) (hl : x0.length = x1.length) (hb : x0.length ≤ 4096) : ∀ (d i : Nat) (s : Int), d + i = x0.length →
    thrumref02_DotP.l0 (d + 1) x0 x1 x2 s (x0.length : Int) (i : Int) = totalGo thrumref01_Add.f (fun i : Nat => thrumref01_Mul.f (rd x0 i) (rd x1 i) x2) d i s := by
  intro d
  induction d with
  | zero =>
    intro i s hd
    rw [thrumref02_DotP.l0, if_neg (by omega)]; rfl
  | succ d ih =>
    intro i s hd
    rw [thrumref02_DotP.l0, if_pos (by omega), if_pos (by omega), if_pos (by omega), if_pos (by omega), totalGo]
    congr 1; funext p
    by_cases c : p.2 = 0
    · rw [if_pos c, if_pos c]
      congr 1; funext q
      by_cases c2 : q.2 = 0
      · rw [if_pos c2, if_pos c2, wrap64_of (by unfold I64; omega), show (i : Int) + 1 = ((i + 1 : Nat) : Int) by omega]
        exact ih (i + 1) _ (by omega)
      · rw [if_neg c2, if_neg c2]
    · rw [if_neg c, if_neg c]
def thrumref02_Dot.f (l0 l1 : List Int) (a2 : Int) : Option (Int × Int) := if V64 l0 ∧ V64 l1 then some (dotV l0 l1 a2) else none
theorem thrumref02_Dot.of (l0 l1 : List Int) (a2 : Int)  (h_ : V64 l0 ∧ V64 l1) : thrumref02_Dot.f l0 l1 a2 = some (dotV l0 l1 a2) := if_pos h_
theorem thrumref02_Dot.calls (A0 : Option Addr) (c0 : Nat) (l0 : List Int) (A1 : Option Addr) (c1 : Nat) (l1 : List Int) (a2 : Int) (r1 : Int) (r2 : Int) (w : World) (hr0 : Kd.C (Kd.int .i64) w A0 l0.length l0) (hc0 : l0.length ≤ c0) (hr1 : Kd.C (Kd.int .i64) w A1 l1.length l1) (hc1 : l1.length ≤ c1) (h : thrumref02_Dot.f l0 l1 a2 = some (r1, r2)) :
    Calls Try.prog 63 #[.slice A0 l0.length c0, .slice A1 l1.length c1, .int .i64 a2] w fun e w' => e = .returned (.tuple #[.int .i64 r1, .int .i64 r2]) ∧ Drawn0 w w' := by
  unfold thrumref02_Dot.f at h
  split at h
  case isFalse => cases h
  rename_i hv
  refine thrumref02_DotP.calls (l0.length + 2) A0 c0 l0 A1 c1 l1 a2 r1 r2 w hr0 hc0 hr1 hc1 (Eq.trans ?_ h)
  unfold thrumref02_DotP.f thrumref02_two.f dotV fracE
  simp only [Option.bind_some]
  by_cases c : pairE l0 l1 = 0
  · rw [if_pos c, if_pos c]
    by_cases c2 : 0 ≤ a2 ∧ a2 ≤ 30
    · rw [if_neg (by omega), thrumref02_DotP.j0, if_neg (by simp; omega), if_pos c2, if_pos rfl]
      refine (thrumref02_DotP.loop l0 l1 a2 (pairE_len c) (pairE_le c) l0.length 0 0 (by omega)).trans ?_
      have hl := pairE_len c
      exact total_spec (fun a b ha hb => thrumref01_Add.of a b ⟨ha, hb⟩) (zip_i64 (fun x y => mulF_i64 x y a2) l0 l1) (ps := List.zipWith (fun x y => mulF x y a2) l0 l1) (by rw [List.length_zipWith]; omega) (fun j h => by rw [zip_get _ _ hl j h]; exact thrumref01_Mul.of _ _ _ ⟨hv.1.rd _, hv.2.rd _⟩)
    · rw [if_neg c2, if_neg (show ¬ (1 : Int) = 0 by decide)]
      by_cases c3 : a2 < 0
      · rw [if_pos c3, thrumref02_DotP.j0, if_pos rfl]
      · rw [if_neg c3, thrumref02_DotP.j0, if_pos (decide_eq_true (by omega))]
  · rw [if_neg c, if_neg c]


end Go.Proofs.Ytihgcjagokippaa.HS
