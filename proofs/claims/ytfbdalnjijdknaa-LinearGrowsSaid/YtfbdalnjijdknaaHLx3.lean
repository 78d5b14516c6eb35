/- What Go functions do, each as a plain Lean function with the same answers, and the proof of it, in every world: printed by the session's driver over the kit's print, with texts by hand. -/
import Derived.Test.YtfbdalnjijdknaaHLx0
namespace Go.Proofs.Ytfbdalnjijdknaa.HL
open Go.RowKit Go.Proofs.YtfbdalnjijdknaaW.PrintWords Go.Proofs.YtfbdalnjijdknaaW.PrintLast Go.Proofs.YtfbdalnjijdknaaW.PrintMore
attribute [local go_sem] max2_int min2_int max_two min_two max_three min_three max_four min_four   -- for this text's walks alone
open Go.Proofs.Ytfbdalnjijdknaa.Sp
attribute [local go_sem] Go.Proofs.Ytfbdalnjijdknaa.Sp.u64_not
set_option linter.unusedVariables false
set_option linter.unusedSimpArgs false

/-! ### fix_behindP: function 154 -/
def fix_behindP.f (a0 : Int) : Option (Bool) := if a0 ≥ 0 then (some (decide (a0 ≤ 30))) else (some false)
set_option maxHeartbeats 8000000 in
set_option maxRecDepth 100000 in
theorem fix_behindP.calls (a0 : Int) (r : Bool) (w : World) (h : fix_behindP.f a0 = some r) :
    Calls Try.prog 154 #[.int .i64 a0] w fun e w' => e = .returned (.bool r) ∧ Drawn0 w w' := by
  have H : (if a0 ≥ 0 then (some (decide (a0 ≤ 30))) else (some false)) = some r := h
  clear h
  by_cases c2 : a0 ≥ 0
  · rw [if_pos c2] at H
    have c2b0 : decide (0 ≤ a0) = true := decide_eq_true c2
    clear c2
    obtain rfl := Option.some.inj H
    go_enter Try.func154, Try.ntmps154
    go_wp2
    go_ret
    exact ⟨by first | rfl | (simp; done) | (simp [*]; done), by repeat (first | exact Drawn0.refl _ | apply Drawn0.step)⟩
  · rw [if_neg c2] at H
    have c2b0 : decide (0 ≤ a0) = false := decide_eq_false c2
    clear c2
    obtain rfl := Option.some.inj H
    go_enter Try.func154, Try.ntmps154
    go_wp2
    go_ret
    exact ⟨by first | rfl | (simp; done) | (simp [*]; done), by repeat (first | exact Drawn0.refl _ | apply Drawn0.step)⟩

def fix_behind.f (a0 : Int) : Option Bool := some (decide (0 ≤ a0 ∧ a0 ≤ 30))
theorem fix_behind.calls (a0 : Int) (r : Bool) (w : World) (h : fix_behind.f a0 = some r) :
    Calls Try.prog 154 #[.int .i64 a0] w fun e w' => e = .returned (.bool r) ∧ Drawn0 w w' := by
  refine fix_behindP.calls a0 r w ?_
  rw [← h]; unfold fix_behindP.f fix_behind.f
  by_cases c : a0 ≥ 0
  · rw [if_pos c]; simp [c]
  · rw [if_neg c]; simp [c]


/-! ### bits_Mul64P: function 155 -/
def bits_Mul64P.f (a0 : Int) (a1 : Int) : Option (Int × Int) := some (IntKind.u64.wrap ((IntKind.u64.wrap ((IntKind.u64.wrap ((a0 / 4294967296) * (a1 / 4294967296))) + ((IntKind.u64.wrap ((IntKind.u64.wrap ((a0 / 4294967296) * (Go.bits .and .u64 a1 4294967295))) + ((IntKind.u64.wrap ((Go.bits .and .u64 a0 4294967295) * (Go.bits .and .u64 a1 4294967295))) / 4294967296))) / 4294967296))) + ((IntKind.u64.wrap ((Go.bits .and .u64 (IntKind.u64.wrap ((IntKind.u64.wrap ((a0 / 4294967296) * (Go.bits .and .u64 a1 4294967295))) + ((IntKind.u64.wrap ((Go.bits .and .u64 a0 4294967295) * (Go.bits .and .u64 a1 4294967295))) / 4294967296))) 4294967295) + (IntKind.u64.wrap ((Go.bits .and .u64 a0 4294967295) * (a1 / 4294967296))))) / 4294967296)), IntKind.u64.wrap (a0 * a1))
set_option maxHeartbeats 8000000 in
set_option maxRecDepth 100000 in
theorem bits_Mul64P.calls (a0 : Int) (a1 : Int) (r1 : Int) (r2 : Int) (w : World) (h : bits_Mul64P.f a0 a1 = some (r1, r2)) :
    Calls Try.prog 155 #[.int .u64 a0, .int .u64 a1] w fun e w' => e = .returned (.tuple #[.int .u64 r1, .int .u64 r2]) ∧ Drawn0 w w' := by
  have H : (some (IntKind.u64.wrap ((IntKind.u64.wrap ((IntKind.u64.wrap ((a0 / 4294967296) * (a1 / 4294967296))) + ((IntKind.u64.wrap ((IntKind.u64.wrap ((a0 / 4294967296) * (Go.bits .and .u64 a1 4294967295))) + ((IntKind.u64.wrap ((Go.bits .and .u64 a0 4294967295) * (Go.bits .and .u64 a1 4294967295))) / 4294967296))) / 4294967296))) + ((IntKind.u64.wrap ((Go.bits .and .u64 (IntKind.u64.wrap ((IntKind.u64.wrap ((a0 / 4294967296) * (Go.bits .and .u64 a1 4294967295))) + ((IntKind.u64.wrap ((Go.bits .and .u64 a0 4294967295) * (Go.bits .and .u64 a1 4294967295))) / 4294967296))) 4294967295) + (IntKind.u64.wrap ((Go.bits .and .u64 a0 4294967295) * (a1 / 4294967296))))) / 4294967296)), IntKind.u64.wrap (a0 * a1))) = some (r1, r2) := h
  clear h
  simp only [Option.some.injEq, Prod.mk.injEq] at H
  obtain ⟨rfl, rfl⟩ := H
  go_enter Try.func155, Try.ntmps155
  go_wp2
  go_ret2
  exact ⟨by first | rfl | (simp; done) | (simp [*]; done), by repeat (first | exact Drawn0.refl _ | apply Drawn0.step)⟩

def bits_Mul64.f (a0 a1 : Int) : Option (Int × Int) := if U64 a0 ∧ U64 a1 then some (a0 * a1 / 18446744073709551616, a0 * a1 % 18446744073709551616) else none
theorem bits_Mul64.of (a0 a1 : Int)  (h_ : U64 a0 ∧ U64 a1) : bits_Mul64.f a0 a1 = some (a0 * a1 / 18446744073709551616, a0 * a1 % 18446744073709551616) := if_pos h_
theorem bits_Mul64P.spec {a0 a1 : Int} (h0 : U64 a0) (h1 : U64 a1) : bits_Mul64P.f a0 a1 = some (a0 * a1 / 18446744073709551616, a0 * a1 % 18446744073709551616) := by
  unfold bits_Mul64P.f
  rw [and32 h0, and32 h1]
  unfold U64 at h0 h1
  obtain ⟨x, rfl⟩ := Int.eq_ofNat_of_zero_le h0.1
  obtain ⟨y, rfl⟩ := Int.eq_ofNat_of_zero_le h1.1
  have hx : x < 18446744073709551616 := by omega
  have hy : y < 18446744073709551616 := by omega
  have hm : ((x * y / 18446744073709551616 : Nat) : Int) = (x : Int) * y / 18446744073709551616 := by simp
  obtain ⟨k1, k2, k3, k4⟩ := Lib.mul64_hi x y hx hy
  have e1 : (x : Int) / 4294967296 * ((y : Int) / 4294967296) = ((x / 4294967296 * (y / 4294967296) : Nat) : Int) := by simp
  have e2 : (x : Int) / 4294967296 * ((y : Int) % 4294967296) = ((x / 4294967296 * (y % 4294967296) : Nat) : Int) := by simp
  have e3 : (x : Int) % 4294967296 * ((y : Int) % 4294967296) = ((x % 4294967296 * (y % 4294967296) : Nat) : Int) := by simp
  have e4 : (x : Int) % 4294967296 * ((y : Int) / 4294967296) = ((x % 4294967296 * (y / 4294967296) : Nat) : Int) := by simp
  have ha := Lib.half_mul_le (a := x / 4294967296) (b := y / 4294967296) (by omega) (by omega)
  have hb := Lib.half_mul_le (a := x / 4294967296) (b := y % 4294967296) (by omega) (by omega)
  have hc := Lib.half_mul_le (a := x % 4294967296) (b := y / 4294967296) (by omega) (by omega)
  have hd := Lib.half_mul_le (a := x % 4294967296) (b := y % 4294967296) (by omega) (by omega)
  have hxy : x * y < 18446744073709551616 * 18446744073709551616 := by
    have := Nat.mul_le_mul (show x ≤ 18446744073709551615 by omega) (show y ≤ 18446744073709551615 by omega); omega
  rw [← hm]
  simp only [wu, and32m, e1, e2, e3, e4, Option.some.injEq, Prod.mk.injEq, and_true]
  clear e1 e2 e3 e4 hm
  generalize x / 4294967296 * (y / 4294967296) = a at *
  generalize x / 4294967296 * (y % 4294967296) = b at *
  generalize x % 4294967296 * (y / 4294967296) = c at *
  generalize x % 4294967296 * (y % 4294967296) = d at *
  generalize x * y = p at *
  omega
theorem bits_Mul64.calls (a0 : Int) (a1 : Int) (r1 : Int) (r2 : Int) (w : World) (h : bits_Mul64.f a0 a1 = some (r1, r2)) :
    Calls Try.prog 155 #[.int .u64 a0, .int .u64 a1] w fun e w' => e = .returned (.tuple #[.int .u64 r1, .int .u64 r2]) ∧ Drawn0 w w' := by
  unfold bits_Mul64.f at h
  split at h
  · rename_i hu
    exact bits_Mul64P.calls a0 a1 r1 r2 w ((bits_Mul64P.spec hu.1 hu.2).trans h)
  · cases h


/-! ### fix_times: function 166 -/
set_option maxRecDepth 100000 in
set_option maxHeartbeats 1000000 in
theorem fix_times.calls (a b : Int) (w : World) (ha : I64 a) (hb : I64 b) :
    Calls Try.prog 166 #[.int .i64 a, .int .i64 b] w fun e w' => e = .returned (.agg #[.int .u64 (a * b / 18446744073709551616 % 18446744073709551616), .int .u64 (a * b % 18446744073709551616)]) ∧ Below w.heap.size w w' := by
  have hm : bits_Mul64.f (IntKind.u64.wrap a) (IntKind.u64.wrap b) = some (IntKind.u64.wrap a * IntKind.u64.wrap b / 18446744073709551616, IntKind.u64.wrap a * IntKind.u64.wrap b % 18446744073709551616) := by
    unfold bits_Mul64.f; rw [if_pos ⟨by rw [wu]; unfold U64; omega, by rw [wu]; unfold U64; omega⟩]
  obtain ⟨h, hh⟩ : ∃ h, h = IntKind.u64.wrap a * IntKind.u64.wrap b / 18446744073709551616 := ⟨_, rfl⟩
  obtain ⟨l, hl⟩ : ∃ l, l = IntKind.u64.wrap a * IntKind.u64.wrap b % 18446744073709551616 := ⟨_, rfl⟩
  rw [← hh, ← hl] at hm
  have HM := Aside0.mk hm
  have HH := Aside0.mk hh
  have HL := Aside0.mk hl
  clear hm hh hl
  have fin : ∀ x y : Int, (if b < 0 then IntKind.u64.wrap ((if a < 0 then IntKind.u64.wrap (h - IntKind.u64.wrap b) else h) - IntKind.u64.wrap a) else (if a < 0 then IntKind.u64.wrap (h - IntKind.u64.wrap b) else h)) = x → l = y →
      x = a * b / 18446744073709551616 % 18446744073709551616 ∧ y = a * b % 18446744073709551616 := by
    rintro x y rfl rfl
    have hh := HH.out
    have hl := HL.out
    unfold I64 at ha hb
    simp only [wu] at hh hl ⊢
    have ea : a % 18446744073709551616 = if a < 0 then a + 18446744073709551616 else a := by split <;> omega
    have eb : b % 18446744073709551616 = if b < 0 then b + 18446744073709551616 else b := by split <;> omega
    rw [ea, eb] at hh hl
    by_cases c1 : a < 0 <;> by_cases c2 : b < 0 <;> simp only [c1, c2, if_true, if_false] at hh hl ⊢
    · have e : (a + 18446744073709551616) * (b + 18446744073709551616) = a * b + 18446744073709551616 * a + 18446744073709551616 * b + 18446744073709551616 * 18446744073709551616 := by grind
      rw [e] at hh hl
      generalize a * b = p at *
      omega
    · have e : (a + 18446744073709551616) * b = a * b + 18446744073709551616 * b := by grind
      rw [e] at hh hl
      generalize a * b = p at *
      omega
    · have e : a * (b + 18446744073709551616) = a * b + 18446744073709551616 * a := by grind
      rw [e] at hh hl
      generalize a * b = p at *
      omega
    · have hp : 0 ≤ a * b := Int.mul_nonneg (by omega) (by omega)
      have hq : a * b ≤ 9223372036854775807 * 9223372036854775807 := Int.mul_le_mul (by omega) (by omega) (by omega) (by omega)
      generalize a * b = p at *
      omega
  have FIN := Aside0.mk fin
  clear fin ha hb
  have hu := Try.underlying148
  by_cases c1 : a < 0 <;> by_cases c2 : b < 0
  all_goals
    have F := FIN.out _ _ rfl rfl
    simp only [c1, c2, if_true, if_false] at F
    have F0 := Aside0.mk F
    clear F FIN
    go_enter Try.func166, Try.ntmps166
    go_wp2_with (go_at_call 155; (with_reducible refine (bits_Mul64.calls (IntKind.u64.wrap a) (IntKind.u64.wrap b) h l _ HM.out).mono ?_); rintro e w' ⟨rfl, ⟨nd, rfl⟩⟩)
    obtain ⟨F1, F2⟩ := F0.out
    refine bodyPost_ret (v := .agg #[.int .u64 (a * b / 18446744073709551616 % 18446744073709551616), .int .u64 (a * b % 18446744073709551616)]) (by rw [← F1, ← F2]; simp [results, Try.results166, go_sem]) rfl ⟨rfl, ?_⟩
    exact ((pw_below_drewN (below_alloc (Below.refl _ _) _) _).setCell (Nat.le_refl _) _).setCell (Nat.le_refl _) _


/-! ### fix_product_down: function 167 -/
set_option maxRecDepth 100000 in
set_option maxHeartbeats 1000000 in
theorem fix_product_down.zero (hi lo : Int) (w : World) :
    Calls Try.prog 167 #[.agg #[.int .u64 hi, .int .u64 lo], .int .i64 0] w fun e w' => e = .returned (.agg #[.int .u64 hi, .int .u64 lo]) ∧ Below w.heap.size w w' := by
  have hu := Try.underlying148
  go_enter Try.func167, Try.ntmps167
  go_wp2
  exact bodyPost_ret (v := .agg #[.int .u64 hi, .int .u64 lo]) (by simp [results, Try.results167, go_sem]) rfl ⟨rfl, below_alloc (below_alloc (Below.refl _ _) _) _⟩
set_option maxRecDepth 100000 in
set_option maxHeartbeats 1000000 in
theorem fix_product_down.calls (hi lo by_ : Int) (w : World) (h0 : U64 hi) (h1 : U64 lo) (hb0 : 0 < by_) (hb : by_ ≤ 30) :
    Calls Try.prog 167 #[.agg #[.int .u64 hi, .int .u64 lo], .int .i64 by_] w fun e w' => e = .returned (.agg #[.int .u64 (IntKind.u64.wrap (wrap64 hi / 2 ^ by_.toNat)), .int .u64 (Go.bits .or .u64 (IntKind.u64.wrap (hi * 2 ^ (64 - by_).toNat)) (lo / 2 ^ by_.toNat))]) ∧ Below w.heap.size w w' := by
  unfold U64 at h0 h1
  have hu := Try.underlying148
  have c0 : (by_ == 0) = false := beq_eq_false_iff_ne.2 (by omega)
  go_enter Try.func167, Try.ntmps167
  go_wp2
  go_region
  all_goals (try go_wp2)
  all_goals
    refine bodyPost_ret (v := .agg #[.int .u64 (IntKind.u64.wrap (wrap64 hi / 2 ^ by_.toNat)), .int .u64 (Go.bits .or .u64 (IntKind.u64.wrap (hi * 2 ^ (64 - by_).toNat)) (lo / 2 ^ by_.toNat))]) (by simp [results, Try.results167, go_sem]) rfl ⟨rfl, ?_⟩
    exact Below.drew (below_alloc (below_alloc (Below.refl _ _) _) _)


/-! ### fix_product_narrow: function 168 -/
set_option maxRecDepth 100000 in
set_option maxHeartbeats 1000000 in
theorem fix_product_narrow.calls (hi lo : Int) (w : World) (h0 : U64 hi) (h1 : U64 lo) :
    Calls Try.prog 168 #[.agg #[.int .u64 hi, .int .u64 lo]] w fun e w' => e = .returned (if hi = IntKind.u64.wrap (wrap64 lo / 9223372036854775808) then .tuple #[.int .i64 (wrap64 lo), .int .i64 0] else .tuple #[.int .i64 0, .int .i64 2]) ∧ Below w.heap.size w w' := by
  unfold U64 at h0 h1
  obtain ⟨i, hi_⟩ : ∃ i, Try.prog.info? 49 = some i := by have := info49; cases h : Try.prog.info? 49 with | none => rw [h] at this; cases this | some i => exact ⟨i, rfl⟩
  have hq := fun (a b c d : Int) (w : World) => run_eq_arr2 (P := Try.prog) (t := 148) (e := 49) (k := .u64) Try.underlying148 hi_ Try.underlying49 (by kernel_rfl) (by kernel_rfl) a b c d w
  clear hi_
  have hu := Try.underlying148
  by_cases c : hi = IntKind.u64.wrap (wrap64 lo / 9223372036854775808)
  · rw [if_pos c]
    have c0 : (hi == IntKind.u64.wrap (wrap64 lo / 9223372036854775808)) = true := beq_iff_eq.2 c
    clear c
    go_enter Try.func168, Try.ntmps168
    go_wp2
    go_ret2
    exact ⟨rfl, below_alloc (Below.refl _ _) _⟩
  · rw [if_neg c]
    have c0 : (hi == IntKind.u64.wrap (wrap64 lo / 9223372036854775808)) = false := beq_eq_false_iff_ne.2 c
    clear c
    go_enter Try.func168, Try.ntmps168
    go_wp2
    go_ret2
    exact ⟨rfl, below_alloc (Below.refl _ _) _⟩


end Go.Proofs.Ytfbdalnjijdknaa.HL
