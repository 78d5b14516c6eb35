/- What Go functions do, each as a plain Lean function with the same answers, and the proof of it, in every world: printed by the session's driver over the kit's print, with texts by hand. -/
import Derived.Test.YtllicjinmlkcfaaHBx0
import Derived.Test.YtllicjinmlkcfaaHBx10
namespace Go.Proofs.Ytllicjinmlkcfaa.HB
open Go.RowKit Go.Proofs.YtllicjinmlkcfaaW.PrintWords Go.Proofs.YtllicjinmlkcfaaW.PrintLast Go.Proofs.YtllicjinmlkcfaaW.PrintMore
attribute [local go_sem] max2_int min2_int max_two min_two max_three min_three max_four min_four   -- for this text's walks alone
open Go.Proofs.Ytllicjinmlkcfaa.Sp
attribute [local go_sem] Go.Proofs.Ytllicjinmlkcfaa.Sp.u64_not
set_option linter.unusedVariables false
set_option linter.unusedSimpArgs false

/-! ### thrumref01_MulP: function 38 -/
mutual
def thrumref01_MulP.j0 : Nat → Int → Int → Int → Bool → Option (Int × Int)
  | 0, _, _, _, _ => none
  | k + 1, x0, x1, x2, x16 => if x16 = true then (some (0, 1)) else ((thrumref01_Wide.f x0 x1).bind fun bt234 => (thrumref01_MulP.l0 k bt234.1 bt234.2 x2 0))
def thrumref01_MulP.l0 : Nat → Int → Int → Int → Int → Option (Int × Int)
  | 0, _, _, _, _ => none
  | k + 1, x8, x9, x23, x24 => if x24 < x23 then (thrumref01_MulP.l0 k (x8 / 2) (Go.bits .or .u64 (x9 / 2) (IntKind.u64.wrap ((IntKind.u64.wrap (Go.bits .and .i64 x8 1)) * 9223372036854775808))) x23 (wrap64 (x24 + 1))) else (if x8 = ((wrap64 (x9)) / 9223372036854775808) then (some (wrap64 (x9), 0)) else (some (0, 2)))
end
def thrumref01_MulP.f (k : Nat) (a0 : Int) (a1 : Int) (a2 : Int) : Option (Int × Int) := if a2 < 0 then (thrumref01_MulP.j0 k a0 a1 a2 true) else (thrumref01_MulP.j0 k a0 a1 a2 (decide (a2 > 30)))
theorem thrumref01_MulP.mono_l : ∀ k, (∀ y0 y1 y2 y3, LeO (thrumref01_MulP.j0 k y0 y1 y2 y3) (thrumref01_MulP.j0 (k + 1) y0 y1 y2 y3)) ∧ (∀ y0 y1 y2 y3, LeO (thrumref01_MulP.l0 k y0 y1 y2 y3) (thrumref01_MulP.l0 (k + 1) y0 y1 y2 y3))
  | 0 => ⟨fun _ _ _ _ r h => by simp [thrumref01_MulP.j0] at h, fun _ _ _ _ r h => by simp [thrumref01_MulP.l0] at h⟩
  | k + 1 => by
    obtain ⟨ih0, ih1⟩ := thrumref01_MulP.mono_l k
    refine ⟨?_, ?_⟩
    · intro y0 y1 y2 y3
      unfold thrumref01_MulP.j0
      repeat' first
      | (with_reducible exact ih0 _ _ _ _)
      | (with_reducible exact ih1 _ _ _ _)
      | (with_reducible exact LeO.refl _)
      | (with_reducible exact LeO.none _)
      | (with_reducible refine LeO.ite ?_ ?_)
      | (with_reducible refine LeO.bind ?_ (fun _ => ?_))
      | exact ih0 _ _ _ _
      | exact ih1 _ _ _ _
      | exact LeO.none _
      | refine LeO.ite ?_ ?_
      | refine LeO.bind ?_ (fun _ => ?_)
    · intro y0 y1 y2 y3
      unfold thrumref01_MulP.l0
      repeat' first
      | (with_reducible exact ih0 _ _ _ _)
      | (with_reducible exact ih1 _ _ _ _)
      | (with_reducible exact LeO.refl _)
      | (with_reducible exact LeO.none _)
      | (with_reducible refine LeO.ite ?_ ?_)
      | (with_reducible refine LeO.bind ?_ (fun _ => ?_))
      | exact ih0 _ _ _ _
      | exact ih1 _ _ _ _
      | exact LeO.none _
      | refine LeO.ite ?_ ?_
      | refine LeO.bind ?_ (fun _ => ?_)
theorem thrumref01_MulP.mono : ∀ a0 a1 a2 k, LeO (thrumref01_MulP.f k a0 a1 a2) (thrumref01_MulP.f (k + 1) a0 a1 a2) := by
  intro a0 a1 a2 k
  obtain ⟨ih0, ih1⟩ := thrumref01_MulP.mono_l k
  unfold thrumref01_MulP.f
  repeat' first
      | (with_reducible exact ih0 _ _ _ _)
      | (with_reducible exact ih1 _ _ _ _)
      | (with_reducible exact LeO.refl _)
      | (with_reducible exact LeO.none _)
      | (with_reducible refine LeO.ite ?_ ?_)
      | (with_reducible refine LeO.bind ?_ (fun _ => ?_))
      | exact ih0 _ _ _ _
      | exact ih1 _ _ _ _
      | exact LeO.none _
      | refine LeO.ite ?_ ?_
      | refine LeO.bind ?_ (fun _ => ?_)
set_option maxHeartbeats 8000000 in
set_option maxRecDepth 100000 in
theorem thrumref01_MulP.calls (k : Nat) (a0 : Int) (a1 : Int) (a2 : Int) (r1 : Int) (r2 : Int) (w : World) (h : thrumref01_MulP.f k a0 a1 a2 = some (r1, r2)) :
    Calls Try.prog 38 #[.int .i64 a0, .int .i64 a1, .int .i64 a2] w fun e w' => e = .returned (.tuple #[.int .i64 r1, .int .i64 r2]) ∧ Drawn0 w w' := by
  have H : (if a2 < 0 then (thrumref01_MulP.j0 k a0 a1 a2 true) else (thrumref01_MulP.j0 k a0 a1 a2 (decide (a2 > 30)))) = some (r1, r2) := h
  clear h
  have HC4 := Aside0.mk H
  clear H
  go_enter Try.func38, Try.ntmps38
  go_upto_region 1 with (fail)
  go_cut [16] (fun v16 wc => ∃ (kq : Nat) (x16_3 : Bool), v16 = .bool x16_3 ∧ Aside0 (thrumref01_MulP.j0 kq a0 a1 a2 x16_3 = some (r1, r2)) ∧ Aside0 (kq ≤ k) ∧ Drawn0 w wc)
  case first =>
    have H := HC4.out
    clear HC4
    by_cases c5 : a2 < 0
    · rw [if_pos c5] at H
      have c5b0 : decide (a2 < 0) = true := decide_eq_true c5
      clear c5
      (first | rw [c5b0] | (simp only [i64_w, i32_w]; rw [c5b0]) | skip)
      have H' := Aside0.mk H
      clear H
      go_wp2
      go_meet
      case rel => exact ⟨_, (true), (by first | rfl | (simp; done) | (simp [*]; done)), H', ⟨by first | omega | exact Nat.le_refl _⟩, by repeat (first | exact Drawn0.refl _ | apply Drawn0.step)⟩
    · rw [if_neg c5] at H
      have c5b0 : decide (a2 < 0) = false := decide_eq_false c5
      clear c5
      (first | rw [c5b0] | (simp only [i64_w, i32_w]; rw [c5b0]) | skip)
      have H' := Aside0.mk H
      clear H
      go_wp2
      go_meet
      case rel => exact ⟨_, (decide (a2 > 30)), (by first | rfl | (simp; done) | (simp [*]; done)), H', ⟨by first | omega | exact Nat.le_refl _⟩, by repeat (first | exact Drawn0.refl _ | apply Drawn0.step)⟩
  case rest =>
    clear HC4
    try clear p2
    try clear c3
    try clear c5
    try clear c5b0
    obtain ⟨kq, x16_3, rfl, HA, HJ3, ⟨mc3, rfl⟩⟩ := hcut
    cases kq with
    | zero => exact absurd HA.out (by simp [thrumref01_MulP.j0])
    | succ kj3 =>
      have H := HA.out
      clear HA
      simp only [thrumref01_MulP.j0] at H
      by_cases c6 : x16_3 = true
      · subst c6
        have H1 : (some (0, 1)) = some (r1, r2) := by rw [if_pos rfl] at H; exact H
        clear H
        have H := H1
        clear H1
        simp only [Option.some.injEq, Prod.mk.injEq] at H
        obtain ⟨rfl, rfl⟩ := H
        go_wp2
        go_ret2
        exact ⟨by first | rfl | (simp; done) | (simp [*]; done), by repeat (first | exact Drawn0.refl _ | apply Drawn0.step)⟩
      · replace c6 := Bool.eq_false_iff.mpr c6
        subst c6
        have H1 : ((thrumref01_Wide.f a0 a1).bind fun bt234 => (thrumref01_MulP.l0 kj3 bt234.1 bt234.2 a2 0)) = some (r1, r2) := by rw [if_neg (show ¬ (false = true) by decide)] at H; exact H
        clear H
        have H := H1
        clear H1
        replace H := Option.bind_eq_some_iff.mp H
        obtain ⟨⟨t234, t235⟩, A70, H⟩ := H
        replace H : (thrumref01_MulP.l0 kj3 t234 t235 a2 0) = some (r1, r2) := H
        have A7 := Aside0.mk A70
        clear A70
        have H' := Aside0.mk H
        clear H
        go_wp2_with (first | ((with_reducible refine gate_callee (f := 43) rfl ?_); refine goesL_ (some 20) rfl rfl Try.func43 (by kernel_rfl) rfl #[.int .i64 a0, .int .i64 a1] rfl (by (try simp only [List.map_toArray, List.map_cons, List.map_nil]); first | done | rfl | (simp only [List.length_drop, List.length_take]; rfl)) ?_; (with_reducible refine (thrumref01_Wide.calls a0 a1 t234 t235 _ A7.out).mono ?_); rintro e w' ⟨rfl, ⟨nd, rfl⟩⟩; refine ⟨_, rfl, ?_⟩))
        go_loopg [8, 9, 24] kj3 (fun kq v8 v9 v24 w' => ∃ (x8_2 : Int) (x9_2 : Int) (x24_2 : Int), v8 = .int .i64 x8_2 ∧ v9 = .int .u64 x9_2 ∧ v24 = .int .i64 x24_2 ∧ Aside0 (thrumref01_MulP.l0 kq x8_2 x9_2 a2 x24_2 = some (r1, r2)) ∧ Aside0 (kq ≤ kj3) ∧ Drawn0 w w')
        case atStart => exact ⟨(t234), (t235), (0), (by first | rfl | (simp; done) | (simp [*]; done)), (by first | rfl | (simp; done) | (simp [*]; done)), (by first | rfl | (simp; done) | (simp [*]; done)), H', ⟨Nat.le_refl _⟩, by repeat (first | exact Drawn0.refl _ | apply Drawn0.step)⟩
        case round =>
          clear H'
          try clear p2
          try clear c3
          try clear c4
          try clear c5
          try clear c5b0
          try clear c6
          try clear p2
          obtain ⟨x8_2, x9_2, x24_2, rfl, rfl, rfl, HA, HK2, ⟨m2, rfl⟩⟩ := hrel
          cases gk with
          | zero => exact absurd HA.out (by simp [thrumref01_MulP.l0])
          | succ k2 =>
            have H := HA.out
            clear HA
            simp only [thrumref01_MulP.l0] at H
            by_cases c8 : x24_2 < a2
            · rw [if_pos c8] at H
              have c8b0 : decide (x24_2 < a2) = true := decide_eq_true c8
              clear c8
              have H' := Aside0.mk H
              clear H
              go_wp2
              go_roundg k2
              case measure => have := HJ3.out; have := HK2.out; omega
              case rel => exact ⟨(x8_2 / 2), (Go.bits .or .u64 (x9_2 / 2) (IntKind.u64.wrap ((IntKind.u64.wrap (Go.bits .and .i64 x8_2 1)) * 9223372036854775808))), (wrap64 (x24_2 + 1)), (by first | rfl | (simp; done) | (simp [*]; done)), (by first | rfl | (simp; done) | (simp [*]; done)), (by first | rfl | (simp; done) | (simp [*]; done)), H', ⟨by have := HJ3.out; have := HK2.out; omega⟩, by repeat (first | exact Drawn0.refl _ | apply Drawn0.step)⟩
            · rw [if_neg c8] at H
              have c8b0 : decide (x24_2 < a2) = false := decide_eq_false c8
              clear c8
              by_cases c9 : x8_2 = ((wrap64 (x9_2)) / 9223372036854775808)
              · rw [if_pos c9] at H
                have c9b0 : (x8_2 == ((wrap64 (x9_2)) / 9223372036854775808)) = true := beq_iff_eq.mpr c9
                have c9b1 : (x8_2 != ((wrap64 (x9_2)) / 9223372036854775808)) = false := bne_eq_false_iff_eq.mpr c9
                clear c9
                simp only [Option.some.injEq, Prod.mk.injEq] at H
                obtain ⟨rfl, rfl⟩ := H
                go_wp2
                go_ret2
                exact ⟨by first | rfl | (simp; done) | (simp [*]; done), by repeat (first | exact Drawn0.refl _ | apply Drawn0.step)⟩
              · rw [if_neg c9] at H
                have c9b0 : (x8_2 == ((wrap64 (x9_2)) / 9223372036854775808)) = false := beq_eq_false_iff_ne.mpr c9
                have c9b1 : (x8_2 != ((wrap64 (x9_2)) / 9223372036854775808)) = true := bne_iff_ne.mpr c9
                simp only [Option.some.injEq, Prod.mk.injEq] at H
                obtain ⟨rfl, rfl⟩ := H
                go_wp2
                go_ret2
                exact ⟨by first | rfl | (simp; done) | (simp [*]; done), by repeat (first | exact Drawn0.refl _ | apply Drawn0.step)⟩

def thrumref01_Mul.f (a0 a1 a2 : Int) : Option (Int × Int) := if I64 a0 ∧ I64 a1 then some (mulF a0 a1 a2) else none
theorem thrumref01_Mul.of (a0 a1 a2 : Int)  (h_ : I64 a0 ∧ I64 a1) : thrumref01_Mul.f a0 a1 a2 = some (mulF a0 a1 a2) := if_pos h_
theorem thrumref01_MulP.loop (n : Nat) : ∀ (p f i : Int) (k : Nat), -170141183460469231731687303715884105728 ≤ p → p < 170141183460469231731687303715884105728 → 0 ≤ i → f ≤ 30 → f - i = n →
    thrumref01_MulP.l0 (n + 1 + k) (p / 18446744073709551616) (p % 18446744073709551616) f i = some (res (p / 2 ^ n)) := by
  induction n with
  | zero =>
    intro p f i k h0 h1 hi hf hn
    rw [show 0 + 1 + k = k + 1 by omega, thrumref01_MulP.l0, if_neg (by omega), Int.pow_zero, Int.ediv_one]
    by_cases c : I64 p
    · rw [res_of c]
      unfold I64 at c
      rw [if_pos (by simp only [wrap64_def]; omega)]
      simp only [wrap64_def, Option.some.injEq, Prod.mk.injEq, and_true]; omega
    · rw [res_not c]
      unfold I64 at c
      obtain ⟨a, ha⟩ : ∃ a, a = p / 18446744073709551616 := ⟨_, rfl⟩
      obtain ⟨l, hl⟩ : ∃ l, l = p % 18446744073709551616 := ⟨_, rfl⟩
      have e : p = 18446744073709551616 * a + l := by omega
      rw [← ha, ← hl, wrap64_def]
      rw [if_neg]
      have hl0 : 0 ≤ l ∧ l < 18446744073709551616 := by omega
      clear ha hl h0 h1
      subst e
      by_cases c2 : l < 9223372036854775808
      · have e1 : (l + 9223372036854775808) % 18446744073709551616 - 9223372036854775808 = l := by omega
        rw [e1]; omega
      · have e1 : (l + 9223372036854775808) % 18446744073709551616 - 9223372036854775808 = l - 18446744073709551616 := by omega
        rw [e1]; omega
  | succ n ih =>
    intro p f i k h0 h1 hi hf hn
    rw [show n + 1 + 1 + k = (n + 1 + k) + 1 by omega, thrumref01_MulP.l0, if_pos (by omega)]
    have e1 : p / 18446744073709551616 / 2 = p / 2 / 18446744073709551616 := by omega
    have e2 : Go.bits .or .u64 (p % 18446744073709551616 / 2) (IntKind.u64.wrap (IntKind.u64.wrap (Go.bits .and .i64 (p / 18446744073709551616) 1) * 9223372036854775808)) = p / 2 % 18446744073709551616 := by
      rw [and1_i64, wu, wu, or_join' 63 (by unfold U64; omega) (by simp only [Int.reducePow]; omega) (by omega) (by simp only [Int.reducePow]; omega) (by unfold U64; omega)]
      omega
    rw [e1, e2, wrap64_of (show I64 (i + 1) by unfold I64; omega), ih (p / 2) f (i + 1) k (by omega) (by omega) (by omega) hf (by omega), Int.pow_succ, Int.mul_comm, Int.ediv_ediv_of_nonneg (by omega)]
theorem thrumref01_MulP.spec {a0 a1 a2 : Int} (h0 : I64 a0) (h1 : I64 a1) : thrumref01_MulP.f (a2.toNat + 2) a0 a1 a2 = some (mulF a0 a1 a2) := by
  have hb := prod_bd h0 h1
  unfold thrumref01_MulP.f mulF
  by_cases c : 0 ≤ a2 ∧ a2 ≤ 30
  · rw [if_neg (by omega), if_pos c, show a2.toNat + 2 = (a2.toNat + 1) + 1 from rfl, thrumref01_MulP.j0, if_neg (by simp; omega)]
    unfold thrumref01_Wide.f
    rw [if_pos ⟨h0, h1⟩]
    exact thrumref01_MulP.loop a2.toNat (a0 * a1) a2 0 0 hb.1 hb.2 (by omega) c.2 (by omega)
  · rw [if_neg c, show a2.toNat + 2 = (a2.toNat + 1) + 1 from rfl]
    by_cases c2 : a2 < 0
    · rw [if_pos c2, thrumref01_MulP.j0, if_pos rfl]
    · rw [if_neg c2, thrumref01_MulP.j0, if_pos (by simp; omega)]
theorem thrumref01_Mul.calls (a0 : Int) (a1 : Int) (a2 : Int) (r1 : Int) (r2 : Int) (w : World) (h : thrumref01_Mul.f a0 a1 a2 = some (r1, r2)) :
    Calls Try.prog 38 #[.int .i64 a0, .int .i64 a1, .int .i64 a2] w fun e w' => e = .returned (.tuple #[.int .i64 r1, .int .i64 r2]) ∧ Drawn0 w w' := by
  unfold thrumref01_Mul.f at h
  split at h
  · rename_i hu
    exact thrumref01_MulP.calls _ a0 a1 a2 r1 r2 w ((thrumref01_MulP.spec hu.1 hu.2).trans h)
  · cases h


/-! ### thrumref01_AddP: function 73 -/
def thrumref01_AddP.f (a0 : Int) (a1 : Int) : Option (Int × Int) := if a1 > 0 then (if a0 > (wrap64 (9223372036854775807 - a1)) then (some (0, 2)) else (if a1 < 0 then (if a0 < (wrap64 ((-9223372036854775808) - a1)) then (some (0, 2)) else (some (wrap64 (a0 + a1), 0))) else (some (wrap64 (a0 + a1), 0)))) else (if a1 < 0 then (if a0 < (wrap64 ((-9223372036854775808) - a1)) then (some (0, 2)) else (some (wrap64 (a0 + a1), 0))) else (some (wrap64 (a0 + a1), 0)))
set_option maxHeartbeats 8000000 in
set_option maxRecDepth 100000 in
theorem thrumref01_AddP.calls (a0 : Int) (a1 : Int) (r1 : Int) (r2 : Int) (w : World) (h : thrumref01_AddP.f a0 a1 = some (r1, r2)) :
    Calls Try.prog 73 #[.int .i64 a0, .int .i64 a1] w fun e w' => e = .returned (.tuple #[.int .i64 r1, .int .i64 r2]) ∧ Drawn0 w w' := by
  have H : (if a1 > 0 then (if a0 > (wrap64 (9223372036854775807 - a1)) then (some (0, 2)) else (if a1 < 0 then (if a0 < (wrap64 ((-9223372036854775808) - a1)) then (some (0, 2)) else (some (wrap64 (a0 + a1), 0))) else (some (wrap64 (a0 + a1), 0)))) else (if a1 < 0 then (if a0 < (wrap64 ((-9223372036854775808) - a1)) then (some (0, 2)) else (some (wrap64 (a0 + a1), 0))) else (some (wrap64 (a0 + a1), 0)))) = some (r1, r2) := h
  clear h
  by_cases c3 : a1 > 0
  · rw [if_pos c3] at H
    have c3b0 : decide (0 < a1) = true := decide_eq_true c3
    clear c3
    by_cases c4 : a0 > (wrap64 (9223372036854775807 - a1))
    · rw [if_pos c4] at H
      have c4b0 : decide ((wrap64 (9223372036854775807 - a1)) < a0) = true := decide_eq_true c4
      clear c4
      simp only [Option.some.injEq, Prod.mk.injEq] at H
      obtain ⟨rfl, rfl⟩ := H
      go_enter Try.func73, Try.ntmps73
      go_wp2
      go_ret2
      exact ⟨by first | rfl | (simp; done) | (simp [*]; done), by repeat (first | exact Drawn0.refl _ | apply Drawn0.step)⟩
    · rw [if_neg c4] at H
      have c4b0 : decide ((wrap64 (9223372036854775807 - a1)) < a0) = false := decide_eq_false c4
      clear c4
      by_cases c5 : a1 < 0
      · rw [if_pos c5] at H
        have c5b0 : decide (a1 < 0) = true := decide_eq_true c5
        clear c5
        by_cases c6 : a0 < (wrap64 ((-9223372036854775808) - a1))
        · rw [if_pos c6] at H
          have c6b0 : decide (a0 < (wrap64 ((-9223372036854775808) - a1))) = true := decide_eq_true c6
          clear c6
          simp only [Option.some.injEq, Prod.mk.injEq] at H
          obtain ⟨rfl, rfl⟩ := H
          go_enter Try.func73, Try.ntmps73
          go_wp2
          go_ret2
          exact ⟨by first | rfl | (simp; done) | (simp [*]; done), by repeat (first | exact Drawn0.refl _ | apply Drawn0.step)⟩
        · rw [if_neg c6] at H
          have c6b0 : decide (a0 < (wrap64 ((-9223372036854775808) - a1))) = false := decide_eq_false c6
          clear c6
          simp only [Option.some.injEq, Prod.mk.injEq] at H
          obtain ⟨rfl, rfl⟩ := H
          go_enter Try.func73, Try.ntmps73
          go_wp2
          go_ret2
          exact ⟨by first | rfl | (simp; done) | (simp [*]; done), by repeat (first | exact Drawn0.refl _ | apply Drawn0.step)⟩
      · rw [if_neg c5] at H
        have c5b0 : decide (a1 < 0) = false := decide_eq_false c5
        clear c5
        simp only [Option.some.injEq, Prod.mk.injEq] at H
        obtain ⟨rfl, rfl⟩ := H
        go_enter Try.func73, Try.ntmps73
        go_wp2
        go_ret2
        exact ⟨by first | rfl | (simp; done) | (simp [*]; done), by repeat (first | exact Drawn0.refl _ | apply Drawn0.step)⟩
  · rw [if_neg c3] at H
    have c3b0 : decide (0 < a1) = false := decide_eq_false c3
    clear c3
    by_cases c7 : a1 < 0
    · rw [if_pos c7] at H
      have c7b0 : decide (a1 < 0) = true := decide_eq_true c7
      clear c7
      by_cases c8 : a0 < (wrap64 ((-9223372036854775808) - a1))
      · rw [if_pos c8] at H
        have c8b0 : decide (a0 < (wrap64 ((-9223372036854775808) - a1))) = true := decide_eq_true c8
        clear c8
        simp only [Option.some.injEq, Prod.mk.injEq] at H
        obtain ⟨rfl, rfl⟩ := H
        go_enter Try.func73, Try.ntmps73
        go_wp2
        go_ret2
        exact ⟨by first | rfl | (simp; done) | (simp [*]; done), by repeat (first | exact Drawn0.refl _ | apply Drawn0.step)⟩
      · rw [if_neg c8] at H
        have c8b0 : decide (a0 < (wrap64 ((-9223372036854775808) - a1))) = false := decide_eq_false c8
        clear c8
        simp only [Option.some.injEq, Prod.mk.injEq] at H
        obtain ⟨rfl, rfl⟩ := H
        go_enter Try.func73, Try.ntmps73
        go_wp2
        go_ret2
        exact ⟨by first | rfl | (simp; done) | (simp [*]; done), by repeat (first | exact Drawn0.refl _ | apply Drawn0.step)⟩
    · rw [if_neg c7] at H
      have c7b0 : decide (a1 < 0) = false := decide_eq_false c7
      clear c7
      simp only [Option.some.injEq, Prod.mk.injEq] at H
      obtain ⟨rfl, rfl⟩ := H
      go_enter Try.func73, Try.ntmps73
      go_wp2
      go_ret2
      exact ⟨by first | rfl | (simp; done) | (simp [*]; done), by repeat (first | exact Drawn0.refl _ | apply Drawn0.step)⟩

def thrumref01_Add.f (a0 a1 : Int) : Option (Int × Int) := if I64 a0 ∧ I64 a1 then some (res (a0 + a1)) else none
theorem thrumref01_Add.of (a0 a1 : Int)  (h_ : I64 a0 ∧ I64 a1) : thrumref01_Add.f a0 a1 = some (res (a0 + a1)) := if_pos h_
theorem thrumref01_Add.calls (a0 : Int) (a1 : Int) (r1 : Int) (r2 : Int) (w : World) (h : thrumref01_Add.f a0 a1 = some (r1, r2)) :
    Calls Try.prog 73 #[.int .i64 a0, .int .i64 a1] w fun e w' => e = .returned (.tuple #[.int .i64 r1, .int .i64 r2]) ∧ Drawn0 w w' := by
  unfold thrumref01_Add.f at h
  split at h
  · rename_i hu
    refine thrumref01_AddP.calls a0 a1 r1 r2 w (Eq.trans ?_ h)
    unfold thrumref01_AddP.f
    obtain ⟨h0, h1⟩ := hu
    unfold I64 at h0 h1
    rcases Int.lt_trichotomy a1 0 with c | c | c
    · rw [if_neg (by omega), if_pos c, wrap64_of (show I64 (-9223372036854775808 - a1) by unfold I64; omega)]
      by_cases d : a0 < -9223372036854775808 - a1
      · rw [if_pos d, res_not (by unfold I64; omega)]
      · rw [if_neg d, res_of (by unfold I64; omega), wrap64_of (by unfold I64; omega)]
    · rw [if_neg (by omega), if_neg (by omega), res_of (by unfold I64; omega), wrap64_of (by unfold I64; omega)]
    · rw [if_pos (by omega), wrap64_of (show I64 (9223372036854775807 - a1) by unfold I64; omega)]
      by_cases d : a0 > 9223372036854775807 - a1
      · rw [if_pos d, res_not (by unfold I64; omega)]
      · rw [if_neg d, if_neg (by omega), res_of (by unfold I64; omega), wrap64_of (by unfold I64; omega)]
  · cases h


end Go.Proofs.Ytllicjinmlkcfaa.HB
