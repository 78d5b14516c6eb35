/- What Go functions do, each as a plain Lean function with the same answers, and the proof of it, in every world: printed by the session's driver over the kit's print, with texts by hand. -/
import Derived.Test.YtllicjinmlkcfaaHBx0
import Derived.Test.YtllicjinmlkcfaaHBx11
namespace Go.Proofs.Ytllicjinmlkcfaa.HB
open Go.RowKit Go.Proofs.YtllicjinmlkcfaaW.PrintWords Go.Proofs.YtllicjinmlkcfaaW.PrintLast Go.Proofs.YtllicjinmlkcfaaW.PrintMore
attribute [local go_sem] max2_int min2_int max_two min_two max_three min_three max_four min_four   -- for this text's walks alone
open Go.Proofs.Ytllicjinmlkcfaa.Sp
attribute [local go_sem] Go.Proofs.Ytllicjinmlkcfaa.Sp.u64_not
set_option linter.unusedVariables false
set_option linter.unusedSimpArgs false

/-! ### thrumref01_SubP: function 74 -/
def thrumref01_SubP.f (a0 : Int) (a1 : Int) : Option (Int × Int) := if a1 < 0 then (if a0 > (wrap64 (9223372036854775807 + a1)) then (some (0, 2)) else (if a1 > 0 then (if a0 < (wrap64 ((-9223372036854775808) + a1)) then (some (0, 2)) else (some (wrap64 (a0 - a1), 0))) else (some (wrap64 (a0 - a1), 0)))) else (if a1 > 0 then (if a0 < (wrap64 ((-9223372036854775808) + a1)) then (some (0, 2)) else (some (wrap64 (a0 - a1), 0))) else (some (wrap64 (a0 - a1), 0)))
set_option maxHeartbeats 8000000 in
set_option maxRecDepth 100000 in
theorem thrumref01_SubP.calls (a0 : Int) (a1 : Int) (r1 : Int) (r2 : Int) (w : World) (h : thrumref01_SubP.f a0 a1 = some (r1, r2)) :
    Calls Try.prog 74 #[.int .i64 a0, .int .i64 a1] w fun e w' => e = .returned (.tuple #[.int .i64 r1, .int .i64 r2]) ∧ Drawn0 w w' := by
  have H : (if a1 < 0 then (if a0 > (wrap64 (9223372036854775807 + a1)) then (some (0, 2)) else (if a1 > 0 then (if a0 < (wrap64 ((-9223372036854775808) + a1)) then (some (0, 2)) else (some (wrap64 (a0 - a1), 0))) else (some (wrap64 (a0 - a1), 0)))) else (if a1 > 0 then (if a0 < (wrap64 ((-9223372036854775808) + a1)) then (some (0, 2)) else (some (wrap64 (a0 - a1), 0))) else (some (wrap64 (a0 - a1), 0)))) = some (r1, r2) := h
  clear h
  by_cases c3 : a1 < 0
  · rw [if_pos c3] at H
    have c3b0 : decide (a1 < 0) = true := decide_eq_true c3
    clear c3
    by_cases c4 : a0 > (wrap64 (9223372036854775807 + a1))
    · rw [if_pos c4] at H
      have c4b0 : decide ((wrap64 (9223372036854775807 + a1)) < a0) = true := decide_eq_true c4
      clear c4
      simp only [Option.some.injEq, Prod.mk.injEq] at H
      obtain ⟨rfl, rfl⟩ := H
      go_enter Try.func74, Try.ntmps74
      go_wp2
      go_ret2
      exact ⟨by first | rfl | (simp; done) | (simp [*]; done), by repeat (first | exact Drawn0.refl _ | apply Drawn0.step)⟩
    · rw [if_neg c4] at H
      have c4b0 : decide ((wrap64 (9223372036854775807 + a1)) < a0) = false := decide_eq_false c4
      clear c4
      by_cases c5 : a1 > 0
      · rw [if_pos c5] at H
        have c5b0 : decide (0 < a1) = true := decide_eq_true c5
        clear c5
        by_cases c6 : a0 < (wrap64 ((-9223372036854775808) + a1))
        · rw [if_pos c6] at H
          have c6b0 : decide (a0 < (wrap64 ((-9223372036854775808) + a1))) = true := decide_eq_true c6
          clear c6
          simp only [Option.some.injEq, Prod.mk.injEq] at H
          obtain ⟨rfl, rfl⟩ := H
          go_enter Try.func74, Try.ntmps74
          go_wp2
          go_ret2
          exact ⟨by first | rfl | (simp; done) | (simp [*]; done), by repeat (first | exact Drawn0.refl _ | apply Drawn0.step)⟩
        · rw [if_neg c6] at H
          have c6b0 : decide (a0 < (wrap64 ((-9223372036854775808) + a1))) = false := decide_eq_false c6
          clear c6
          simp only [Option.some.injEq, Prod.mk.injEq] at H
          obtain ⟨rfl, rfl⟩ := H
          go_enter Try.func74, Try.ntmps74
          go_wp2
          go_ret2
          exact ⟨by first | rfl | (simp; done) | (simp [*]; done), by repeat (first | exact Drawn0.refl _ | apply Drawn0.step)⟩
      · rw [if_neg c5] at H
        have c5b0 : decide (0 < a1) = false := decide_eq_false c5
        clear c5
        simp only [Option.some.injEq, Prod.mk.injEq] at H
        obtain ⟨rfl, rfl⟩ := H
        go_enter Try.func74, Try.ntmps74
        go_wp2
        go_ret2
        exact ⟨by first | rfl | (simp; done) | (simp [*]; done), by repeat (first | exact Drawn0.refl _ | apply Drawn0.step)⟩
  · rw [if_neg c3] at H
    have c3b0 : decide (a1 < 0) = false := decide_eq_false c3
    clear c3
    by_cases c7 : a1 > 0
    · rw [if_pos c7] at H
      have c7b0 : decide (0 < a1) = true := decide_eq_true c7
      clear c7
      by_cases c8 : a0 < (wrap64 ((-9223372036854775808) + a1))
      · rw [if_pos c8] at H
        have c8b0 : decide (a0 < (wrap64 ((-9223372036854775808) + a1))) = true := decide_eq_true c8
        clear c8
        simp only [Option.some.injEq, Prod.mk.injEq] at H
        obtain ⟨rfl, rfl⟩ := H
        go_enter Try.func74, Try.ntmps74
        go_wp2
        go_ret2
        exact ⟨by first | rfl | (simp; done) | (simp [*]; done), by repeat (first | exact Drawn0.refl _ | apply Drawn0.step)⟩
      · rw [if_neg c8] at H
        have c8b0 : decide (a0 < (wrap64 ((-9223372036854775808) + a1))) = false := decide_eq_false c8
        clear c8
        simp only [Option.some.injEq, Prod.mk.injEq] at H
        obtain ⟨rfl, rfl⟩ := H
        go_enter Try.func74, Try.ntmps74
        go_wp2
        go_ret2
        exact ⟨by first | rfl | (simp; done) | (simp [*]; done), by repeat (first | exact Drawn0.refl _ | apply Drawn0.step)⟩
    · rw [if_neg c7] at H
      have c7b0 : decide (0 < a1) = false := decide_eq_false c7
      clear c7
      simp only [Option.some.injEq, Prod.mk.injEq] at H
      obtain ⟨rfl, rfl⟩ := H
      go_enter Try.func74, Try.ntmps74
      go_wp2
      go_ret2
      exact ⟨by first | rfl | (simp; done) | (simp [*]; done), by repeat (first | exact Drawn0.refl _ | apply Drawn0.step)⟩

def thrumref01_Sub.f (a0 a1 : Int) : Option (Int × Int) := if I64 a0 ∧ I64 a1 then some (res (a0 - a1)) else none
theorem thrumref01_Sub.of (a0 a1 : Int)  (h_ : I64 a0 ∧ I64 a1) : thrumref01_Sub.f a0 a1 = some (res (a0 - a1)) := if_pos h_
theorem thrumref01_Sub.calls (a0 : Int) (a1 : Int) (r1 : Int) (r2 : Int) (w : World) (h : thrumref01_Sub.f a0 a1 = some (r1, r2)) :
    Calls Try.prog 74 #[.int .i64 a0, .int .i64 a1] w fun e w' => e = .returned (.tuple #[.int .i64 r1, .int .i64 r2]) ∧ Drawn0 w w' := by
  unfold thrumref01_Sub.f at h
  split at h
  · rename_i hu
    refine thrumref01_SubP.calls a0 a1 r1 r2 w (Eq.trans ?_ h)
    unfold thrumref01_SubP.f
    obtain ⟨h0, h1⟩ := hu
    unfold I64 at h0 h1
    rcases Int.lt_trichotomy a1 0 with c | c | c
    · rw [if_pos c, wrap64_of (show I64 (9223372036854775807 + a1) by unfold I64; omega)]
      by_cases d : a0 > 9223372036854775807 + a1
      · rw [if_pos d, res_not (by unfold I64; omega)]
      · rw [if_neg d, if_neg (by omega), res_of (by unfold I64; omega), wrap64_of (by unfold I64; omega)]
    · rw [if_neg (by omega), if_neg (by omega), res_of (by unfold I64; omega), wrap64_of (by unfold I64; omega)]
    · rw [if_neg (by omega), if_pos (by omega), wrap64_of (show I64 (-9223372036854775808 + a1) by unfold I64; omega)]
      by_cases d : a0 < -9223372036854775808 + a1
      · rw [if_pos d, res_not (by unfold I64; omega)]
      · rw [if_neg d, res_of (by unfold I64; omega), wrap64_of (by unfold I64; omega)]
  · cases h


/-! ### thrumref01_NegP: function 75 -/
def thrumref01_NegP.f (a0 : Int) : Option (Int × Int) := (thrumref01_Sub.f 0 a0).bind fun bt243 => (some (bt243.1, bt243.2))
set_option maxHeartbeats 8000000 in
set_option maxRecDepth 100000 in
theorem thrumref01_NegP.calls (a0 : Int) (r1 : Int) (r2 : Int) (w : World) (h : thrumref01_NegP.f a0 = some (r1, r2)) :
    Calls Try.prog 75 #[.int .i64 a0] w fun e w' => e = .returned (.tuple #[.int .i64 r1, .int .i64 r2]) ∧ Drawn0 w w' := by
  have H : ((thrumref01_Sub.f 0 a0).bind fun bt243 => (some (bt243.1, bt243.2))) = some (r1, r2) := h
  clear h
  replace H := Option.bind_eq_some_iff.mp H
  obtain ⟨⟨t243, t244⟩, A20, H⟩ := H
  replace H : (some (t243, t244)) = some (r1, r2) := H
  have A2 := Aside0.mk A20
  clear A20
  simp only [Option.some.injEq, Prod.mk.injEq] at H
  obtain ⟨rfl, rfl⟩ := H
  go_enter Try.func75, Try.ntmps75
  go_wp2_with (first | ((with_reducible refine gate_callee (f := 74) rfl ?_); refine goesL_ (some 5) rfl rfl Try.func74 (by kernel_rfl) rfl #[.int .i64 0, .int .i64 a0] rfl (by (try simp only [List.map_toArray, List.map_cons, List.map_nil]); first | done | rfl | (simp only [List.length_drop, List.length_take]; rfl)) ?_; (with_reducible refine (thrumref01_Sub.calls 0 a0 t243 t244 _ A2.out).mono ?_); rintro e w' ⟨rfl, ⟨nd, rfl⟩⟩; refine ⟨_, rfl, ?_⟩))
  go_ret2
  exact ⟨by first | rfl | (simp; done) | (simp [*]; done), by repeat (first | exact Drawn0.refl _ | apply Drawn0.step)⟩

def thrumref01_Neg.f (a0 : Int) : Option (Int × Int) := if I64 a0 then some (res (-a0)) else none
theorem thrumref01_Neg.of (a0 : Int)  (h_ : I64 a0) : thrumref01_Neg.f a0 = some (res (-a0)) := if_pos h_
theorem thrumref01_Neg.calls (a0 : Int) (r1 : Int) (r2 : Int) (w : World) (h : thrumref01_Neg.f a0 = some (r1, r2)) :
    Calls Try.prog 75 #[.int .i64 a0] w fun e w' => e = .returned (.tuple #[.int .i64 r1, .int .i64 r2]) ∧ Drawn0 w w' := by
  unfold thrumref01_Neg.f at h
  split at h
  · rename_i hu
    refine thrumref01_NegP.calls a0 r1 r2 w (Eq.trans ?_ h)
    unfold thrumref01_NegP.f thrumref01_Sub.f
    rw [if_pos ⟨i64_zero, hu⟩]; simp
  · cases h


/-! ### thrumref01_AbsP: function 76 -/
def thrumref01_AbsP.f (a0 : Int) : Option (Int × Int) := if a0 < 0 then ((thrumref01_Neg.f a0).bind fun bt245 => (some (bt245.1, bt245.2))) else (some (a0, 0))
set_option maxHeartbeats 8000000 in
set_option maxRecDepth 100000 in
theorem thrumref01_AbsP.calls (a0 : Int) (r1 : Int) (r2 : Int) (w : World) (h : thrumref01_AbsP.f a0 = some (r1, r2)) :
    Calls Try.prog 76 #[.int .i64 a0] w fun e w' => e = .returned (.tuple #[.int .i64 r1, .int .i64 r2]) ∧ Drawn0 w w' := by
  have H : (if a0 < 0 then ((thrumref01_Neg.f a0).bind fun bt245 => (some (bt245.1, bt245.2))) else (some (a0, 0))) = some (r1, r2) := h
  clear h
  by_cases c2 : a0 < 0
  · rw [if_pos c2] at H
    have c2b0 : decide (a0 < 0) = true := decide_eq_true c2
    clear c2
    replace H := Option.bind_eq_some_iff.mp H
    obtain ⟨⟨t245, t246⟩, A30, H⟩ := H
    replace H : (some (t245, t246)) = some (r1, r2) := H
    have A3 := Aside0.mk A30
    clear A30
    simp only [Option.some.injEq, Prod.mk.injEq] at H
    obtain ⟨rfl, rfl⟩ := H
    go_enter Try.func76, Try.ntmps76
    go_wp2_with (first | ((with_reducible refine gate_callee (f := 75) rfl ?_); refine goesL_ (some 7) rfl rfl Try.func75 (by kernel_rfl) rfl #[.int .i64 a0] rfl (by (try simp only [List.map_toArray, List.map_cons, List.map_nil]); first | done | rfl | (simp only [List.length_drop, List.length_take]; rfl)) ?_; (with_reducible refine (thrumref01_Neg.calls a0 t245 t246 _ A3.out).mono ?_); rintro e w' ⟨rfl, ⟨nd, rfl⟩⟩; refine ⟨_, rfl, ?_⟩))
    go_ret2
    exact ⟨by first | rfl | (simp; done) | (simp [*]; done), by repeat (first | exact Drawn0.refl _ | apply Drawn0.step)⟩
  · rw [if_neg c2] at H
    have c2b0 : decide (a0 < 0) = false := decide_eq_false c2
    clear c2
    simp only [Option.some.injEq, Prod.mk.injEq] at H
    obtain ⟨rfl, rfl⟩ := H
    go_enter Try.func76, Try.ntmps76
    go_wp2
    go_ret2
    exact ⟨by first | rfl | (simp; done) | (simp [*]; done), by repeat (first | exact Drawn0.refl _ | apply Drawn0.step)⟩

def thrumref01_Abs.f (a0 : Int) : Option (Int × Int) := if I64 a0 then some (res (a0.natAbs : Int)) else none
theorem thrumref01_Abs.of (a0 : Int)  (h_ : I64 a0) : thrumref01_Abs.f a0 = some (res (a0.natAbs : Int)) := if_pos h_
theorem thrumref01_Abs.calls (a0 : Int) (r1 : Int) (r2 : Int) (w : World) (h : thrumref01_Abs.f a0 = some (r1, r2)) :
    Calls Try.prog 76 #[.int .i64 a0] w fun e w' => e = .returned (.tuple #[.int .i64 r1, .int .i64 r2]) ∧ Drawn0 w w' := by
  unfold thrumref01_Abs.f at h
  split at h
  · rename_i hu
    refine thrumref01_AbsP.calls a0 r1 r2 w (Eq.trans ?_ h)
    unfold thrumref01_AbsP.f thrumref01_Neg.f
    by_cases c : a0 < 0
    · rw [if_pos c, if_pos hu, show (a0.natAbs : Int) = -a0 by omega]; simp
    · rw [if_neg c, show (a0.natAbs : Int) = a0 by omega, res_of hu]
  · cases h


/-! ### thrumref02_SizeP: function 68 -/
def thrumref02_SizeP.l0 : Nat → Int → List Int → Int → Int → Option (Int × Int)
  | 0, _, _, _, _ => none
  | k + 1, x4, x12, x13, x14 => if x14 < x13 then (if 0 ≤ x14 then (if x14 < (x12.length : Int) then ((thrumref01_Abs.f (rd x12 x14)).bind fun bt248 => (if bt248.2 = 0 then ((thrumref01_Add.f x4 bt248.1).bind fun bt250 => (if bt250.2 = 0 then (thrumref02_SizeP.l0 k bt250.1 x12 x13 (wrap64 (x14 + 1))) else (some (0, bt250.2)))) else (some (0, bt248.2)))) else (none)) else (none)) else (some (x4, 0))
def thrumref02_SizeP.f (k : Nat) (l0 : List Int) : Option (Int × Int) := if (l0.length : Int) > 4096 then (some (0, 3)) else (thrumref02_SizeP.l0 k 0 l0 (l0.length : Int) 0)
theorem thrumref02_SizeP.mono_l : ∀ k, (∀ y0 y1 y2 y3, LeO (thrumref02_SizeP.l0 k y0 y1 y2 y3) (thrumref02_SizeP.l0 (k + 1) y0 y1 y2 y3))
  | 0 => fun _ _ _ _ r h => by simp [thrumref02_SizeP.l0] at h
  | k + 1 => by
    have ih0 := thrumref02_SizeP.mono_l k
    · intro y0 y1 y2 y3
      unfold thrumref02_SizeP.l0
      repeat' first
      | (with_reducible exact ih0 _ _ _ _)
      | (with_reducible exact LeO.refl _)
      | (with_reducible exact LeO.none _)
      | (with_reducible refine LeO.ite ?_ ?_)
      | (with_reducible refine LeO.bind ?_ (fun _ => ?_))
      | exact ih0 _ _ _ _
      | exact LeO.none _
      | refine LeO.ite ?_ ?_
      | refine LeO.bind ?_ (fun _ => ?_)
theorem thrumref02_SizeP.mono : ∀ a0 k, LeO (thrumref02_SizeP.f k a0) (thrumref02_SizeP.f (k + 1) a0) := by
  intro a0 k
  have ih0 := thrumref02_SizeP.mono_l k
  unfold thrumref02_SizeP.f
  repeat' first
      | (with_reducible exact ih0 _ _ _ _)
      | (with_reducible exact LeO.refl _)
      | (with_reducible exact LeO.none _)
      | (with_reducible refine LeO.ite ?_ ?_)
      | (with_reducible refine LeO.bind ?_ (fun _ => ?_))
      | exact ih0 _ _ _ _
      | exact LeO.none _
      | refine LeO.ite ?_ ?_
      | refine LeO.bind ?_ (fun _ => ?_)
set_option maxHeartbeats 8000000 in
set_option maxRecDepth 100000 in
theorem thrumref02_SizeP.calls (k : Nat) (A0 : Option Addr) (c0 : Nat) (l0 : List Int) (r1 : Int) (r2 : Int) (w : World) (hr0 : Kd.C (Kd.int .i64) w A0 l0.length l0) (hc0 : l0.length ≤ c0) (h : thrumref02_SizeP.f k l0 = some (r1, r2)) :
    Calls Try.prog 68 #[.slice A0 l0.length c0] w fun e w' => e = .returned (.tuple #[.int .i64 r1, .int .i64 r2]) ∧ Drawn0 w w' := by
  have HR0 := Aside0.mk hr0
  have HC0 := Aside0.mk hc0
  clear hr0 hc0
  have H : (if (l0.length : Int) > 4096 then (some (0, 3)) else (thrumref02_SizeP.l0 k 0 l0 (l0.length : Int) 0)) = some (r1, r2) := h
  clear h
  by_cases c2 : (l0.length : Int) > 4096
  · rw [if_pos c2] at H
    have c2b0 : decide (4096 < (l0.length : Int)) = true := decide_eq_true c2
    have c2b1 : decide (4096 < l0.length) = true := decide_eq_true (by omega)
    clear c2
    simp only [Option.some.injEq, Prod.mk.injEq] at H
    obtain ⟨rfl, rfl⟩ := H
    go_enter Try.func68, Try.ntmps68
    go_wp2
    go_ret2
    exact ⟨by first | rfl | (simp; done) | (simp [*]; done), by repeat (first | exact Drawn0.refl _ | apply Drawn0.step)⟩
  · rw [if_neg c2] at H
    have c2b0 : decide (4096 < (l0.length : Int)) = false := decide_eq_false c2
    have c2b1 : decide (4096 < l0.length) = false := decide_eq_false (by omega)
    clear c2
    have H' := Aside0.mk H
    clear H
    go_enter Try.func68, Try.ntmps68
    go_wp2
    go_loopg [4, 14] k (fun kq v4 v14 w' => ∃ (x4_1 : Int) (x14_1 : Int), v4 = .int .i64 x4_1 ∧ v14 = .int .i64 x14_1 ∧ Aside0 (thrumref02_SizeP.l0 kq x4_1 l0 (l0.length : Int) x14_1 = some (r1, r2)) ∧ Aside0 (kq ≤ k) ∧ Drawn0 w w')
    case atStart => exact ⟨(0), (0), (by first | rfl | (simp; done) | (simp [*]; done)), (by first | rfl | (simp; done) | (simp [*]; done)), H', ⟨Nat.le_refl _⟩, by repeat (first | exact Drawn0.refl _ | apply Drawn0.step)⟩
    case round =>
      clear H'
      try clear c2
      try clear c2b0
      try clear c2b1
      try clear p2
      obtain ⟨x4_1, x14_1, rfl, rfl, HA, HK1, ⟨m1, rfl⟩⟩ := hrel
      cases gk with
      | zero => exact absurd HA.out (by simp [thrumref02_SizeP.l0])
      | succ k1 =>
        have H := HA.out
        clear HA
        simp only [thrumref02_SizeP.l0] at H
        by_cases c3 : x14_1 < (l0.length : Int)
        · rw [if_pos c3] at H
          have c3b0 : decide (x14_1 < (l0.length : Int)) = true := decide_eq_true c3
          clear c3
          by_cases c4 : 0 ≤ x14_1
          · rw [if_pos c4] at H
            have c4b0 : decide (0 ≤ x14_1) = true := decide_eq_true c4
            clear c4
            by_cases c5 : x14_1 < (l0.length : Int)
            · rw [if_pos c5] at H
              have c5b0 : decide (x14_1 < (l0.length : Int)) = true := decide_eq_true c5
              clear c5
              replace H := Option.bind_eq_some_iff.mp H
              obtain ⟨⟨t248, t249⟩, A60, H⟩ := H
              replace H : (if t249 = 0 then ((thrumref01_Add.f x4_1 t248).bind fun bt250 => (if bt250.2 = 0 then (thrumref02_SizeP.l0 k1 bt250.1 l0 (l0.length : Int) (wrap64 (x14_1 + 1))) else (some (0, bt250.2)))) else (some (0, t249))) = some (r1, r2) := H
              have A6 := Aside0.mk A60
              clear A60
              by_cases c7 : t249 = 0
              · rw [if_pos c7] at H
                have c7b0 : (t249 == 0) = true := beq_iff_eq.mpr c7
                have c7b1 : (t249 != 0) = false := bne_eq_false_iff_eq.mpr c7
                clear c7
                replace H := Option.bind_eq_some_iff.mp H
                obtain ⟨⟨t250, t251⟩, A80, H⟩ := H
                replace H : (if t251 = 0 then (thrumref02_SizeP.l0 k1 t250 l0 (l0.length : Int) (wrap64 (x14_1 + 1))) else (some (0, t251))) = some (r1, r2) := H
                have A8 := Aside0.mk A80
                clear A80
                by_cases c9 : t251 = 0
                · rw [if_pos c9] at H
                  have c9b0 : (t251 == 0) = true := beq_iff_eq.mpr c9
                  have c9b1 : (t251 != 0) = false := bne_eq_false_iff_eq.mpr c9
                  clear c9
                  have H' := Aside0.mk H
                  clear H
                  have p247 : 0 ≤ (x14_1 : Int) := of_decide_eq_true (by first | (with_reducible assumption) | assumption)
                  have q247 : x14_1 < (l0.length : Int) := of_decide_eq_true (by first | (with_reducible assumption) | assumption)
                  obtain ⟨ad247, e247, hx247_0⟩ := Kd.at_int HR0.out x14_1 p247 q247
                  cases e247
                  replace p247 := eq_true p247
                  replace q247 := eq_true q247
                  go_wp2_with (first | ((with_reducible refine gate_callee (f := 76) rfl ?_); refine goesL_ (some 20) rfl rfl Try.func76 (by kernel_rfl) rfl #[.int .i64 (rd l0 x14_1)] rfl (by (try simp only [List.map_toArray, List.map_cons, List.map_nil]); first | done | rfl | (simp only [List.length_drop, List.length_take]; rfl)) ?_; (with_reducible refine (thrumref01_Abs.calls (rd l0 x14_1) t248 t249 _ A6.out).mono ?_); rintro e w' ⟨rfl, ⟨nd, rfl⟩⟩; refine ⟨_, rfl, ?_⟩) | ((with_reducible refine gate_callee (f := 73) rfl ?_); refine goesL_ (some 29) rfl rfl Try.func73 (by kernel_rfl) rfl #[.int .i64 x4_1, .int .i64 t248] rfl (by (try simp only [List.map_toArray, List.map_cons, List.map_nil]); first | done | rfl | (simp only [List.length_drop, List.length_take]; rfl)) ?_; (with_reducible refine (thrumref01_Add.calls x4_1 t248 t250 t251 _ A8.out).mono ?_); rintro e w' ⟨rfl, ⟨nd, rfl⟩⟩; refine ⟨_, rfl, ?_⟩))
                  go_roundg k1
                  case measure => have := HK1.out; omega
                  case rel => exact ⟨(t250), (wrap64 (x14_1 + 1)), (by first | rfl | (simp; done) | (simp [*]; done)), (by first | rfl | (simp; done) | (simp [*]; done)), H', ⟨by have := HK1.out; omega⟩, by repeat (first | exact Drawn0.refl _ | apply Drawn0.step)⟩
                · rw [if_neg c9] at H
                  have c9b0 : (t251 == 0) = false := beq_eq_false_iff_ne.mpr c9
                  have c9b1 : (t251 != 0) = true := bne_iff_ne.mpr c9
                  simp only [Option.some.injEq, Prod.mk.injEq] at H
                  obtain ⟨rfl, rfl⟩ := H
                  have p247 : 0 ≤ (x14_1 : Int) := of_decide_eq_true (by first | (with_reducible assumption) | assumption)
                  have q247 : x14_1 < (l0.length : Int) := of_decide_eq_true (by first | (with_reducible assumption) | assumption)
                  obtain ⟨ad247, e247, hx247_0⟩ := Kd.at_int HR0.out x14_1 p247 q247
                  cases e247
                  replace p247 := eq_true p247
                  replace q247 := eq_true q247
                  go_wp2_with (first | ((with_reducible refine gate_callee (f := 76) rfl ?_); refine goesL_ (some 20) rfl rfl Try.func76 (by kernel_rfl) rfl #[.int .i64 (rd l0 x14_1)] rfl (by (try simp only [List.map_toArray, List.map_cons, List.map_nil]); first | done | rfl | (simp only [List.length_drop, List.length_take]; rfl)) ?_; (with_reducible refine (thrumref01_Abs.calls (rd l0 x14_1) t248 t249 _ A6.out).mono ?_); rintro e w' ⟨rfl, ⟨nd, rfl⟩⟩; refine ⟨_, rfl, ?_⟩) | ((with_reducible refine gate_callee (f := 73) rfl ?_); refine goesL_ (some 29) rfl rfl Try.func73 (by kernel_rfl) rfl #[.int .i64 x4_1, .int .i64 t248] rfl (by (try simp only [List.map_toArray, List.map_cons, List.map_nil]); first | done | rfl | (simp only [List.length_drop, List.length_take]; rfl)) ?_; (with_reducible refine (thrumref01_Add.calls x4_1 t248 t250 t251 _ A8.out).mono ?_); rintro e w' ⟨rfl, ⟨nd, rfl⟩⟩; refine ⟨_, rfl, ?_⟩))
                  go_ret2
                  exact ⟨by first | rfl | (simp; done) | (simp [*]; done), by repeat (first | exact Drawn0.refl _ | apply Drawn0.step)⟩
              · rw [if_neg c7] at H
                have c7b0 : (t249 == 0) = false := beq_eq_false_iff_ne.mpr c7
                have c7b1 : (t249 != 0) = true := bne_iff_ne.mpr c7
                simp only [Option.some.injEq, Prod.mk.injEq] at H
                obtain ⟨rfl, rfl⟩ := H
                have p247 : 0 ≤ (x14_1 : Int) := of_decide_eq_true (by first | (with_reducible assumption) | assumption)
                have q247 : x14_1 < (l0.length : Int) := of_decide_eq_true (by first | (with_reducible assumption) | assumption)
                obtain ⟨ad247, e247, hx247_0⟩ := Kd.at_int HR0.out x14_1 p247 q247
                cases e247
                replace p247 := eq_true p247
                replace q247 := eq_true q247
                go_wp2_with (first | ((with_reducible refine gate_callee (f := 76) rfl ?_); refine goesL_ (some 20) rfl rfl Try.func76 (by kernel_rfl) rfl #[.int .i64 (rd l0 x14_1)] rfl (by (try simp only [List.map_toArray, List.map_cons, List.map_nil]); first | done | rfl | (simp only [List.length_drop, List.length_take]; rfl)) ?_; (with_reducible refine (thrumref01_Abs.calls (rd l0 x14_1) t248 t249 _ A6.out).mono ?_); rintro e w' ⟨rfl, ⟨nd, rfl⟩⟩; refine ⟨_, rfl, ?_⟩))
                go_ret2
                exact ⟨by first | rfl | (simp; done) | (simp [*]; done), by repeat (first | exact Drawn0.refl _ | apply Drawn0.step)⟩
            · rw [if_neg c5] at H
              exact absurd H (by simp)
          · rw [if_neg c4] at H
            exact absurd H (by simp)
        · rw [if_neg c3] at H
          have c3b0 : decide (x14_1 < (l0.length : Int)) = false := decide_eq_false c3
          clear c3
          simp only [Option.some.injEq, Prod.mk.injEq] at H
          obtain ⟨rfl, rfl⟩ := H
          go_wp2
          go_ret2
          exact ⟨by first | rfl | (simp; done) | (simp [*]; done), by repeat (first | exact Drawn0.refl _ | apply Drawn0.step)⟩

theorem thrumref02_SizeP.loop (x0 : List Int) (hb : x0.length ≤ 4096) : ∀ (d i : Nat) (s : Int), d + i = x0.length →
    thrumref02_SizeP.l0 (d + 1) s x0 (x0.length : Int) (i : Int) = totalGo thrumref01_Add.f (fun i : Nat => thrumref01_Abs.f (rd x0 i)) d i s := by
  intro d
  induction d with
  | zero =>
    intro i s hd
    rw [thrumref02_SizeP.l0, if_neg (by omega)]; rfl
  | succ d ih =>
    intro i s hd
    rw [thrumref02_SizeP.l0, if_pos (by omega), if_pos (by omega), if_pos (by omega), totalGo]
    congr 1; funext p
    by_cases c : p.2 = 0
    · rw [if_pos c, if_pos c]
      congr 1; funext q
      by_cases c2 : q.2 = 0
      · rw [if_pos c2, if_pos c2, wrap64_of (by unfold I64; omega), show (i : Int) + 1 = ((i + 1 : Nat) : Int) by omega]
        exact ih (i + 1) _ (by omega)
      · rw [if_neg c2, if_neg c2]
    · rw [if_neg c, if_neg c]
def thrumref02_Size.f (l0 : List Int) : Option (Int × Int) := if V64 l0 then some (sizeV l0) else none
theorem thrumref02_Size.of (l0 : List Int)  (h_ : V64 l0) : thrumref02_Size.f l0 = some (sizeV l0) := if_pos h_
theorem thrumref02_Size.calls (A0 : Option Addr) (c0 : Nat) (l0 : List Int) (r1 : Int) (r2 : Int) (w : World) (hr0 : Kd.C (Kd.int .i64) w A0 l0.length l0) (hc0 : l0.length ≤ c0) (h : thrumref02_Size.f l0 = some (r1, r2)) :
    Calls Try.prog 68 #[.slice A0 l0.length c0] w fun e w' => e = .returned (.tuple #[.int .i64 r1, .int .i64 r2]) ∧ Drawn0 w w' := by
  unfold thrumref02_Size.f at h
  split at h
  case isFalse => cases h
  rename_i hv
  refine thrumref02_SizeP.calls (l0.length + 1) A0 c0 l0 r1 r2 w hr0 hc0 (Eq.trans ?_ h)
  unfold thrumref02_SizeP.f sizeV checkE
  by_cases c : l0.length > 4096
  · rw [if_pos (by omega), if_pos c, if_neg (by omega)]
  · rw [if_neg (by omega), if_neg c, if_pos rfl]
    refine (thrumref02_SizeP.loop l0 (by omega) l0.length 0 0 (by omega)).trans ?_
    exact total_spec (fun a b ha hb => thrumref01_Add.of a b ⟨ha, hb⟩) (by intro p hp; obtain ⟨x, _, rfl⟩ := List.mem_map.1 hp; exact res_i64 _) (ps := l0.map absF) (List.length_map _) (fun j h => by rw [map_get _ j h]; exact thrumref01_Abs.of _ (hv.rd _))


end Go.Proofs.Ytllicjinmlkcfaa.HB
