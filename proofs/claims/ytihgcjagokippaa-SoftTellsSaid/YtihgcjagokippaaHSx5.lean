/- What Go functions do, each as a plain Lean function with the same answers, and the proof of it, in every world: printed by the session's driver over the kit's print, with texts by hand. -/
import Derived.Test.YtihgcjagokippaaHSx0
import Derived.Test.YtihgcjagokippaaHSx1
import Derived.Test.YtihgcjagokippaaHSx2
import Derived.Test.YtihgcjagokippaaHSx3
import Derived.Test.YtihgcjagokippaaHSx4
import Derived.Test.YtihgcjagokippaaMini
namespace Go.Proofs.Ytihgcjagokippaa.HS
open Go.RowKit Go.Proofs.YtihgcjagokippaaW.PrintWords Go.Proofs.YtihgcjagokippaaW.PrintLast Go.Proofs.YtihgcjagokippaaW.PrintMore
attribute [local go_sem] max2_int min2_int max_two min_two max_three min_three max_four min_four   -- for this text's walks alone
open Go.Proofs.Ytihgcjagokippaa.Sp
attribute [local go_sem] Go.Proofs.Ytihgcjagokippaa.Sp.u64_not
set_option linter.unusedVariables false
set_option linter.unusedSimpArgs false

/-! ### fix_DivP: function 40 -/
mutual
def fix_DivP.j0 : Nat → Int → Int → Int → Bool → Option (Int × Int)
 | 0, _, _, _, _ => none
 | k + 1, x0, x1, x2, x19 => if x19 = true then (some (0, 1)) else ((fix_size.f x0).bind fun t140 => (if 0 ≤ x2 then ((bits_Mul64.f t140 (shl .u64 1 x2)).bind fun bt141 => ((fix_size.f x1).bind fun t143 => (if bt141.1 ≥ t143 then (some (0, 2)) else ((bits_Div64.f bt141.1 bt141.2 t143).bind fun bt144 => (if ((decide (x0 < 0)) != (decide (x1 < 0))) = true then (if bt144.2 > 0 then (if bt144.1 ≥ 9223372036854775808 then (some (0, 2)) else (fix_DivP.j1 k (IntKind.u64.wrap (bt144.1 + 1)) 9223372036854775808)) else (fix_DivP.j1 k bt144.1 9223372036854775808)) else (if bt144.1 > 9223372036854775807 then (some (0, 2)) else (some (wrap64 (bt144.1), 0)))))))) else (none)))
def fix_DivP.j1 : Nat → Int → Int → Option (Int × Int)
 | 0, _, _ => none
 | k + 1, x10, x12 => if x10 > x12 then (some (0, 2)) else (some (wrap64 (IntKind.u64.wrap (-x10)), 0))
end
def fix_DivP.f (k : Nat) (a0 : Int) (a1 : Int) (a2 : Int) : Option (Int × Int) := (fix_behind.f a2).bind fun t139 => (if t139 = true then (fix_DivP.j0 k a0 a1 a2 (a1 == 0)) else (fix_DivP.j0 k a0 a1 a2 true))
theorem fix_DivP.mono_l : ∀ k, (∀ y0 y1 y2 y3, LeO (fix_DivP.j0 k y0 y1 y2 y3) (fix_DivP.j0 (k + 1) y0 y1 y2 y3)) ∧ (∀ y0 y1, LeO (fix_DivP.j1 k y0 y1) (fix_DivP.j1 (k + 1) y0 y1))
 | 0 => ⟨fun _ _ _ _ r h => by simp [fix_DivP.j0] at h, fun _ _ r h => by simp [fix_DivP.j1] at h⟩
 | k + 1 => by
  obtain ⟨ih0, ih1⟩ := fix_DivP.mono_l k
  refine ⟨?_, ?_⟩
  ·
   intro y0 y1 y2 y3
   unfold fix_DivP.j0
   repeat' first
   | (with_reducible exact ih0 _ _ _ _)
   | (with_reducible exact ih1 _ _)
   | (with_reducible exact LeO.refl _)
   | (with_reducible exact LeO.none _)
   | (with_reducible refine LeO.ite ?_ ?_)
   | (with_reducible refine LeO.bind ?_ (fun _ => ?_))
  ·
   intro y0 y1
   unfold fix_DivP.j1
   repeat' first
   | (with_reducible exact ih0 _ _ _ _)
   | (with_reducible exact ih1 _ _)
   | (with_reducible exact LeO.refl _)
   | (with_reducible exact LeO.none _)
   | (with_reducible refine LeO.ite ?_ ?_)
   | (with_reducible refine LeO.bind ?_ (fun _ => ?_))
theorem fix_DivP.mono : ∀ a0 a1 a2 k, LeO (fix_DivP.f k a0 a1 a2) (fix_DivP.f (k + 1) a0 a1 a2) := by
 intro a0 a1 a2 k
 obtain ⟨ih0, ih1⟩ := fix_DivP.mono_l k
 unfold fix_DivP.f
 repeat' first
   | (with_reducible exact ih0 _ _ _ _)
   | (with_reducible exact ih1 _ _)
   | (with_reducible exact LeO.refl _)
   | (with_reducible exact LeO.none _)
   | (with_reducible refine LeO.ite ?_ ?_)
   | (with_reducible refine LeO.bind ?_ (fun _ => ?_))
set_option maxHeartbeats 8000000 in
set_option maxRecDepth 100000 in
theorem fix_DivP.calls (k : Nat) (a0 : Int) (a1 : Int) (a2 : Int) (r1 : Int) (r2 : Int) (w : World) (h : fix_DivP.f k a0 a1 a2 = some (r1, r2)) :
  Calls Try.prog 40 #[.int .i64 a0, .int .i64 a1, .int .i64 a2] w fun e w' => e = .returned (.tuple #[.int .i64 r1, .int .i64 r2]) ∧ Drawn0 w w' := by
 have H : ((fix_behind.f a2).bind fun t139 => (if t139 = true then (fix_DivP.j0 k a0 a1 a2 (a1 == 0)) else (fix_DivP.j0 k a0 a1 a2 true))) = some (r1, r2) := h
 clear h
 have HC4 := ZM H
 clear H
 go_enter Try.func40, Try.ntmps40
 go_upto_region 1 with (fail)
 repeat (go_quiet (fail); go_upto_region 1 with (fail))
 go_cut [19] (fun v19 wc => ∃ (kq : Nat) (x19_3 : Bool), v19 = .bool x19_3 ∧ Aside0 (fix_DivP.j0 kq a0 a1 a2 x19_3 = some (r1, r2)) ∧ Aside0 (kq ≤ k) ∧ Drawn0 w wc)
 case first =>
  have H := HC4.out
  clear HC4
  replace H := Option.bind_eq_some_iff.mp H
  obtain ⟨t139, A50, H⟩ := H
  replace H : (if t139 = true then (fix_DivP.j0 k a0 a1 a2 (a1 == 0)) else (fix_DivP.j0 k a0 a1 a2 true)) = some (r1, r2) := H
  have A5 := ZM A50
  clear A50
  by_cases c6 : t139 = true
  ·
   subst c6
   have H1 : (fix_DivP.j0 k a0 a1 a2 (a1 == 0)) = some (r1, r2) := by rw [if_pos rfl] at H; exact H
   clear H
   have H := H1
   clear H1
   have H' := ZM H
   clear H
   go_wp2_with (first | (go_at_call 58; (with_reducible refine (fix_behind.calls a2 true _ A5.out).mono ?_); rintro e w' ⟨rfl, ⟨nd, rfl⟩⟩; (try first | exact ⟨rfl, _, wwN _ _ _⟩ | exact ⟨rfl, _, ww3 _ _ _ _⟩)))
   repeat (go_quiet (first | (go_at_call 58; (with_reducible refine (fix_behind.calls a2 true _ A5.out).mono ?_); rintro e w' ⟨rfl, ⟨nd, rfl⟩⟩; (try first | exact ⟨rfl, _, wwN _ _ _⟩ | exact ⟨rfl, _, ww3 _ _ _ _⟩))); try go_wp2_with (first | (go_at_call 58; (with_reducible refine (fix_behind.calls a2 true _ A5.out).mono ?_); rintro e w' ⟨rfl, ⟨nd, rfl⟩⟩; (try first | exact ⟨rfl, _, wwN _ _ _⟩ | exact ⟨rfl, _, ww3 _ _ _ _⟩))))
   go_meet
   case rel => exact ⟨_, ((a1 == 0)), Z5, H', ⟨by first | omega | exact Nat.le_refl _⟩, by repeat (first | exact ddR _ | apply ddS)⟩
  replace c6 := Bool.eq_false_iff.mpr c6
  subst c6
  have H1 : (fix_DivP.j0 k a0 a1 a2 true) = some (r1, r2) := by rw [if_neg (show ¬ (false = true) by decide)] at H; exact H
  clear H
  have H := H1
  clear H1
  have H' := ZM H
  clear H
  go_wp2_with (first | (go_at_call 58; (with_reducible refine (fix_behind.calls a2 false _ A5.out).mono ?_); rintro e w' ⟨rfl, ⟨nd, rfl⟩⟩; (try first | exact ⟨rfl, _, wwN _ _ _⟩ | exact ⟨rfl, _, ww3 _ _ _ _⟩)))
  repeat (go_quiet (first | (go_at_call 58; (with_reducible refine (fix_behind.calls a2 false _ A5.out).mono ?_); rintro e w' ⟨rfl, ⟨nd, rfl⟩⟩; (try first | exact ⟨rfl, _, wwN _ _ _⟩ | exact ⟨rfl, _, ww3 _ _ _ _⟩))); try go_wp2_with (first | (go_at_call 58; (with_reducible refine (fix_behind.calls a2 false _ A5.out).mono ?_); rintro e w' ⟨rfl, ⟨nd, rfl⟩⟩; (try first | exact ⟨rfl, _, wwN _ _ _⟩ | exact ⟨rfl, _, ww3 _ _ _ _⟩))))
  go_meet
  case rel => exact ⟨_, (true), Z5, H', ⟨by first | omega | exact Nat.le_refl _⟩, by repeat (first | exact ddR _ | apply ddS)⟩
 clear HC4
 obtain ⟨kq, x19_3, rfl, HA, HJ3, ⟨mc3, rfl⟩⟩ := hcut
 cases kq with
 | zero => exact absurd HA.out (by simp [fix_DivP.j0])
 | succ kj3 =>
  have H := HA.out
  clear HA
  simp only [fix_DivP.j0] at H
  by_cases c7 : x19_3 = true
  ·
   subst c7
   have H1 : (some (0, 1)) = some (r1, r2) := by rw [if_pos rfl] at H; exact H
   clear H
   have H := H1
   clear H1
   simp only [Option.some.injEq, Prod.mk.injEq] at H
   obtain ⟨rfl, rfl⟩ := H
   go_wp2
   repeat (go_quiet (fail); try go_wp2)
   go_ret2
   exact ⟨by first | rfl | (simp; done) | (simp [*]; done), by repeat (first | exact ddR _ | apply ddS)⟩
  replace c7 := Bool.eq_false_iff.mpr c7
  subst c7
  have H1 : ((fix_size.f a0).bind fun t140 => (if 0 ≤ a2 then ((bits_Mul64.f t140 (shl .u64 1 a2)).bind fun bt141 => ((fix_size.f a1).bind fun t143 => (if bt141.1 ≥ t143 then (some (0, 2)) else ((bits_Div64.f bt141.1 bt141.2 t143).bind fun bt144 => (if ((decide (a0 < 0)) != (decide (a1 < 0))) = true then (if bt144.2 > 0 then (if bt144.1 ≥ 9223372036854775808 then (some (0, 2)) else (fix_DivP.j1 kj3 (IntKind.u64.wrap (bt144.1 + 1)) 9223372036854775808)) else (fix_DivP.j1 kj3 bt144.1 9223372036854775808)) else (if bt144.1 > 9223372036854775807 then (some (0, 2)) else (some (wrap64 (bt144.1), 0)))))))) else (none))) = some (r1, r2) := by rw [if_neg (show ¬ (false = true) by decide)] at H; exact H
  clear H
  have H := H1
  clear H1
  replace H := Option.bind_eq_some_iff.mp H
  obtain ⟨t140, A80, H⟩ := H
  replace H : (if 0 ≤ a2 then ((bits_Mul64.f t140 (shl .u64 1 a2)).bind fun bt141 => ((fix_size.f a1).bind fun t143 => (if bt141.1 ≥ t143 then (some (0, 2)) else ((bits_Div64.f bt141.1 bt141.2 t143).bind fun bt144 => (if ((decide (a0 < 0)) != (decide (a1 < 0))) = true then (if bt144.2 > 0 then (if bt144.1 ≥ 9223372036854775808 then (some (0, 2)) else (fix_DivP.j1 kj3 (IntKind.u64.wrap (bt144.1 + 1)) 9223372036854775808)) else (fix_DivP.j1 kj3 bt144.1 9223372036854775808)) else (if bt144.1 > 9223372036854775807 then (some (0, 2)) else (some (wrap64 (bt144.1), 0)))))))) else (none)) = some (r1, r2) := H
  have A8 := ZM A80
  clear A80
  by_cases c9 : 0 ≤ a2
  case neg =>
   rw [if_neg c9] at H
   exact absurd H (by simp)
  rw [if_pos c9] at H
  have c9b0 := eq_true c9
  have c9b1 : decide (0 ≤ a2) = true := decide_eq_true c9
  clear c9
  obtain ⟨ji10, hji10⟩ : ∃ j_ : Int, (shl .u64 1 a2) = j_ := ⟨_, rfl⟩
  replace H : ((bits_Mul64.f t140 (ji10)).bind fun bt141 => ((fix_size.f a1).bind fun t143 => (if bt141.1 ≥ t143 then (some (0, 2)) else ((bits_Div64.f bt141.1 bt141.2 t143).bind fun bt144 => (if ((decide (a0 < 0)) != (decide (a1 < 0))) = true then (if bt144.2 > 0 then (if bt144.1 ≥ 9223372036854775808 then (some (0, 2)) else (fix_DivP.j1 kj3 (IntKind.u64.wrap (bt144.1 + 1)) 9223372036854775808)) else (fix_DivP.j1 kj3 bt144.1 9223372036854775808)) else (if bt144.1 > 9223372036854775807 then (some (0, 2)) else (some (wrap64 (bt144.1), 0)))))))) = some (r1, r2) := by first | (rw [hji10] at H; exact H) | (simp only [hji10] at H ⊢; exact H)
  (try rw [hji10] at A8)
  have hji10_ : (IntKind.u64.wrap (1 * 2 ^ min a2.toNat 64)) = ji10 := hji10
  have hji10z : a2 ≤ 64 → (IntKind.u64.wrap (1 * 2 ^ a2.toNat)) = ji10 := shl_small hji10
  have hji10u : (IntKind.u64.wrap (2 ^ min a2.toNat 64)) = ji10 := by have h_ := hji10_; rw [Int.one_mul] at h_; exact h_
  have hji10v : a2 ≤ 64 → (IntKind.u64.wrap (2 ^ a2.toNat)) = ji10 := fun hle_ => by have h_ := hji10z hle_; rw [Int.one_mul] at h_; exact h_
  replace H := Option.bind_eq_some_iff.mp H
  obtain ⟨⟨t141, t142⟩, A110, H⟩ := H
  replace H : ((fix_size.f a1).bind fun t143 => (if t141 ≥ t143 then (some (0, 2)) else ((bits_Div64.f t141 t142 t143).bind fun bt144 => (if ((decide (a0 < 0)) != (decide (a1 < 0))) = true then (if bt144.2 > 0 then (if bt144.1 ≥ 9223372036854775808 then (some (0, 2)) else (fix_DivP.j1 kj3 (IntKind.u64.wrap (bt144.1 + 1)) 9223372036854775808)) else (fix_DivP.j1 kj3 bt144.1 9223372036854775808)) else (if bt144.1 > 9223372036854775807 then (some (0, 2)) else (some (wrap64 (bt144.1), 0))))))) = some (r1, r2) := H
  have A11 := ZM A110
  clear A110
  replace H := Option.bind_eq_some_iff.mp H
  obtain ⟨t143, A120, H⟩ := H
  replace H : (if t141 ≥ t143 then (some (0, 2)) else ((bits_Div64.f t141 t142 t143).bind fun bt144 => (if ((decide (a0 < 0)) != (decide (a1 < 0))) = true then (if bt144.2 > 0 then (if bt144.1 ≥ 9223372036854775808 then (some (0, 2)) else (fix_DivP.j1 kj3 (IntKind.u64.wrap (bt144.1 + 1)) 9223372036854775808)) else (fix_DivP.j1 kj3 bt144.1 9223372036854775808)) else (if bt144.1 > 9223372036854775807 then (some (0, 2)) else (some (wrap64 (bt144.1), 0)))))) = some (r1, r2) := H
  have A12 := ZM A120
  clear A120
  by_cases c13 : t141 ≥ t143
  ·
   rw [if_pos c13] at H
   have c13b0 : decide (t143 ≤ t141) = true := decide_eq_true c13
   clear c13
   simp only [Option.some.injEq, Prod.mk.injEq] at H
   obtain ⟨rfl, rfl⟩ := H
   go_wp2_with (first | (go_at_call 60; (with_reducible refine (fix_size.calls a0 t140 _ A8.out).mono ?_); rintro e w' ⟨rfl, ⟨nd, rfl⟩⟩; (try first | exact ⟨rfl, _, wwN _ _ _⟩ | exact ⟨rfl, _, ww3 _ _ _ _⟩)) | (go_at_call 59; (with_reducible refine (bits_Mul64.calls t140 ji10 t141 t142 _ A11.out).mono ?_); rintro e w' ⟨rfl, ⟨nd, rfl⟩⟩; (try first | exact ⟨rfl, _, wwN _ _ _⟩ | exact ⟨rfl, _, ww3 _ _ _ _⟩)) | (go_at_call 60; (with_reducible refine (fix_size.calls a1 t143 _ A12.out).mono ?_); rintro e w' ⟨rfl, ⟨nd, rfl⟩⟩; (try first | exact ⟨rfl, _, wwN _ _ _⟩ | exact ⟨rfl, _, ww3 _ _ _ _⟩)))
   repeat (go_quiet (first | (go_at_call 60; (with_reducible refine (fix_size.calls a0 t140 _ A8.out).mono ?_); rintro e w' ⟨rfl, ⟨nd, rfl⟩⟩; (try first | exact ⟨rfl, _, wwN _ _ _⟩ | exact ⟨rfl, _, ww3 _ _ _ _⟩)) | (go_at_call 59; (with_reducible refine (bits_Mul64.calls t140 ji10 t141 t142 _ A11.out).mono ?_); rintro e w' ⟨rfl, ⟨nd, rfl⟩⟩; (try first | exact ⟨rfl, _, wwN _ _ _⟩ | exact ⟨rfl, _, ww3 _ _ _ _⟩)) | (go_at_call 60; (with_reducible refine (fix_size.calls a1 t143 _ A12.out).mono ?_); rintro e w' ⟨rfl, ⟨nd, rfl⟩⟩; (try first | exact ⟨rfl, _, wwN _ _ _⟩ | exact ⟨rfl, _, ww3 _ _ _ _⟩))); try go_wp2_with (first | (go_at_call 60; (with_reducible refine (fix_size.calls a0 t140 _ A8.out).mono ?_); rintro e w' ⟨rfl, ⟨nd, rfl⟩⟩; (try first | exact ⟨rfl, _, wwN _ _ _⟩ | exact ⟨rfl, _, ww3 _ _ _ _⟩)) | (go_at_call 59; (with_reducible refine (bits_Mul64.calls t140 ji10 t141 t142 _ A11.out).mono ?_); rintro e w' ⟨rfl, ⟨nd, rfl⟩⟩; (try first | exact ⟨rfl, _, wwN _ _ _⟩ | exact ⟨rfl, _, ww3 _ _ _ _⟩)) | (go_at_call 60; (with_reducible refine (fix_size.calls a1 t143 _ A12.out).mono ?_); rintro e w' ⟨rfl, ⟨nd, rfl⟩⟩; (try first | exact ⟨rfl, _, wwN _ _ _⟩ | exact ⟨rfl, _, ww3 _ _ _ _⟩))))
   go_ret2
   exact ⟨by first | rfl | (simp; done) | (simp only [← hji10] <;> (first | rfl | simp)) | (simp [*]; done), by repeat (first | exact ddR _ | apply ddS)⟩
  rw [if_neg c13] at H
  have c13b0 : decide (t143 ≤ t141) = false := decide_eq_false c13
  clear c13
  replace H := Option.bind_eq_some_iff.mp H
  obtain ⟨⟨t144, t145⟩, A140, H⟩ := H
  replace H : (if ((decide (a0 < 0)) != (decide (a1 < 0))) = true then (if t145 > 0 then (if t144 ≥ 9223372036854775808 then (some (0, 2)) else (fix_DivP.j1 kj3 (IntKind.u64.wrap (t144 + 1)) 9223372036854775808)) else (fix_DivP.j1 kj3 t144 9223372036854775808)) else (if t144 > 9223372036854775807 then (some (0, 2)) else (some (wrap64 (t144), 0)))) = some (r1, r2) := H
  have A14 := ZM A140
  clear A140
  by_cases c15 : ((decide (a0 < 0)) != (decide (a1 < 0))) = true
  case neg =>
   rw [if_neg c15] at H
   have c15b0 : ((decide (a0 < 0)) != (decide (a1 < 0))) = false := by simpa using c15
   (try (have c15b1 : decide ((decide (a0 < 0)) = (decide (a1 < 0))) = true := by simpa using c15))
   (try (have c15b2 : ((decide (a0 < 0)) == (decide (a1 < 0))) = true := by simpa using c15))
   clear c15
   by_cases c20 : t144 > 9223372036854775807
   case neg =>
    rw [if_neg c20] at H
    have c20b0 : decide (9223372036854775807 < t144) = false := decide_eq_false c20
    clear c20
    simp only [Option.some.injEq, Prod.mk.injEq] at H
    obtain ⟨rfl, rfl⟩ := H
    go_wp2_with (first | (go_at_call 60; (with_reducible refine (fix_size.calls a0 t140 _ A8.out).mono ?_); rintro e w' ⟨rfl, ⟨nd, rfl⟩⟩; (try first | exact ⟨rfl, _, wwN _ _ _⟩ | exact ⟨rfl, _, ww3 _ _ _ _⟩)) | (go_at_call 59; (with_reducible refine (bits_Mul64.calls t140 ji10 t141 t142 _ A11.out).mono ?_); rintro e w' ⟨rfl, ⟨nd, rfl⟩⟩; (try first | exact ⟨rfl, _, wwN _ _ _⟩ | exact ⟨rfl, _, ww3 _ _ _ _⟩)) | (go_at_call 60; (with_reducible refine (fix_size.calls a1 t143 _ A12.out).mono ?_); rintro e w' ⟨rfl, ⟨nd, rfl⟩⟩; (try first | exact ⟨rfl, _, wwN _ _ _⟩ | exact ⟨rfl, _, ww3 _ _ _ _⟩)) | (go_at_call 61; (with_reducible refine (bits_Div64.calls t141 t142 t143 t144 t145 _ A14.out).mono ?_); rintro e w' ⟨rfl, ⟨nd, rfl⟩⟩; (try first | exact ⟨rfl, _, wwN _ _ _⟩ | exact ⟨rfl, _, ww3 _ _ _ _⟩)))
    repeat (go_quiet (first | (go_at_call 60; (with_reducible refine (fix_size.calls a0 t140 _ A8.out).mono ?_); rintro e w' ⟨rfl, ⟨nd, rfl⟩⟩; (try first | exact ⟨rfl, _, wwN _ _ _⟩ | exact ⟨rfl, _, ww3 _ _ _ _⟩)) | (go_at_call 59; (with_reducible refine (bits_Mul64.calls t140 ji10 t141 t142 _ A11.out).mono ?_); rintro e w' ⟨rfl, ⟨nd, rfl⟩⟩; (try first | exact ⟨rfl, _, wwN _ _ _⟩ | exact ⟨rfl, _, ww3 _ _ _ _⟩)) | (go_at_call 60; (with_reducible refine (fix_size.calls a1 t143 _ A12.out).mono ?_); rintro e w' ⟨rfl, ⟨nd, rfl⟩⟩; (try first | exact ⟨rfl, _, wwN _ _ _⟩ | exact ⟨rfl, _, ww3 _ _ _ _⟩)) | (go_at_call 61; (with_reducible refine (bits_Div64.calls t141 t142 t143 t144 t145 _ A14.out).mono ?_); rintro e w' ⟨rfl, ⟨nd, rfl⟩⟩; (try first | exact ⟨rfl, _, wwN _ _ _⟩ | exact ⟨rfl, _, ww3 _ _ _ _⟩))); try go_wp2_with (first | (go_at_call 60; (with_reducible refine (fix_size.calls a0 t140 _ A8.out).mono ?_); rintro e w' ⟨rfl, ⟨nd, rfl⟩⟩; (try first | exact ⟨rfl, _, wwN _ _ _⟩ | exact ⟨rfl, _, ww3 _ _ _ _⟩)) | (go_at_call 59; (with_reducible refine (bits_Mul64.calls t140 ji10 t141 t142 _ A11.out).mono ?_); rintro e w' ⟨rfl, ⟨nd, rfl⟩⟩; (try first | exact ⟨rfl, _, wwN _ _ _⟩ | exact ⟨rfl, _, ww3 _ _ _ _⟩)) | (go_at_call 60; (with_reducible refine (fix_size.calls a1 t143 _ A12.out).mono ?_); rintro e w' ⟨rfl, ⟨nd, rfl⟩⟩; (try first | exact ⟨rfl, _, wwN _ _ _⟩ | exact ⟨rfl, _, ww3 _ _ _ _⟩)) | (go_at_call 61; (with_reducible refine (bits_Div64.calls t141 t142 t143 t144 t145 _ A14.out).mono ?_); rintro e w' ⟨rfl, ⟨nd, rfl⟩⟩; (try first | exact ⟨rfl, _, wwN _ _ _⟩ | exact ⟨rfl, _, ww3 _ _ _ _⟩))))
    go_ret2
    exact ⟨by first | rfl | (simp; done) | (simp only [← hji10] <;> (first | rfl | simp)) | (simp [*]; done), by repeat (first | exact ddR _ | apply ddS)⟩
   rw [if_pos c20] at H
   have c20b0 : decide (9223372036854775807 < t144) = true := decide_eq_true c20
   clear c20
   simp only [Option.some.injEq, Prod.mk.injEq] at H
   obtain ⟨rfl, rfl⟩ := H
   go_wp2_with (first | (go_at_call 60; (with_reducible refine (fix_size.calls a0 t140 _ A8.out).mono ?_); rintro e w' ⟨rfl, ⟨nd, rfl⟩⟩; (try first | exact ⟨rfl, _, wwN _ _ _⟩ | exact ⟨rfl, _, ww3 _ _ _ _⟩)) | (go_at_call 59; (with_reducible refine (bits_Mul64.calls t140 ji10 t141 t142 _ A11.out).mono ?_); rintro e w' ⟨rfl, ⟨nd, rfl⟩⟩; (try first | exact ⟨rfl, _, wwN _ _ _⟩ | exact ⟨rfl, _, ww3 _ _ _ _⟩)) | (go_at_call 60; (with_reducible refine (fix_size.calls a1 t143 _ A12.out).mono ?_); rintro e w' ⟨rfl, ⟨nd, rfl⟩⟩; (try first | exact ⟨rfl, _, wwN _ _ _⟩ | exact ⟨rfl, _, ww3 _ _ _ _⟩)) | (go_at_call 61; (with_reducible refine (bits_Div64.calls t141 t142 t143 t144 t145 _ A14.out).mono ?_); rintro e w' ⟨rfl, ⟨nd, rfl⟩⟩; (try first | exact ⟨rfl, _, wwN _ _ _⟩ | exact ⟨rfl, _, ww3 _ _ _ _⟩)))
   repeat (go_quiet (first | (go_at_call 60; (with_reducible refine (fix_size.calls a0 t140 _ A8.out).mono ?_); rintro e w' ⟨rfl, ⟨nd, rfl⟩⟩; (try first | exact ⟨rfl, _, wwN _ _ _⟩ | exact ⟨rfl, _, ww3 _ _ _ _⟩)) | (go_at_call 59; (with_reducible refine (bits_Mul64.calls t140 ji10 t141 t142 _ A11.out).mono ?_); rintro e w' ⟨rfl, ⟨nd, rfl⟩⟩; (try first | exact ⟨rfl, _, wwN _ _ _⟩ | exact ⟨rfl, _, ww3 _ _ _ _⟩)) | (go_at_call 60; (with_reducible refine (fix_size.calls a1 t143 _ A12.out).mono ?_); rintro e w' ⟨rfl, ⟨nd, rfl⟩⟩; (try first | exact ⟨rfl, _, wwN _ _ _⟩ | exact ⟨rfl, _, ww3 _ _ _ _⟩)) | (go_at_call 61; (with_reducible refine (bits_Div64.calls t141 t142 t143 t144 t145 _ A14.out).mono ?_); rintro e w' ⟨rfl, ⟨nd, rfl⟩⟩; (try first | exact ⟨rfl, _, wwN _ _ _⟩ | exact ⟨rfl, _, ww3 _ _ _ _⟩))); try go_wp2_with (first | (go_at_call 60; (with_reducible refine (fix_size.calls a0 t140 _ A8.out).mono ?_); rintro e w' ⟨rfl, ⟨nd, rfl⟩⟩; (try first | exact ⟨rfl, _, wwN _ _ _⟩ | exact ⟨rfl, _, ww3 _ _ _ _⟩)) | (go_at_call 59; (with_reducible refine (bits_Mul64.calls t140 ji10 t141 t142 _ A11.out).mono ?_); rintro e w' ⟨rfl, ⟨nd, rfl⟩⟩; (try first | exact ⟨rfl, _, wwN _ _ _⟩ | exact ⟨rfl, _, ww3 _ _ _ _⟩)) | (go_at_call 60; (with_reducible refine (fix_size.calls a1 t143 _ A12.out).mono ?_); rintro e w' ⟨rfl, ⟨nd, rfl⟩⟩; (try first | exact ⟨rfl, _, wwN _ _ _⟩ | exact ⟨rfl, _, ww3 _ _ _ _⟩)) | (go_at_call 61; (with_reducible refine (bits_Div64.calls t141 t142 t143 t144 t145 _ A14.out).mono ?_); rintro e w' ⟨rfl, ⟨nd, rfl⟩⟩; (try first | exact ⟨rfl, _, wwN _ _ _⟩ | exact ⟨rfl, _, ww3 _ _ _ _⟩))))
   go_ret2
   exact ⟨by first | rfl | (simp; done) | (simp only [← hji10] <;> (first | rfl | simp)) | (simp [*]; done), by repeat (first | exact ddR _ | apply ddS)⟩
  rw [if_pos c15] at H
  have c15b0 : ((decide (a0 < 0)) != (decide (a1 < 0))) = true := c15
  (try (have c15b1 : decide ((decide (a0 < 0)) = (decide (a1 < 0))) = false := by simpa using c15))
  (try (have c15b2 : ((decide (a0 < 0)) == (decide (a1 < 0))) = false := by simpa using c15))
  (try (have c15b3 : ¬ ((decide (a0 < 0)) = (decide (a1 < 0))) := by simpa using c15))
  clear c15
  have HC16 := ZM H
  clear H
  go_upto_if 48 with (first | (go_at_call 60; (with_reducible refine (fix_size.calls a0 t140 _ A8.out).mono ?_); rintro e w' ⟨rfl, ⟨nd, rfl⟩⟩; (try first | exact ⟨rfl, _, wwN _ _ _⟩ | exact ⟨rfl, _, ww3 _ _ _ _⟩)) | (go_at_call 59; (with_reducible refine (bits_Mul64.calls t140 ji10 t141 t142 _ A11.out).mono ?_); rintro e w' ⟨rfl, ⟨nd, rfl⟩⟩; (try first | exact ⟨rfl, _, wwN _ _ _⟩ | exact ⟨rfl, _, ww3 _ _ _ _⟩)) | (go_at_call 60; (with_reducible refine (fix_size.calls a1 t143 _ A12.out).mono ?_); rintro e w' ⟨rfl, ⟨nd, rfl⟩⟩; (try first | exact ⟨rfl, _, wwN _ _ _⟩ | exact ⟨rfl, _, ww3 _ _ _ _⟩)) | (go_at_call 61; (with_reducible refine (bits_Div64.calls t141 t142 t143 t144 t145 _ A14.out).mono ?_); rintro e w' ⟨rfl, ⟨nd, rfl⟩⟩; (try first | exact ⟨rfl, _, wwN _ _ _⟩ | exact ⟨rfl, _, ww3 _ _ _ _⟩)))
  repeat (go_quiet (first | (go_at_call 60; (with_reducible refine (fix_size.calls a0 t140 _ A8.out).mono ?_); rintro e w' ⟨rfl, ⟨nd, rfl⟩⟩; (try first | exact ⟨rfl, _, wwN _ _ _⟩ | exact ⟨rfl, _, ww3 _ _ _ _⟩)) | (go_at_call 59; (with_reducible refine (bits_Mul64.calls t140 ji10 t141 t142 _ A11.out).mono ?_); rintro e w' ⟨rfl, ⟨nd, rfl⟩⟩; (try first | exact ⟨rfl, _, wwN _ _ _⟩ | exact ⟨rfl, _, ww3 _ _ _ _⟩)) | (go_at_call 60; (with_reducible refine (fix_size.calls a1 t143 _ A12.out).mono ?_); rintro e w' ⟨rfl, ⟨nd, rfl⟩⟩; (try first | exact ⟨rfl, _, wwN _ _ _⟩ | exact ⟨rfl, _, ww3 _ _ _ _⟩)) | (go_at_call 61; (with_reducible refine (bits_Div64.calls t141 t142 t143 t144 t145 _ A14.out).mono ?_); rintro e w' ⟨rfl, ⟨nd, rfl⟩⟩; (try first | exact ⟨rfl, _, wwN _ _ _⟩ | exact ⟨rfl, _, ww3 _ _ _ _⟩))); go_upto_if 48 with (first | (go_at_call 60; (with_reducible refine (fix_size.calls a0 t140 _ A8.out).mono ?_); rintro e w' ⟨rfl, ⟨nd, rfl⟩⟩; (try first | exact ⟨rfl, _, wwN _ _ _⟩ | exact ⟨rfl, _, ww3 _ _ _ _⟩)) | (go_at_call 59; (with_reducible refine (bits_Mul64.calls t140 ji10 t141 t142 _ A11.out).mono ?_); rintro e w' ⟨rfl, ⟨nd, rfl⟩⟩; (try first | exact ⟨rfl, _, wwN _ _ _⟩ | exact ⟨rfl, _, ww3 _ _ _ _⟩)) | (go_at_call 60; (with_reducible refine (fix_size.calls a1 t143 _ A12.out).mono ?_); rintro e w' ⟨rfl, ⟨nd, rfl⟩⟩; (try first | exact ⟨rfl, _, wwN _ _ _⟩ | exact ⟨rfl, _, ww3 _ _ _ _⟩)) | (go_at_call 61; (with_reducible refine (bits_Div64.calls t141 t142 t143 t144 t145 _ A14.out).mono ?_); rintro e w' ⟨rfl, ⟨nd, rfl⟩⟩; (try first | exact ⟨rfl, _, wwN _ _ _⟩ | exact ⟨rfl, _, ww3 _ _ _ _⟩))))
  (try simp only [Act.put, Zt])
  go_cut [10] (fun v10 wc => ∃ (kq : Nat) (x10_15 : Int), v10 = .int .u64 x10_15 ∧ Aside0 (fix_DivP.j1 kq x10_15 9223372036854775808 = some (r1, r2)) ∧ Aside0 (kq ≤ kj3) ∧ Drawn0 w wc)
  case first =>
   have H := HC16.out
   clear HC16
   by_cases c17 : t145 > 0
   case neg =>
    rw [if_neg c17] at H
    have c17b0 : decide (0 < t145) = false := decide_eq_false c17
    clear c17
    (first | rw [c17b0] | (simp only [i64_w, i32_w]; rw [c17b0]) | skip)
    have H' := ZM H
    clear H
    go_wp2
    repeat (go_quiet (fail); try go_wp2)
    go_meet
    case rel => exact ⟨_, (t144), Z5, H', ⟨by have := HJ3.out; first | omega | exact Nat.le_refl _⟩, by repeat (first | exact ddR _ | apply ddS)⟩
   rw [if_pos c17] at H
   have c17b0 : decide (0 < t145) = true := decide_eq_true c17
   clear c17
   (first | rw [c17b0] | (simp only [i64_w, i32_w]; rw [c17b0]) | skip)
   by_cases c18 : t144 ≥ 9223372036854775808
   case neg =>
    rw [if_neg c18] at H
    have c18b0 : decide (9223372036854775808 ≤ t144) = false := decide_eq_false c18
    clear c18
    have H' := ZM H
    clear H
    go_wp2
    repeat (go_quiet (fail); try go_wp2)
    go_meet
    case rel => exact ⟨_, (IntKind.u64.wrap (t144 + 1)), Z5, H', ⟨by have := HJ3.out; first | omega | exact Nat.le_refl _⟩, by repeat (first | exact ddR _ | apply ddS)⟩
   rw [if_pos c18] at H
   have c18b0 : decide (9223372036854775808 ≤ t144) = true := decide_eq_true c18
   clear c18
   simp only [Option.some.injEq, Prod.mk.injEq] at H
   obtain ⟨rfl, rfl⟩ := H
   go_wp2
   repeat (go_quiet (fail); try go_wp2)
   go_ret2
   exact ⟨by first | rfl | (simp; done) | (simp only [← hji10] <;> (first | rfl | simp)) | (simp [*]; done), by repeat (first | exact ddR _ | apply ddS)⟩
  clear HC16
  try clear c7
  try clear c9
  try clear c9b0
  try clear c9b1
  try clear c13
  try clear c13b0
  try clear c15
  try clear c15b0
  try clear c15b1
  try clear c15b2
  obtain ⟨kq, x10_15, rfl, HA, HJ15, ⟨mc15, rfl⟩⟩ := hcut
  cases kq with
  | zero => exact absurd HA.out (by simp [fix_DivP.j1])
  | succ kj15 =>
   have H := HA.out
   clear HA
   simp only [fix_DivP.j1] at H
   by_cases c19 : x10_15 > 9223372036854775808
   case neg =>
    rw [if_neg c19] at H
    have c19b0 : decide (9223372036854775808 < x10_15) = false := decide_eq_false c19
    clear c19
    simp only [Option.some.injEq, Prod.mk.injEq] at H
    obtain ⟨rfl, rfl⟩ := H
    go_wp2
    repeat (go_quiet (fail); try go_wp2)
    go_ret2
    exact ⟨by first | rfl | (simp; done) | (simp only [← hji10] <;> (first | rfl | simp)) | (simp [*]; done), by repeat (first | exact ddR _ | apply ddS)⟩
   rw [if_pos c19] at H
   have c19b0 : decide (9223372036854775808 < x10_15) = true := decide_eq_true c19
   clear c19
   simp only [Option.some.injEq, Prod.mk.injEq] at H
   obtain ⟨rfl, rfl⟩ := H
   go_wp2
   repeat (go_quiet (fail); try go_wp2)
   go_ret2
   exact ⟨by first | rfl | (simp; done) | (simp only [← hji10] <;> (first | rfl | simp)) | (simp [*]; done), by repeat (first | exact ddR _ | apply ddS)⟩
def fix_Div.f (a0 a1 a2 : Int) : Option (Int × Int) := if I64 a0 ∧ I64 a1 then some (divF a0 a1 a2) else none
theorem fix_Div.of (a0 a1 a2 : Int)  (h_ : I64 a0 ∧ I64 a1) : fix_Div.f a0 a1 a2 = some (divF a0 a1 a2) := if_pos h_
theorem fix_DivP.spec {a0 a1 a2 : Int} (h0 : I64 a0) (h1 : I64 a1) : fix_DivP.f 3 a0 a1 a2 = some (divF a0 a1 a2) := by
  unfold fix_DivP.f fix_behind.f divF
  simp only [Option.bind_some]
  by_cases c : a2 < 0 ∨ a2 > 30 ∨ a1 = 0
  · rw [if_pos c]
    by_cases c2 : 0 ≤ a2 ∧ a2 ≤ 30
    · rw [if_pos (by simpa using c2), show (3 : Nat) = 2 + 1 from rfl, fix_DivP.j0, if_pos (by simp; omega)]
    · rw [if_neg (by simpa using c2), show (3 : Nat) = 2 + 1 from rfl, fix_DivP.j0, if_pos rfl]
  · rw [if_neg c, if_pos (by simp; omega), show (3 : Nat) = 2 + 1 from rfl, fix_DivP.j0, if_neg (by simp; omega)]
    unfold fix_size.f
    rw [if_pos h0, if_pos h1]
    simp only [Option.bind_some]
    rw [if_pos (by omega)]
    have hp : (0 : Int) < 2 ^ a2.toNat := Int.pow_pos (by omega)
    have hp30 : (2 : Int) ^ a2.toNat ≤ 1073741824 := by
      have : (2 : Nat) ^ a2.toNat ≤ 2 ^ 30 := Nat.pow_le_pow_right (by omega) (by omega)
      have e : ((2 ^ a2.toNat : Nat) : Int) = (2 : Int) ^ a2.toNat := by simp
      omega
    have hs : shl .u64 1 a2 = 2 ^ a2.toNat := by
      unfold shl; rw [show min a2.toNat IntKind.u64.bits = a2.toNat from by show min a2.toNat 64 = _; omega, wu]; omega
    rw [hs]
    obtain ⟨P, hP⟩ : ∃ P : Int, P = 2 ^ a2.toNat := ⟨_, rfl⟩
    rw [← hP] at hp hp30 ⊢
    unfold I64 at h0 h1
    unfold bits_Mul64.f
    rw [if_pos ⟨by unfold U64; omega, by unfold U64; omega⟩]
    simp only [Option.bind_some]
    obtain ⟨X, hX⟩ : ∃ X : Int, X = (a0.natAbs : Int) * P := ⟨_, rfl⟩
    rw [← hX]
    have hX0 : 0 ≤ X := by rw [hX]; exact Int.mul_nonneg (by omega) (by omega)
    have haX : a0 * P = if a0 < 0 then -X else X := by
      split
      · rw [hX, show (a0.natAbs : Int) = -a0 by omega]; grind
      · rw [hX, show (a0.natAbs : Int) = a0 by omega]
    have hb : 0 < (a1.natAbs : Int) := by omega
    obtain ⟨b, hb'⟩ : ∃ b : Int, b = (a1.natAbs : Int) := ⟨_, rfl⟩
    rw [← hb'] at hb ⊢
    have hq : divQ (a0 * P) a1 = if (a0 < 0) = (a1 < 0) then X / b else (-X) / b := by
      unfold divQ
      rw [haX]
      by_cases ca : a0 < 0 <;> by_cases cb : a1 < 0 <;> simp only [ca, cb, if_true, if_false]
      · rw [if_neg (by omega), show -a1 = b by omega]; simp
      · rw [if_pos (by omega), show a1 = b by omega]; try simp
      · rw [if_neg (by omega), show -a1 = b by omega]; try simp
      · rw [if_pos (by omega), show a1 = b by omega]; try simp
    rw [hq]
    have hdm := Int.emod_add_mul_ediv X b
    have hm0 := Int.emod_nonneg X (show b ≠ 0 by omega)
    have hm1 := Int.emod_lt_of_pos X hb
    have hneg := neg_div X hb
    have hqn := Int.ediv_nonneg hX0 (Int.le_of_lt hb)
    by_cases co : X / 18446744073709551616 ≥ b
    · rw [if_pos co]
      have hbig : 18446744073709551616 ≤ X / b := by
        rw [Int.le_ediv_iff_mul_le hb]; omega
      rw [res_not (by unfold I64; rw [hneg]; split <;> (try split) <;> omega)]
    · rw [if_neg co]
      unfold bits_Div64.f
      have hXb : X / 18446744073709551616 * 18446744073709551616 + X % 18446744073709551616 = X := by omega
      rw [if_pos ⟨by unfold U64; omega, by unfold U64; omega, by unfold U64; omega, by omega⟩, hXb]
      simp only [Option.bind_some]
      generalize X / b = q at *
      generalize X % b = l at *
      by_cases cs : (a0 < 0) = (a1 < 0)
      · rw [if_neg (by simp [cs]), if_pos cs]
        by_cases ci : q > 9223372036854775807
        · rw [if_pos ci, res_not (by unfold I64; omega)]
        · rw [if_neg ci, res_of (by unfold I64; omega), wrap64_of (by unfold I64; omega)]
      · rw [if_pos (by simpa using cs), if_neg cs, hneg]
        by_cases cl : l > 0
        · rw [if_pos cl, if_pos cl]
          by_cases ci : q ≥ 9223372036854775808
          · rw [if_pos ci, res_not (by unfold I64; omega)]
          · rw [if_neg ci, show (2 : Nat) = 1 + 1 from rfl, fix_DivP.j1, res_of (by unfold I64; omega)]
            simp only [wu, wrap64_def]
            rw [if_neg (by omega)]
            simp only [Option.some.injEq, Prod.mk.injEq, and_true]; omega
        · rw [if_neg cl, if_neg cl, show (2 : Nat) = 1 + 1 from rfl, fix_DivP.j1]
          by_cases ci : q > 9223372036854775808
          · rw [if_pos ci, res_not (by unfold I64; omega)]
          · rw [if_neg ci, res_of (by unfold I64; omega)]
            simp only [wu, wrap64_def, Option.some.injEq, Prod.mk.injEq, and_true]; omega
theorem fix_Div.calls (a0 : Int) (a1 : Int) (a2 : Int) (r1 : Int) (r2 : Int) (w : World) (h : fix_Div.f a0 a1 a2 = some (r1, r2)) :
    Calls Try.prog 40 #[.int .i64 a0, .int .i64 a1, .int .i64 a2] w fun e w' => e = .returned (.tuple #[.int .i64 r1, .int .i64 r2]) ∧ Drawn0 w w' := by
  unfold fix_Div.f at h
  split at h
  · rename_i hu
    exact fix_DivP.calls 3 a0 a1 a2 r1 r2 w ((fix_DivP.spec hu.1 hu.2).trans h)
  · cases h


/-! ### table_Soft: function 22 -/
def table_Soft.f (a0 : Int) (l1 : List Int) : Option (List Int × Int) := if I64 a0 ∧ V64 l1 then some (softV a0 l1) else none
theorem table_Soft.of (a0 : Int) (l1 : List Int)  (h_ : I64 a0 ∧ V64 l1) : table_Soft.f a0 l1 = some (softV a0 l1) := if_pos h_
set_option maxHeartbeats 8000000 in
set_option maxRecDepth 100000 in
theorem table_Soft.calls (a0 : Int) (A1 : Option Addr) (c1 : Nat) (l1 : List Int) (r1 : List Int) (r2 : Int) (w : World) (hr1 : Kd.C (Kd.int .i64) w A1 l1.length l1) (hc1 : l1.length ≤ c1) (h : table_Soft.f a0 l1 = some (r1, r2)) :
    Calls Try.prog 22 #[.int .i64 a0, .slice A1 l1.length c1] w fun e w' => ∃ v0_ : Value, e = .returned (.tuple #[v0_, .int .i64 r2]) ∧ Kd.R (Kd.int .i64) 2 w' w.heap.size (fun _ => True) v0_ r1 ∧ Below w.heap.size w w' := by
 unfold table_Soft.f at h
 split at h
 case isFalse => cases h
 rename_i hv
 have h := Option.some.inj h
 unfold softV at h
 have HR := ZM hr1
 have HC := ZM hc1
 have HV := ZM hv
 clear hr1 hc1 hv
 by_cases hb : (bestF l1).2 = 0
 · rw [if_neg (by simpa using hb)] at h
   obtain ⟨hI, hn0, hn⟩ := bestF_is hb
   obtain ⟨best, hbest⟩ : ∃ b, (bestF l1).1 = b := ⟨_, rfl⟩
   rw [hbest] at h hI
   have HBE : Aside0 (table_Best.f l1 = some (best, 0)) := ⟨congrArg some (Prod.ext hbest hb)⟩
   clear hb hbest
   by_cases hf : a0 < 0 ∨ a0 > 30
   · rw [if_pos hf] at h
     cases h
     rcases Bool.eq_false_or_eq_true (decide (a0 < 0)) with k1 | k1
     · clear hf
       go_enter Try.func22, Try.ntmps22
       go_wp2_with (go_at_call 25; (with_reducible refine (table_Best.calls A1 c1 l1 best 0 _ HR.out HC.out HBE.out).mono ?_); rintro ed W1 ⟨rfl, hb⟩; have HBW := ZM hb; clear hb)
       go_ret2
       exact ⟨_, rfl, Kd.R_nil _ _ _ _ _, HBW.out⟩
     · have k2 : decide (30 < a0) = true := decide_eq_true (by simp only [decide_eq_false_iff_not] at k1; omega)
       clear hf
       go_enter Try.func22, Try.ntmps22
       go_wp2_with (go_at_call 25; (with_reducible refine (table_Best.calls A1 c1 l1 best 0 _ HR.out HC.out HBE.out).mono ?_); rintro ed W1 ⟨rfl, hb⟩; have HBW := ZM hb; clear hb)
       go_ret2
       exact ⟨_, rfl, Kd.R_nil _ _ _ _ _, HBW.out⟩
   · rw [if_neg hf] at h
     have k1 : decide (a0 < 0) = false := decide_eq_false (by omega)
     have k2 : decide (30 < a0) = false := decide_eq_false (by omega)
     have HF : Aside0 (0 ≤ a0 ∧ a0 ≤ 30) := ⟨by omega⟩
     have HH := ZM h
     have hbm := hI.1
     have hbl := hI.2.1
     obtain ⟨n, hnn⟩ : ∃ n, l1.length = n := ⟨_, rfl⟩
     obtain ⟨m, hm⟩ : ∃ m, rd l1 best = m := ⟨_, rfl⟩
     obtain ⟨ad, had, hcm⟩ := Kd.at_int HR.out best hbm (by omega)
     subst had
     rw [hm] at hcm
     have HCM := ZM hcm
     have hmI : I64 m := by rw [← hm]; exact HV.out.2.rd _
     have HM := ZM hmI
     have HN := ZM hn
     have hmk := print_make (P := Try.prog) 22 2 .i64 8 Try.underlying22 info2 (by decide) n (by omega)
     rw [hm] at HH
     have hbl2 : best < (n : Int) := by omega
     clear h hf hI hn0 hn hm hmI hbl hcm
     have HRn := HR.out
     rw [hnn] at HRn
     have HRN := ZM HRn
     have HNN := ZM hnn
     clear HRn hnn
     go_enter Try.func22, Try.ntmps22
     go_wp2_with (go_at_call 25; (with_reducible refine (table_Best.calls _ c1 l1 best 0 _ HR.out HC.out HBE.out).mono ?_); rintro ed W1 ⟨rfl, hb⟩; have HBW := ZM hb; clear hb; (try simp only [HNN.out]))
     go_loopw [9, 39] (fun s v W => ∃ (k : Nat) (acc : List Int), v = .int .i64 k ∧ s = .int .i64 (sumI acc) ∧ Aside0 (k ≤ n) ∧ Aside0 (acc.length = k) ∧ Aside0 (∀ p ∈ acc, 0 ≤ p ∧ p ≤ 1073741824) ∧ Aside0 (seqFrom (powF m a0) (l1.drop k) acc = seqV (l1.map (powF m a0))) ∧ Aside0 (Kd.R (Kd.int .i64) 2 W w.heap.size (fun _ => True) (.slice (some ⟨W1.heap.size, 0, none⟩) n n) (acc ++ List.replicate (n - k) 0)) ∧ Aside0 (Below w.heap.size w W)) (fun _ v _ => n - (intOf v).toNat)
     case atStart => exact ⟨0, [], rfl, rfl, ⟨Nat.zero_le _⟩, ⟨rfl⟩, ⟨by simp⟩, ⟨by rw [List.drop_zero]; exact seqFrom_start _ _⟩, ⟨by have ho := own_made W1 w.heap.size 2 .i64 n HBW.out.size (by have := HN.out; have := HNN.out; omega); rw [show ([] : List Int) ++ List.replicate (n - 0) 0 = List.replicate n 0 by simp]; exact Kd.R_of_own (enc := Value.int .i64) (h1 := fun _ => rfl) (xs := List.replicate n (0 : Int)) (by rw [List.length_replicate]; exact ho) (fun _ _ => trivial)⟩, ⟨zzA HBW.out _⟩⟩
     case round =>
      obtain ⟨k, acc, rfl, rfl, ⟨hk⟩, ⟨hacc⟩, HP, ⟨hseq⟩, HO, HB⟩ := hrel
      by_cases hlt : k < n
      · have hkl : k < l1.length := by have := HNN.out; omega
        obtain ⟨x, hx⟩ : ∃ x, l1[k] = x := ⟨_, rfl⟩
        have hxr : rd l1 (k : Int) = x := by rw [← hx]; exact rd_nat hkl
        have hxI : I64 x := by rw [← hxr]; exact HV.out.2.rd _
        rw [List.drop_eq_getElem_cons hkl, hx] at hseq
        obtain ⟨ad', had', hcx⟩ := Kd.at_int (Kd.C_below HRN.out HB.out) (k : Int) (by omega) (by omega)
        cases had'
        simp only [Int.toNat_natCast] at hcx
        rw [hxr] at hcx
        have hcm2 := pw_cell_below HB.out HCM.out
        clear hx hxr hkl
        have HCX := ZM hcx
        have hcell0 := (Kd.R_celln 0 HO.out (k : Int) (by omega) (by omega)).1
        have HCELL := ZM hcell0
        clear hcell0
        by_cases hs : I64 (x - m)
        · have HS : Aside0 (fix_Sub.f x m = some (x - m, 0)) := ⟨by rw [fix_Sub.of x m ⟨hxI, HM.out⟩, res_of hs]⟩
          obtain ⟨p, e, hpe⟩ : ∃ p e, expF (x - m) a0 = (p, e) := ⟨_, _, rfl⟩
          have HE : Aside0 (table_Exp.f (x - m) a0 = some (p, e)) := ⟨by unfold table_Exp.f; rw [if_pos ⟨hs, HV.out.1⟩, hpe]⟩
          have hg : powF m a0 x = (p, e) := by unfold powF; rw [if_pos hs, hpe]
          by_cases he : e = 0
          · subst he
            rw [seqFrom_ok (by rw [hg]), hg] at hseq
            have hpb : 0 ≤ p ∧ p ≤ 1073741824 := by
             have c1 : x - m ≤ 0 := by
              apply Classical.byContradiction; intro hc
              unfold expF at hpe
              rw [if_pos (by omega)] at hpe
              cases hpe
             by_cases c2 : I64 (-(x - m))
             · rw [expF_of HF.out c1 c2] at hpe
               have q1 := powE_nonneg (-(x - m)) a0
               have q2 := powE_le (y := -(x - m)) (by omega) HF.out
               have q3 := pow_le30_ HF.out
               cases hpe; omega
             · rw [expF_over HF.out c1 c2] at hpe
               cases hpe
            have HSEQ := ZM hseq
            have HPB := ZM hpb
            have HACC := ZM hacc
            have hsum : wrap64 (sumI acc + p) = sumI acc + p := by
             have s0 := sumI_nn acc (fun q hq => (HP.out q hq).1)
             have s1 := sumI_ub acc 1073741824 (fun q hq => (HP.out q hq).2)
             have := HN.out
             have := HNN.out
             exact wrap64_of (by unfold I64; omega)
            have HSUM := ZM hsum
            clear hg hpe hs hseq hpb hacc hxI hk hcx
            have hcx := HCX.out
            go_wp2_with (first | (go_at_call 38; (with_reducible refine (fix_Sub.calls x m (x - m) 0 _ HS.out).mono ?_); rintro ed W3 ⟨rfl, ⟨nd1, rfl⟩⟩) | (go_at_call 39; (with_reducible refine (table_Exp.calls (x - m) a0 p 0 _ HE.out).mono ?_); rintro ed W2 ⟨rfl, hb⟩; have HO1 := ZM (Kd.R_below (show Kd.R (Kd.int .i64) 2 (wr.drewN nd1) w.heap.size (fun _ => True) (.slice (some ⟨W1.heap.size, 0, none⟩) n n) (acc ++ List.replicate (n - k) 0) from HO.out) hb); have HB1 := ZM (below_then (zzN HB.out nd1) (zzN HB.out nd1).size hb); clear hb; have hcell := (Kd.R_celln 0 HO1.out (k : Int) (by omega) (by omega)).1; have hfr := (Kd.R_celln 0 HO1.out (k : Int) (by omega) (by omega)).2; simp only [Int.toNat_natCast] at hcell hfr))
            have hkw : wrap64 ((k : Int) + 1) = ((k + 1 : Nat) : Int) := by
             have := HN.out; have := HNN.out
             rw [wrap64_of (by unfold I64; omega)]; omega
            have hp := Kd.R_putg HO1.out (k : Int) p
            have hset : (acc ++ List.replicate (n - k) 0).set (k : Int).toNat p = (acc ++ [p]) ++ List.replicate (n - (k + 1)) 0 := by
             obtain ⟨d, hd⟩ : ∃ d, n - k = d + 1 := ⟨n - k - 1, by omega⟩
             rw [hd, show n - (k + 1) = d by omega, Int.toNat_natCast, ← HACC.out, List.set_append_right _ _ (Nat.le_refl _), Nat.sub_self, List.replicate_succ]
             simp
            rw [hset] at hp
            simp only [Int.toNat_natCast] at hp
            exact ⟨⟨k + 1, acc ++ [p], by first | rfl | rw [hkw], by rw [HSUM.out, sumI_app], ⟨by omega⟩, ⟨by have := HACC.out; simp; omega⟩, ⟨fun q hq => by rcases List.mem_append.1 hq with e | e; (exact HP.out q e); (cases List.mem_singleton.1 e; exact HPB.out)⟩, HSEQ, ⟨hp.1⟩, ⟨below_set HB1.out HBW.out.size⟩⟩, by (try rw [hkw]); simp [intOf]; omega⟩
          · rw [seqFrom_bad (by rw [hg]; exact he), hg] at hseq
            have hres := HH.out
            rw [← hseq, if_pos he] at hres
            cases hres
            have he0 : (e == 0) = false := beq_eq_false_iff_ne.2 he
            have he1 : (e != 0) = true := bne_iff_ne.2 he
            clear hg hpe hs hseq hacc hxI hk hcx he HH
            have hcx := HCX.out
            go_wp2_with (first | (go_at_call 38; (with_reducible refine (fix_Sub.calls x m (x - m) 0 _ HS.out).mono ?_); rintro ed W3 ⟨rfl, ⟨nd1, rfl⟩⟩) | (go_at_call 39; (with_reducible refine (table_Exp.calls (x - m) a0 p e _ HE.out).mono ?_); rintro ed W2 ⟨rfl, hb⟩; have HO1 := ZM (Kd.R_below (show Kd.R (Kd.int .i64) 2 (wr.drewN nd1) w.heap.size (fun _ => True) (.slice (some ⟨W1.heap.size, 0, none⟩) n n) (acc ++ List.replicate (n - k) 0) from HO.out) hb); have HB1 := ZM (below_then (zzN HB.out nd1) (zzN HB.out nd1).size hb); clear hb; have hcell := (Kd.R_celln 0 HO1.out (k : Int) (by omega) (by omega)).1; have hfr := (Kd.R_celln 0 HO1.out (k : Int) (by omega) (by omega)).2; simp only [Int.toNat_natCast] at hcell hfr))
            go_ret2
            exact ⟨_, rfl, Kd.R_nil _ _ _ _ _, below_set HB1.out HBW.out.size⟩
        · have HS : Aside0 (fix_Sub.f x m = some (0, 2)) := ⟨by rw [fix_Sub.of x m ⟨hxI, HM.out⟩, res_not hs]⟩
          have hg : powF m a0 x = (0, 2) := by unfold powF; rw [if_neg hs]
          rw [seqFrom_bad (by rw [hg]; decide), hg] at hseq
          have hres := HH.out
          rw [← hseq, if_pos (by decide)] at hres
          cases hres
          clear hg hs hseq hacc hxI hk hcx HH
          have hcx := HCX.out
          go_wp2_with (go_at_call 38; (with_reducible refine (fix_Sub.calls x m 0 2 _ HS.out).mono ?_); rintro ed W3 ⟨rfl, ⟨nd1, rfl⟩⟩)
          go_ret2
          exact ⟨_, rfl, Kd.R_nil _ _ _ _ _, zzN HB.out _⟩
      · have hkn : k = n := by omega
        subst hkn
        rw [List.drop_eq_nil_of_le (by have := HNN.out; omega), seqFrom_nil] at hseq
        have hres := HH.out
        rw [← hseq] at hres
        simp only [ne_eq, not_true, if_false] at hres
        rw [← seqFrom_start] at hres
        have HRES := ZM hres
        have HACC := ZM hacc
        have HO2 := HO.out
        rw [Nat.sub_self, List.replicate_zero, List.append_nil] at HO2
        have HO3 := ZM HO2
        obtain ⟨S, hS⟩ : ∃ S, sumI acc = S := ⟨_, rfl⟩
        have hSI : I64 S := by
         have s0 := sumI_nn acc (fun q hq => (HP.out q hq).1)
         have s1 := sumI_ub acc 1073741824 (fun q hq => (HP.out q hq).2)
         have := HN.out
         have := HNN.out
         rw [hS] at s0 s1
         unfold I64; omega
        have HSI := ZM hSI
        rw [hS] at HRES
        simp only [hS]
        clear hseq hres HO2 HO hacc hk hS hSI HH HCM
        go_wp2_with fail
        go_loopw [76] (fun v W => ∃ (j : Nat) (qs : List Int), v = .int .i64 j ∧ Aside0 (j ≤ k) ∧ Aside0 (qs.length = j) ∧ Aside0 (seqFrom (fun p => divF p S a0) (acc.drop j) qs = (r1, r2)) ∧ Aside0 (Kd.R (Kd.int .i64) 2 W w.heap.size (fun _ => True) (.slice (some ⟨W1.heap.size, 0, none⟩) k k) (qs ++ acc.drop j)) ∧ Aside0 (Below w.heap.size w W)) (fun v _ => k - (intOf v).toNat)
        case atStart => exact ⟨0, [], rfl, ⟨Nat.zero_le _⟩, ⟨rfl⟩, HRES, HO3, HB⟩
        case round =>
         clear HRES HO3 HB
         obtain ⟨j, qs, rfl, ⟨hj⟩, ⟨hqs⟩, ⟨hseq⟩, HO, HB⟩ := hrel
         by_cases hlt2 : j < k
         · have hjl : j < acc.length := by have := HACC.out; omega
           obtain ⟨p, hpx⟩ : ∃ p, acc[j] = p := ⟨_, rfl⟩
           have hpI : 0 ≤ p ∧ p ≤ 1073741824 := by rw [← hpx]; exact HP.out _ (List.getElem_mem hjl)
           have hdr : acc.drop j = p :: acc.drop (j + 1) := by rw [List.drop_eq_getElem_cons hjl, hpx]
           rw [hdr] at hseq
           have HO2 := HO.out
           rw [hdr] at HO2
           have hcell0 := (Kd.R_celln 0 HO2 (j : Int) (by omega) (by omega)).1
           have hrp : rdOf 0 (qs ++ p :: acc.drop (j + 1)) (j : Int) = p := by
            simp [rdOf, List.getD_eq_getElem?_getD, ← hqs]
           rw [hrp] at hcell0
           simp only [Int.toNat_natCast] at hcell0
           have hcellr := hcell0
           have HO3 := ZM HO2
           have HQS := ZM hqs
           obtain ⟨q, e, hqe⟩ : ∃ q e, divF p S a0 = (q, e) := ⟨_, _, rfl⟩
           have HD : Aside0 (fix_Div.f p S a0 = some (q, e)) := ⟨by rw [fix_Div.of p S a0 ⟨by unfold I64; omega, HSI.out⟩, hqe]⟩
           have hdec : (q, e) = divF p S a0 := hqe.symm
           by_cases he : e = 0
           · subst he
             rw [seqFrom_ok (by rw [hqe]), hqe] at hseq
             have HSEQ := ZM hseq
             clear hseq hqe hdec hpI hdr HO2 hcell0 hrp hpx hjl hqs hj HO
             go_wp2_with (go_at_call 40; (with_reducible refine (fix_Div.calls p S a0 q 0 _ HD.out).mono ?_); rintro ed W2 ⟨rfl, hd⟩; have hb : Below wr.heap.size wr W2 := (by first | exact hd | exact hd.below); clear hd; have HO1 := ZM (Kd.R_below HO3.out hb); have HB1 := ZM (below_then HB.out HB.out.size hb); clear hb; have hcell := (Kd.R_celln 0 HO1.out (j : Int) (by omega) (by omega)).1; have hfr := (Kd.R_celln 0 HO1.out (j : Int) (by omega) (by omega)).2; simp only [Int.toNat_natCast] at hcell hfr)
             have hjw : wrap64 ((j : Int) + 1) = ((j + 1 : Nat) : Int) := by
              have := HN.out; have := HNN.out
              rw [wrap64_of (by unfold I64; omega)]; omega
             have hp := Kd.R_putg HO1.out (j : Int) q
             have hset : (qs ++ p :: acc.drop (j + 1)).set (j : Int).toNat q = (qs ++ [q]) ++ acc.drop (j + 1) := by
              rw [Int.toNat_natCast, ← HQS.out, List.set_append_right _ _ (Nat.le_refl _), Nat.sub_self]
              simp
             rw [hset] at hp
             simp only [Int.toNat_natCast] at hp
             exact ⟨⟨j + 1, qs ++ [q], by first | rfl | rw [hjw], ⟨by omega⟩, ⟨by have := HQS.out; simp; omega⟩, HSEQ, ⟨hp.1⟩, ⟨below_set HB1.out HBW.out.size⟩⟩, by (try rw [hjw]); simp [intOf]; omega⟩
           · rw [seqFrom_bad (by rw [hqe]; exact he), hqe] at hseq
             cases hseq
             have he0 : (e == 0) = false := beq_eq_false_iff_ne.2 he
             have he1 : (e != 0) = true := bne_iff_ne.2 he
             clear hqe hdec hpI hdr HO2 hcell0 hrp hpx hjl hqs hj HO he
             go_wp2_with (go_at_call 40; (with_reducible refine (fix_Div.calls p S a0 q e _ HD.out).mono ?_); rintro ed W2 ⟨rfl, hd⟩; have hb : Below wr.heap.size wr W2 := (by first | exact hd | exact hd.below); clear hd; have HO1 := ZM (Kd.R_below HO3.out hb); have HB1 := ZM (below_then HB.out HB.out.size hb); clear hb; have hcell := (Kd.R_celln 0 HO1.out (j : Int) (by omega) (by omega)).1; have hfr := (Kd.R_celln 0 HO1.out (j : Int) (by omega) (by omega)).2; simp only [Int.toNat_natCast] at hcell hfr)
             go_ret2
             exact ⟨_, rfl, Kd.R_nil _ _ _ _ _, below_set HB1.out HBW.out.size⟩
         · have hjk : j = k := by omega
           subst hjk
           rw [List.drop_eq_nil_of_le (by have := HACC.out; omega), seqFrom_nil] at hseq
           cases hseq
           have HO2 := HO.out
           rw [List.drop_eq_nil_of_le (by have := HACC.out; omega), List.append_nil] at HO2
           have HO3 := ZM HO2
           clear HO2 HO hj hqs
           go_wp2
           go_ret2
           exact ⟨_, rfl, HO3.out, HB.out⟩
 · rw [if_pos hb] at h
   cases h
   have HBE : Aside0 (table_Best.f l1 = some (0, (bestF l1).2)) := ⟨congrArg some (Prod.ext (bestF_err hb) rfl)⟩
   obtain ⟨e_, hE⟩ : ∃ e_ : Int, (bestF l1).2 = e_ := ⟨_, rfl⟩
   have he0 : (e_ == 0) = false := by rw [← hE]; exact beq_eq_false_iff_ne.2 hb
   have he1 : (e_ != 0) = true := by rw [← hE]; exact bne_iff_ne.2 hb
   rw [hE] at HBE
   simp only [hE]
   clear hE hb
   go_enter Try.func22, Try.ntmps22
   go_wp2_with (go_at_call 25; (with_reducible refine (table_Best.calls A1 c1 l1 0 e_ _ HR.out HC.out HBE.out).mono ?_); rintro ed W1 ⟨rfl, hb⟩; have HBW := ZM hb; clear hb)
   go_ret2
   exact ⟨_, rfl, Kd.R_nil _ _ _ _ _, HBW.out⟩
/-! ### soft_TellP: function 6 -/
def soft_TellP.f (a0 : Int) (l1 : List Int) (l2 : List Int) (a3 : Int) : Option (List Int × Int) := (soft_lines.f a0 l1 l2 a3).bind fun bt146 => (if bt146.2 = 0 then ((table_Soft.f a3 bt146.1).bind fun bt150 => (some (bt150.1, bt150.2))) else (some (([] : List Int), bt146.2)))
set_option maxHeartbeats 8000000 in
set_option maxRecDepth 100000 in
theorem soft_TellP.calls (a0 : Int) (A1 : Option Addr) (c1 : Nat) (l1 : List Int) (A2 : Option Addr) (c2 : Nat) (l2 : List Int) (a3 : Int) (r1 : List Int) (r2 : Int) (w : World) (hr1 : Kd.C (Kd.int .i64) w A1 l1.length l1) (hc1 : l1.length ≤ c1) (hr2 : Kd.C (Kd.int .i64) w A2 l2.length l2) (hc2 : l2.length ≤ c2) (h : soft_TellP.f a0 l1 l2 a3 = some (r1, r2)) :
  Calls Try.prog 6 #[.int .i64 a0, .slice A1 l1.length c1, .slice A2 l2.length c2, .int .i64 a3] w fun e w' => ∃ v0_ : Value, e = .returned (.tuple #[v0_, .int .i64 r2]) ∧ Kd.R (Kd.int .i64) 2 w' w.heap.size (fun _ => True) v0_ r1 ∧ Below w.heap.size w w' := by
 have HR1 := ZM hr1
 have HC1 := ZM hc1
 clear hr1 hc1
 have HR2 := ZM hr2
 have HC2 := ZM hc2
 clear hr2 hc2
 have HB := ZM (Below.refl w.heap.size w)
 have H : ((soft_lines.f a0 l1 l2 a3).bind fun bt146 => (if bt146.2 = 0 then ((table_Soft.f a3 bt146.1).bind fun bt150 => (some (bt150.1, bt150.2))) else (some (([] : List Int), bt146.2)))) = some (r1, r2) := h
 clear h
 replace H := Option.bind_eq_some_iff.mp H
 obtain ⟨⟨t146, t147⟩, A50, H⟩ := H
 replace H : (if t147 = 0 then ((table_Soft.f a3 t146).bind fun bt150 => (some (bt150.1, bt150.2))) else (some (([] : List Int), t147))) = some (r1, r2) := H
 have A5 := ZM A50
 clear A50
 by_cases c6 : t147 = 0
 case neg =>
  rw [if_neg c6] at H
  have c6b0 : (t147 == 0) = false := beq_eq_false_iff_ne.mpr c6
  have c6b1 : (t147 != 0) = true := bne_iff_ne.mpr c6
  simp only [Option.some.injEq, Prod.mk.injEq] at H
  obtain ⟨rfl, rfl⟩ := H
  go_enter Try.func6, Try.ntmps6
  go_wp2_with (first | ((with_reducible refine gate_callee (f := 21) rfl ?_); refine goesL_ (some 17) rfl rfl Try.func21 (by kernel_rfl) rfl #[.int .i64 a0, .slice A1 l1.length c1, .slice A2 l2.length c2, .int .i64 a3] rfl Z2 ?_; (with_reducible refine (soft_lines.calls a0 _ _ l1 _ _ l2 a3 t146 t147 _ ?side1 ?side2 ?side3 ?side4 A5.out).mono ?_); (case side1 => exact Z6); (case side2 => exact HC1.out); (case side3 => exact Z17); (case side4 => exact HC2.out); rintro e w11 ⟨v148, rfl, ho0, hb⟩; refine ⟨_, rfl, ?_⟩; have HO149 := ZM (Kd.R_lower ho0 (zzS Z1)); replace HB := ZM (zzT Z1 hb); (try clear hb); (try clear hb2); (try clear hk); (try clear hi); (try clear ho0)))
  go_ret2
  exact ⟨_, by first | rfl | (simp [errW_none, errW_some] <;> rfl) | (simp [*, errW_none, errW_some] <;> rfl), by first | exact Kd.R_nil _ _ _ _ _ | exact Kd.N_nil _ _ _ _ _ | exact Kd.V_nil _ _ _ _ _ | exact Kd.Q_nil _ _ _ _ _ | exact Kd.S_nil _ _ _ _ _, by repeat (first | (with_reducible first | exact HB.out | apply zzA | apply zzN | apply zzD) | exact HB.out)⟩
 rw [if_pos c6] at H
 have c6b0 : (t147 == 0) = true := beq_iff_eq.mpr c6
 have c6b1 : (t147 != 0) = false := bne_eq_false_iff_eq.mpr c6
 clear c6
 replace H := Option.bind_eq_some_iff.mp H
 obtain ⟨⟨t150, t151⟩, A70, H⟩ := H
 replace H : (some (t150, t151)) = some (r1, r2) := H
 have A7 := ZM A70
 clear A70
 simp only [Option.some.injEq, Prod.mk.injEq] at H
 obtain ⟨rfl, rfl⟩ := H
 go_enter Try.func6, Try.ntmps6
 go_wp2_with (first | ((with_reducible refine gate_callee (f := 21) rfl ?_); refine goesL_ (some 17) rfl rfl Try.func21 (by kernel_rfl) rfl #[.int .i64 a0, .slice A1 l1.length c1, .slice A2 l2.length c2, .int .i64 a3] rfl Z2 ?_; (with_reducible refine (soft_lines.calls a0 _ _ l1 _ _ l2 a3 t146 t147 _ ?side1 ?side2 ?side3 ?side4 A5.out).mono ?_); (case side1 => exact Z6); (case side2 => exact HC1.out); (case side3 => exact Z17); (case side4 => exact HC2.out); rintro e w8 ⟨v148, rfl, ho0, hb⟩; refine ⟨_, rfl, ?_⟩; have HO149 := ZM (Kd.R_lower ho0 (zzS Z1)); replace HB := ZM (zzT Z1 hb); (try clear hb); (try clear hb2); (try clear hk); (try clear hi); (try clear ho0); obtain ⟨Ao9, co9, eo9⟩ := Kd.R_slice HO149.out; subst eo9) | ((with_reducible refine gate_callee (f := 22) rfl ?_); refine goesL_ (some 25) rfl rfl Try.func22 (by kernel_rfl) rfl #[.int .i64 a3, .slice Ao9 t146.length co9] rfl Z2 ?_; (with_reducible refine (table_Soft.calls a3 _ _ t146 t150 t151 _ ?side1 ?side2 A7.out).mono ?_); (case side1 => repeat (first | exact (Kd.R_reads' HO149.out).2.2 | (with_reducible refine ccA ?_ _) | (with_reducible refine ccN ?_ _) | (with_reducible refine ccD ?_))); (case side2 => exact (Kd.R_reads' HO149.out).2.1); rintro e w10 ⟨v152, rfl, ho0, hb⟩; refine ⟨_, rfl, ?_⟩; have n0_ := ZM (Kd.R_elder' (Zr HO149) (Kd.R_base ho0) hb); have n1_ := ZM (Kd.R_lower (Kd.R_new' ho0 (Kd.R_lt (Zr HO149))) (zzS Z1)); have n2_ := ZM (zzT Z1 hb); clear HO149; clear HB; have HO149 := n0_; have HO153 := n1_; have HB := n2_; clear n0_ n1_ n2_; (try clear hb); (try clear hb2); (try clear hk); (try clear hi); (try clear ho0)))
 go_ret2
 exact ⟨_, by first | rfl | (simp [errW_none, errW_some] <;> rfl) | (simp [*, errW_none, errW_some] <;> rfl), by (with_reducible repeat (first | apply rrA | apply rrN | apply rrD)); exact Kd.R_mono HO153.out (fun _ hk => trivial), by repeat (first | (with_reducible first | exact HB.out | apply zzA | apply zzN | apply zzD) | exact HB.out)⟩
def soft_Tell.f (a0 : Int) (l1 l2 : List Int) (a3 : Int) : Option (List Int × Int) := if V64 l1 ∧ V64 l2 then some (tellS a0 l1 l2 a3) else none
theorem soft_Tell.of (a0 : Int) (l1 l2 : List Int) (a3 : Int)  (h_ : V64 l1 ∧ V64 l2) : soft_Tell.f a0 l1 l2 a3 = some (tellS a0 l1 l2 a3) := if_pos h_
theorem soft_TellP.is (a0 : Int) (l1 l2 : List Int) (a3 : Int) (h1 : V64 l1) (h2 : V64 l2) : soft_TellP.f a0 l1 l2 a3 = some (tellS a0 l1 l2 a3) := by
  unfold soft_TellP.f tellS
  rw [soft_lines.of _ _ _ _ ⟨h1, h2⟩, Option.bind_some]
  by_cases c : (linesS a0 l1 l2 a3).2 = 0
  · have hf := (linesS_ok c).2.2.1
    rw [if_pos c, if_pos c, table_Soft.of _ _ ⟨by unfold I64; omega, linesS_v64 c⟩]; rfl
  · rw [if_neg c, if_neg c]
theorem soft_Tell.calls (a0 : Int) (A1 : Option Addr) (c1 : Nat) (l1 : List Int) (A2 : Option Addr) (c2 : Nat) (l2 : List Int) (a3 : Int) (r1 : List Int) (r2 : Int) (w : World) (hr1 : Kd.C (Kd.int .i64) w A1 l1.length l1) (hc1 : l1.length ≤ c1) (hr2 : Kd.C (Kd.int .i64) w A2 l2.length l2) (hc2 : l2.length ≤ c2) (h : soft_Tell.f a0 l1 l2 a3 = some (r1, r2)) :
    Calls Try.prog 6 #[.int .i64 a0, .slice A1 l1.length c1, .slice A2 l2.length c2, .int .i64 a3] w fun e w' => ∃ v0_ : Value, e = .returned (.tuple #[v0_, .int .i64 r2]) ∧ Kd.R (Kd.int .i64) 2 w' w.heap.size (fun _ => True) v0_ r1 ∧ Below w.heap.size w w' := by
  unfold soft_Tell.f at h
  split at h
  case isFalse => cases h
  rename_i hv
  exact soft_TellP.calls a0 A1 c1 l1 A2 c2 l2 a3 r1 r2 w hr1 hc1 hr2 hc2 ((soft_TellP.is a0 l1 l2 a3 hv.1 hv.2).trans h)


/-! ### thrumref02_SameP: function 16 -/
def thrumref02_SameP.l0 : Nat → List Int → List Int → Int → Int → Option (Bool)
 | 0, _, _, _, _ => none
 | k + 1, x0, x1, x12, x13 => if x13 < x12 then (if 0 ≤ x13 then (if x13 < (x0.length : Int) then (if x13 < (x1.length : Int) then (if (rd x0 x13) = (rd x1 x13) then (thrumref02_SameP.l0 k x0 x1 x12 (wrap64 (x13 + 1))) else (some false)) else (none)) else (none)) else (none)) else (some true)
def thrumref02_SameP.f (k : Nat) (l0 : List Int) (l1 : List Int) : Option (Bool) := if (l0.length : Int) = (l1.length : Int) then (thrumref02_SameP.l0 k l0 l1 (l0.length : Int) 0) else (some false)
theorem thrumref02_SameP.mono_l : ∀ k, (∀ y0 y1 y2 y3, LeO (thrumref02_SameP.l0 k y0 y1 y2 y3) (thrumref02_SameP.l0 (k + 1) y0 y1 y2 y3))
 | 0 => fun _ _ _ _ r h => by simp [thrumref02_SameP.l0] at h
 | k + 1 => by
  have ih0 := thrumref02_SameP.mono_l k
  ·
   intro y0 y1 y2 y3
   unfold thrumref02_SameP.l0
   repeat' first
   | (with_reducible exact ih0 _ _ _ _)
   | (with_reducible exact LeO.refl _)
   | (with_reducible exact LeO.none _)
   | (with_reducible refine LeO.ite ?_ ?_)
   | (with_reducible refine LeO.bind ?_ (fun _ => ?_))
theorem thrumref02_SameP.mono : ∀ a0 a1 k, LeO (thrumref02_SameP.f k a0 a1) (thrumref02_SameP.f (k + 1) a0 a1) := by
 intro a0 a1 k
 have ih0 := thrumref02_SameP.mono_l k
 unfold thrumref02_SameP.f
 repeat' first
   | (with_reducible exact ih0 _ _ _ _)
   | (with_reducible exact LeO.refl _)
   | (with_reducible exact LeO.none _)
   | (with_reducible refine LeO.ite ?_ ?_)
   | (with_reducible refine LeO.bind ?_ (fun _ => ?_))
set_option maxHeartbeats 8000000 in
set_option maxRecDepth 100000 in
theorem thrumref02_SameP.calls (k : Nat) (A0 : Option Addr) (c0 : Nat) (l0 : List Int) (A1 : Option Addr) (c1 : Nat) (l1 : List Int) (r : Bool) (w : World) (hr0 : Kd.C (Kd.int .i64) w A0 l0.length l0) (hc0 : l0.length ≤ c0) (hr1 : Kd.C (Kd.int .i64) w A1 l1.length l1) (hc1 : l1.length ≤ c1) (h : thrumref02_SameP.f k l0 l1 = some r) :
  Calls Try.prog 16 #[.slice A0 l0.length c0, .slice A1 l1.length c1] w fun e w' => e = .returned (.bool r) ∧ Drawn0 w w' := by
 have HR0 := ZM hr0
 have HC0 := ZM hc0
 clear hr0 hc0
 have HR1 := ZM hr1
 have HC1 := ZM hc1
 clear hr1 hc1
 have H : (if (l0.length : Int) = (l1.length : Int) then (thrumref02_SameP.l0 k l0 l1 (l0.length : Int) 0) else (some false)) = some r := h
 clear h
 by_cases c3 : (l0.length : Int) = (l1.length : Int)
 case neg =>
  rw [if_neg c3] at H
  have c3b0 : ((l0.length : Int) == (l1.length : Int)) = false := beq_eq_false_iff_ne.mpr c3
  have c3b1 : ((l0.length : Int) != (l1.length : Int)) = true := bne_iff_ne.mpr c3
  have c3b2 : (l0.length == l1.length) = false := by first | simpa using c3 | (simp at c3 ⊢; omega)
  obtain rfl := Option.some.inj H
  go_enter Try.func16, Try.ntmps16
  go_wp2
  repeat (go_quiet (fail); try go_wp2)
  go_ret
  exact ⟨by first | rfl | (simp; done) | (simp [*]; done), by repeat (first | exact ddR _ | apply ddS)⟩
 rw [if_pos c3] at H
 have c3b0 : ((l0.length : Int) == (l1.length : Int)) = true := beq_iff_eq.mpr c3
 have c3b1 : ((l0.length : Int) != (l1.length : Int)) = false := bne_eq_false_iff_eq.mpr c3
 have c3b2 : (l0.length == l1.length) = true := by first | simpa using c3 | (simp at c3 ⊢; omega)
 clear c3
 have H' := ZM H
 clear H
 go_enter Try.func16, Try.ntmps16
 go_wp2
 repeat (go_quiet (fail); try go_wp2)
 go_loopg [13] k (fun kq v13 w' => ∃ (x13_1 : Int), v13 = .int .i64 x13_1 ∧ Aside0 (thrumref02_SameP.l0 kq l0 l1 (l0.length : Int) x13_1 = some r) ∧ Aside0 (kq ≤ k) ∧ Drawn0 w w')
 case atStart => exact ⟨(0), Z5, H', ⟨Nat.le_refl _⟩, by repeat (first | exact ddR _ | apply ddS)⟩
 case round =>
  clear H'
  try clear c1
  try clear c3
  try clear c3b0
  try clear c3b1
  try clear c3b2
  obtain ⟨x13_1, rfl, HA, HK1, ⟨m1, rfl⟩⟩ := hrel
  cases gk with
  | zero => exact absurd HA.out (by simp [thrumref02_SameP.l0])
  | succ k1 =>
   have H := HA.out
   clear HA
   simp only [thrumref02_SameP.l0] at H
   by_cases c4 : x13_1 < (l0.length : Int)
   case neg =>
    rw [if_neg c4] at H
    have c4b0 : decide (x13_1 < (l0.length : Int)) = false := decide_eq_false c4
    clear c4
    obtain rfl := Option.some.inj H
    go_wp2
    repeat (go_quiet (fail); try go_wp2)
    go_ret
    exact ⟨by first | rfl | (simp; done) | (simp [*]; done), by repeat (first | exact ddR _ | apply ddS)⟩
   rw [if_pos c4] at H
   have c4b0 : decide (x13_1 < (l0.length : Int)) = true := decide_eq_true c4
   clear c4
   by_cases c5 : 0 ≤ x13_1
   case neg =>
    rw [if_neg c5] at H
    exact absurd H (by simp)
   rw [if_pos c5] at H
   have c5b0 : decide (0 ≤ x13_1) = true := decide_eq_true c5
   clear c5
   by_cases c6 : x13_1 < (l0.length : Int)
   case neg =>
    rw [if_neg c6] at H
    exact absurd H (by simp)
   rw [if_pos c6] at H
   have c6b0 : decide (x13_1 < (l0.length : Int)) = true := decide_eq_true c6
   clear c6
   by_cases c7 : x13_1 < (l1.length : Int)
   case neg =>
    rw [if_neg c7] at H
    exact absurd H (by simp)
   rw [if_pos c7] at H
   have c7b0 : decide (x13_1 < (l1.length : Int)) = true := decide_eq_true c7
   clear c7
   by_cases c8 : (rd l0 x13_1) = (rd l1 x13_1)
   case neg =>
    rw [if_neg c8] at H
    have c8b0 : ((rd l0 x13_1) == (rd l1 x13_1)) = false := beq_eq_false_iff_ne.mpr c8
    have c8b1 : ((rd l0 x13_1) != (rd l1 x13_1)) = true := bne_iff_ne.mpr c8
    obtain rfl := Option.some.inj H
    have p154 : 0 ≤ (x13_1 : Int) := of_decide_eq_true Z3
    have q154 : x13_1 < (l0.length : Int) := of_decide_eq_true Z3
    obtain ⟨ad154, e154, hx154_0⟩ := Kd.at_int HR0.out x13_1 p154 q154
    cases e154
    replace p154 := eq_true p154
    replace q154 := eq_true q154
    have p155 : 0 ≤ (x13_1 : Int) := of_decide_eq_true Z3
    have q155 : x13_1 < (l1.length : Int) := of_decide_eq_true Z3
    obtain ⟨ad155, e155, hx155_0⟩ := Kd.at_int HR1.out x13_1 p155 q155
    cases e155
    replace p155 := eq_true p155
    replace q155 := eq_true q155
    go_wp2
    repeat (go_quiet (fail); try go_wp2)
    go_ret
    exact ⟨by first | rfl | (simp; done) | (simp [*]; done), by repeat (first | exact ddR _ | apply ddS)⟩
   rw [if_pos c8] at H
   have c8b0 : ((rd l0 x13_1) == (rd l1 x13_1)) = true := beq_iff_eq.mpr c8
   have c8b1 : ((rd l0 x13_1) != (rd l1 x13_1)) = false := bne_eq_false_iff_eq.mpr c8
   clear c8
   have H' := ZM H
   clear H
   have p154 : 0 ≤ (x13_1 : Int) := of_decide_eq_true Z3
   have q154 : x13_1 < (l0.length : Int) := of_decide_eq_true Z3
   obtain ⟨ad154, e154, hx154_0⟩ := Kd.at_int HR0.out x13_1 p154 q154
   cases e154
   replace p154 := eq_true p154
   replace q154 := eq_true q154
   have p155 : 0 ≤ (x13_1 : Int) := of_decide_eq_true Z3
   have q155 : x13_1 < (l1.length : Int) := of_decide_eq_true Z3
   obtain ⟨ad155, e155, hx155_0⟩ := Kd.at_int HR1.out x13_1 p155 q155
   cases e155
   replace p155 := eq_true p155
   replace q155 := eq_true q155
   go_wp2
   repeat (go_quiet (fail); try go_wp2)
   go_roundg k1
   case measure => have := HK1.out; omega
   case rel => exact ⟨(wrap64 (x13_1 + 1)), Z5, H', ⟨by have := HK1.out; omega⟩, by repeat (first | exact ddR _ | apply ddS)⟩
theorem thrumref02_SameP.loop (x0 x1 : List Int) (hl : x0.length = x1.length) (hb : x0.length ≤ 9223372036854775807) : ∀ (d i : Nat), d + i = x0.length →
    thrumref02_SameP.l0 (d + 1) x0 x1 (x0.length : Int) (i : Int) = some (decide (x0.drop i = x1.drop i)) := by
  intro d
  induction d with
  | zero =>
    intro i hd
    rw [thrumref02_SameP.l0, if_neg (by omega), List.drop_eq_nil_of_le (by omega), List.drop_eq_nil_of_le (by omega)]; simp
  | succ d ih =>
    intro i hd
    have hi : i < x0.length := by omega
    have hi1 : i < x1.length := by omega
    rw [thrumref02_SameP.l0, if_pos (by omega), if_pos (by omega), if_pos (by omega), if_pos (by omega), List.drop_eq_getElem_cons hi, List.drop_eq_getElem_cons hi1, show rd x0 (i : Int) = x0[i] from rd_nat hi, show rd x1 (i : Int) = x1[i] from rd_nat hi1]
    by_cases c : x0[i] = x1[i]
    · rw [if_pos c, wrap64_of (by unfold I64; omega), show (i : Int) + 1 = ((i + 1 : Nat) : Int) by omega, ih (i + 1) (by omega)]
      simp only [List.cons.injEq, c, true_and]
    · rw [if_neg c]; simp only [List.cons.injEq, c, false_and, decide_false]
def thrumref02_Same.f (l0 l1 : List Int) : Option Bool := some (decide (l0 = l1))
theorem thrumref02_Same.calls (A0 : Option Addr) (c0 : Nat) (l0 : List Int) (A1 : Option Addr) (c1 : Nat) (l1 : List Int) (r : Bool) (w : World) (hr0 : Kd.C (Kd.int .i64) w A0 l0.length l0) (hc0 : l0.length ≤ c0) (hr1 : Kd.C (Kd.int .i64) w A1 l1.length l1) (hc1 : l1.length ≤ c1) (h : thrumref02_Same.f l0 l1 = some r) :
    Calls Try.prog 16 #[.slice A0 l0.length c0, .slice A1 l1.length c1] w fun e w' => e = .returned (.bool r) ∧ Drawn0 w w' := by
  refine thrumref02_SameP.calls (l0.length + 1) A0 c0 l0 A1 c1 l1 r w hr0 hc0 hr1 hc1 (Eq.trans ?_ h)
  have hm := Kd.C_max hr0
  unfold thrumref02_SameP.f thrumref02_Same.f
  by_cases c : l0.length = l1.length
  · rw [if_pos (by omega)]
    exact (thrumref02_SameP.loop l0 l1 c hm l0.length 0 (by omega)).trans (by simp)
  · rw [if_neg (by omega)]
    have : l0 ≠ l1 := fun e => c (by rw [e])
    simp [this]


end Go.Proofs.Ytihgcjagokippaa.HS
