/- What Go functions do, each as a plain Lean function with the same answers, and the proof of it, in every world: printed by the session's driver over the kit's print, with texts by hand. -/
import Derived.Test.YtbnfejaeekljcaaHDx0
import Derived.Test.YtbnfejaeekljcaaHDx1
import Derived.Test.YtbnfejaeekljcaaHDx2
import Derived.Test.YtbnfejaeekljcaaHDx3
import Derived.Test.YtbnfejaeekljcaaHDx4
import Derived.Test.YtbnfejaeekljcaaHDx5
namespace Go.Proofs.Ytbnfejaeekljcaa.HD
open Go.RowKit Go.Proofs.YtbnfejaeekljcaaW.PrintWords Go.Proofs.YtbnfejaeekljcaaW.PrintLast Go.Proofs.YtbnfejaeekljcaaW.PrintMore
attribute [local go_sem] max2_int min2_int max_two min_two max_three min_three max_four min_four   -- for this text's walks alone
open Go.Proofs.Ytbnfejaeekljcaa.Sp
attribute [local go_sem] Go.Proofs.Ytbnfejaeekljcaa.Sp.u64_not
set_option linter.unusedVariables false
set_option linter.unusedSimpArgs false

/-! ### fix_DivP: function 61 -/
mutual
def fix_DivP.j0 : Nat → Int → Int → Int → Bool → Option (Int × Int)
 | 0, _, _, _, _ => none
 | k + 1, x0, x1, x2, x19 => if x19 = true then (some (0, 1)) else ((fix_size.f x0).bind fun t181 => (if 0 ≤ x2 then ((bits_Mul64.f t181 (shl .u64 1 x2)).bind fun bt182 => ((fix_size.f x1).bind fun t184 => (if bt182.1 ≥ t184 then (some (0, 2)) else ((bits_Div64.f bt182.1 bt182.2 t184).bind fun bt185 => (if ((decide (x0 < 0)) != (decide (x1 < 0))) = true then (if bt185.2 > 0 then (if bt185.1 ≥ 9223372036854775808 then (some (0, 2)) else (fix_DivP.j1 k (IntKind.u64.wrap (bt185.1 + 1)) 9223372036854775808)) else (fix_DivP.j1 k bt185.1 9223372036854775808)) else (if bt185.1 > 9223372036854775807 then (some (0, 2)) else (some (wrap64 (bt185.1), 0)))))))) else (none)))
def fix_DivP.j1 : Nat → Int → Int → Option (Int × Int)
 | 0, _, _ => none
 | k + 1, x10, x12 => if x10 > x12 then (some (0, 2)) else (some (wrap64 (IntKind.u64.wrap (-x10)), 0))
end
def fix_DivP.f (k : Nat) (a0 : Int) (a1 : Int) (a2 : Int) : Option (Int × Int) := (fix_behind.f a2).bind fun t180 => (if t180 = true then (fix_DivP.j0 k a0 a1 a2 (a1 == 0)) else (fix_DivP.j0 k a0 a1 a2 true))
theorem fix_DivP.mono_l : ∀ k, (∀ y0 y1 y2 y3, LeO (fix_DivP.j0 k y0 y1 y2 y3) (fix_DivP.j0 (k + 1) y0 y1 y2 y3)) ∧ (∀ y0 y1, LeO (fix_DivP.j1 k y0 y1) (fix_DivP.j1 (k + 1) y0 y1))
 | 0 => ⟨fun _ _ _ _ r h => by simp [fix_DivP.j0] at h, fun _ _ r h => by simp [fix_DivP.j1] at h⟩
 | k + 1 => by
  obtain ⟨ih0, ih1⟩ := fix_DivP.mono_l k
  refine ⟨?_, ?_⟩
  ·
   intro y0 y1 y2 y3
   unfold fix_DivP.j0
   repeat' first
   | (with_reducible exact ih0 _ _ _ _)
   | (with_reducible exact ih1 _ _)
   | (with_reducible exact LeO.refl _)
   | (with_reducible exact LeO.none _)
   | (with_reducible refine LeO.ite ?_ ?_)
   | (with_reducible refine LeO.bind ?_ (fun _ => ?_))
   | exact ih0 _ _ _ _
   | exact ih1 _ _
   | exact LeO.none _
   | refine LeO.ite ?_ ?_
   | refine LeO.bind ?_ (fun _ => ?_)
  ·
   intro y0 y1
   unfold fix_DivP.j1
   repeat' first
   | (with_reducible exact ih0 _ _ _ _)
   | (with_reducible exact ih1 _ _)
   | (with_reducible exact LeO.refl _)
   | (with_reducible exact LeO.none _)
   | (with_reducible refine LeO.ite ?_ ?_)
   | (with_reducible refine LeO.bind ?_ (fun _ => ?_))
   | exact ih0 _ _ _ _
   | exact ih1 _ _
   | exact LeO.none _
   | refine LeO.ite ?_ ?_
   | refine LeO.bind ?_ (fun _ => ?_)
theorem fix_DivP.mono : ∀ a0 a1 a2 k, LeO (fix_DivP.f k a0 a1 a2) (fix_DivP.f (k + 1) a0 a1 a2) := by
 intro a0 a1 a2 k
 obtain ⟨ih0, ih1⟩ := fix_DivP.mono_l k
 unfold fix_DivP.f
 repeat' first
   | (with_reducible exact ih0 _ _ _ _)
   | (with_reducible exact ih1 _ _)
   | (with_reducible exact LeO.refl _)
   | (with_reducible exact LeO.none _)
   | (with_reducible refine LeO.ite ?_ ?_)
   | (with_reducible refine LeO.bind ?_ (fun _ => ?_))
   | exact ih0 _ _ _ _
   | exact ih1 _ _
   | exact LeO.none _
   | refine LeO.ite ?_ ?_
   | refine LeO.bind ?_ (fun _ => ?_)
set_option maxHeartbeats 8000000 in
set_option maxRecDepth 100000 in
theorem fix_DivP.calls (k : Nat) (a0 : Int) (a1 : Int) (a2 : Int) (r1 : Int) (r2 : Int) (w : World) (h : fix_DivP.f k a0 a1 a2 = some (r1, r2)) :
  Calls Try.prog 61 #[.int .i64 a0, .int .i64 a1, .int .i64 a2] w fun e w' => e = .returned (.tuple #[.int .i64 r1, .int .i64 r2]) ∧ Drawn0 w w' := by
 have H : ((fix_behind.f a2).bind fun t180 => (if t180 = true then (fix_DivP.j0 k a0 a1 a2 (a1 == 0)) else (fix_DivP.j0 k a0 a1 a2 true))) = some (r1, r2) := h
 clear h
 have HC4 := Aside0.mk H
 clear H
 go_enter Try.func61, Try.ntmps61
 go_upto_region 1 with (fail)
 repeat (go_quiet (fail); go_upto_region 1 with (fail))
 go_cut [19] (fun v19 wc => ∃ (kq : Nat) (x19_3 : Bool), v19 = .bool x19_3 ∧ Aside0 (fix_DivP.j0 kq a0 a1 a2 x19_3 = some (r1, r2)) ∧ Aside0 (kq ≤ k) ∧ Drawn0 w wc)
 case first =>
  have H := HC4.out
  clear HC4
  replace H := Option.bind_eq_some_iff.mp H
  obtain ⟨t180, A50, H⟩ := H
  replace H : (if t180 = true then (fix_DivP.j0 k a0 a1 a2 (a1 == 0)) else (fix_DivP.j0 k a0 a1 a2 true)) = some (r1, r2) := H
  have A5 := Aside0.mk A50
  clear A50
  by_cases c6 : t180 = true
  ·
   subst c6
   have H1 : (fix_DivP.j0 k a0 a1 a2 (a1 == 0)) = some (r1, r2) := by rw [if_pos rfl] at H; exact H
   clear H
   have H := H1
   clear H1
   have H' := Aside0.mk H
   clear H
   go_wp2_with (first | (go_at_call 75; (with_reducible refine (fix_behind.calls a2 true _ A5.out).mono ?_); rintro e w' ⟨rfl, ⟨nd, rfl⟩⟩; (try first | exact ⟨rfl, _, wwN _ _ _⟩ | exact ⟨rfl, _, ww3 _ _ _ _⟩)))
   repeat (go_quiet (first | (go_at_call 75; (with_reducible refine (fix_behind.calls a2 true _ A5.out).mono ?_); rintro e w' ⟨rfl, ⟨nd, rfl⟩⟩; (try first | exact ⟨rfl, _, wwN _ _ _⟩ | exact ⟨rfl, _, ww3 _ _ _ _⟩))); try go_wp2_with (first | (go_at_call 75; (with_reducible refine (fix_behind.calls a2 true _ A5.out).mono ?_); rintro e w' ⟨rfl, ⟨nd, rfl⟩⟩; (try first | exact ⟨rfl, _, wwN _ _ _⟩ | exact ⟨rfl, _, ww3 _ _ _ _⟩))))
   go_meet
   case rel => exact ⟨_, ((a1 == 0)), (by first | rfl | (simp; done) | (simp [*]; done)), H', ⟨by first | omega | exact Nat.le_refl _⟩, by repeat (first | exact ddR _ | apply ddS)⟩
  ·
   replace c6 := Bool.eq_false_iff.mpr c6
   subst c6
   have H1 : (fix_DivP.j0 k a0 a1 a2 true) = some (r1, r2) := by rw [if_neg (show ¬ (false = true) by decide)] at H; exact H
   clear H
   have H := H1
   clear H1
   have H' := Aside0.mk H
   clear H
   go_wp2_with (first | (go_at_call 75; (with_reducible refine (fix_behind.calls a2 false _ A5.out).mono ?_); rintro e w' ⟨rfl, ⟨nd, rfl⟩⟩; (try first | exact ⟨rfl, _, wwN _ _ _⟩ | exact ⟨rfl, _, ww3 _ _ _ _⟩)))
   repeat (go_quiet (first | (go_at_call 75; (with_reducible refine (fix_behind.calls a2 false _ A5.out).mono ?_); rintro e w' ⟨rfl, ⟨nd, rfl⟩⟩; (try first | exact ⟨rfl, _, wwN _ _ _⟩ | exact ⟨rfl, _, ww3 _ _ _ _⟩))); try go_wp2_with (first | (go_at_call 75; (with_reducible refine (fix_behind.calls a2 false _ A5.out).mono ?_); rintro e w' ⟨rfl, ⟨nd, rfl⟩⟩; (try first | exact ⟨rfl, _, wwN _ _ _⟩ | exact ⟨rfl, _, ww3 _ _ _ _⟩))))
   go_meet
   case rel => exact ⟨_, (true), (by first | rfl | (simp; done) | (simp [*]; done)), H', ⟨by first | omega | exact Nat.le_refl _⟩, by repeat (first | exact ddR _ | apply ddS)⟩
 case rest =>
  clear HC4
  try clear p2
  try clear c6
  obtain ⟨kq, x19_3, rfl, HA, HJ3, ⟨mc3, rfl⟩⟩ := hcut
  cases kq with
  | zero => exact absurd HA.out (by simp [fix_DivP.j0])
  | succ kj3 =>
   have H := HA.out
   clear HA
   simp only [fix_DivP.j0] at H
   by_cases c7 : x19_3 = true
   ·
    subst c7
    have H1 : (some (0, 1)) = some (r1, r2) := by rw [if_pos rfl] at H; exact H
    clear H
    have H := H1
    clear H1
    simp only [Option.some.injEq, Prod.mk.injEq] at H
    obtain ⟨rfl, rfl⟩ := H
    go_wp2
    repeat (go_quiet (fail); try go_wp2)
    go_ret2
    exact ⟨by first | rfl | (simp; done) | (simp [*]; done), by repeat (first | exact ddR _ | apply ddS)⟩
   ·
    replace c7 := Bool.eq_false_iff.mpr c7
    subst c7
    have H1 : ((fix_size.f a0).bind fun t181 => (if 0 ≤ a2 then ((bits_Mul64.f t181 (shl .u64 1 a2)).bind fun bt182 => ((fix_size.f a1).bind fun t184 => (if bt182.1 ≥ t184 then (some (0, 2)) else ((bits_Div64.f bt182.1 bt182.2 t184).bind fun bt185 => (if ((decide (a0 < 0)) != (decide (a1 < 0))) = true then (if bt185.2 > 0 then (if bt185.1 ≥ 9223372036854775808 then (some (0, 2)) else (fix_DivP.j1 kj3 (IntKind.u64.wrap (bt185.1 + 1)) 9223372036854775808)) else (fix_DivP.j1 kj3 bt185.1 9223372036854775808)) else (if bt185.1 > 9223372036854775807 then (some (0, 2)) else (some (wrap64 (bt185.1), 0)))))))) else (none))) = some (r1, r2) := by rw [if_neg (show ¬ (false = true) by decide)] at H; exact H
    clear H
    have H := H1
    clear H1
    replace H := Option.bind_eq_some_iff.mp H
    obtain ⟨t181, A80, H⟩ := H
    replace H : (if 0 ≤ a2 then ((bits_Mul64.f t181 (shl .u64 1 a2)).bind fun bt182 => ((fix_size.f a1).bind fun t184 => (if bt182.1 ≥ t184 then (some (0, 2)) else ((bits_Div64.f bt182.1 bt182.2 t184).bind fun bt185 => (if ((decide (a0 < 0)) != (decide (a1 < 0))) = true then (if bt185.2 > 0 then (if bt185.1 ≥ 9223372036854775808 then (some (0, 2)) else (fix_DivP.j1 kj3 (IntKind.u64.wrap (bt185.1 + 1)) 9223372036854775808)) else (fix_DivP.j1 kj3 bt185.1 9223372036854775808)) else (if bt185.1 > 9223372036854775807 then (some (0, 2)) else (some (wrap64 (bt185.1), 0)))))))) else (none)) = some (r1, r2) := H
    have A8 := Aside0.mk A80
    clear A80
    by_cases c9 : 0 ≤ a2
    ·
     rw [if_pos c9] at H
     have c9b0 := eq_true c9
     have c9b1 : decide (0 ≤ a2) = true := decide_eq_true c9
     clear c9
     obtain ⟨ji10, hji10⟩ : ∃ j_ : Int, (shl .u64 1 a2) = j_ := ⟨_, rfl⟩
     replace H : ((bits_Mul64.f t181 (ji10)).bind fun bt182 => ((fix_size.f a1).bind fun t184 => (if bt182.1 ≥ t184 then (some (0, 2)) else ((bits_Div64.f bt182.1 bt182.2 t184).bind fun bt185 => (if ((decide (a0 < 0)) != (decide (a1 < 0))) = true then (if bt185.2 > 0 then (if bt185.1 ≥ 9223372036854775808 then (some (0, 2)) else (fix_DivP.j1 kj3 (IntKind.u64.wrap (bt185.1 + 1)) 9223372036854775808)) else (fix_DivP.j1 kj3 bt185.1 9223372036854775808)) else (if bt185.1 > 9223372036854775807 then (some (0, 2)) else (some (wrap64 (bt185.1), 0)))))))) = some (r1, r2) := by first | (rw [hji10] at H; exact H) | (simp only [hji10] at H ⊢; exact H)
     (try rw [hji10] at A8)
     have hji10_ : (IntKind.u64.wrap (1 * 2 ^ min a2.toNat 64)) = ji10 := hji10
     have hji10z : a2 ≤ 64 → (IntKind.u64.wrap (1 * 2 ^ a2.toNat)) = ji10 := shl_small hji10
     have hji10u : (IntKind.u64.wrap (2 ^ min a2.toNat 64)) = ji10 := by have h_ := hji10_; rw [Int.one_mul] at h_; exact h_
     have hji10v : a2 ≤ 64 → (IntKind.u64.wrap (2 ^ a2.toNat)) = ji10 := fun hle_ => by have h_ := hji10z hle_; rw [Int.one_mul] at h_; exact h_
     replace H := Option.bind_eq_some_iff.mp H
     obtain ⟨⟨t182, t183⟩, A110, H⟩ := H
     replace H : ((fix_size.f a1).bind fun t184 => (if t182 ≥ t184 then (some (0, 2)) else ((bits_Div64.f t182 t183 t184).bind fun bt185 => (if ((decide (a0 < 0)) != (decide (a1 < 0))) = true then (if bt185.2 > 0 then (if bt185.1 ≥ 9223372036854775808 then (some (0, 2)) else (fix_DivP.j1 kj3 (IntKind.u64.wrap (bt185.1 + 1)) 9223372036854775808)) else (fix_DivP.j1 kj3 bt185.1 9223372036854775808)) else (if bt185.1 > 9223372036854775807 then (some (0, 2)) else (some (wrap64 (bt185.1), 0))))))) = some (r1, r2) := H
     have A11 := Aside0.mk A110
     clear A110
     replace H := Option.bind_eq_some_iff.mp H
     obtain ⟨t184, A120, H⟩ := H
     replace H : (if t182 ≥ t184 then (some (0, 2)) else ((bits_Div64.f t182 t183 t184).bind fun bt185 => (if ((decide (a0 < 0)) != (decide (a1 < 0))) = true then (if bt185.2 > 0 then (if bt185.1 ≥ 9223372036854775808 then (some (0, 2)) else (fix_DivP.j1 kj3 (IntKind.u64.wrap (bt185.1 + 1)) 9223372036854775808)) else (fix_DivP.j1 kj3 bt185.1 9223372036854775808)) else (if bt185.1 > 9223372036854775807 then (some (0, 2)) else (some (wrap64 (bt185.1), 0)))))) = some (r1, r2) := H
     have A12 := Aside0.mk A120
     clear A120
     by_cases c13 : t182 ≥ t184
     ·
      rw [if_pos c13] at H
      have c13b0 : decide (t184 ≤ t182) = true := decide_eq_true c13
      clear c13
      simp only [Option.some.injEq, Prod.mk.injEq] at H
      obtain ⟨rfl, rfl⟩ := H
      go_wp2_with (first | (go_at_call 89; (with_reducible refine (fix_size.calls a0 t181 _ A8.out).mono ?_); rintro e w' ⟨rfl, ⟨nd, rfl⟩⟩; (try first | exact ⟨rfl, _, wwN _ _ _⟩ | exact ⟨rfl, _, ww3 _ _ _ _⟩)) | (go_at_call 88; (with_reducible refine (bits_Mul64.calls t181 ji10 t182 t183 _ A11.out).mono ?_); rintro e w' ⟨rfl, ⟨nd, rfl⟩⟩; (try first | exact ⟨rfl, _, wwN _ _ _⟩ | exact ⟨rfl, _, ww3 _ _ _ _⟩)) | (go_at_call 89; (with_reducible refine (fix_size.calls a1 t184 _ A12.out).mono ?_); rintro e w' ⟨rfl, ⟨nd, rfl⟩⟩; (try first | exact ⟨rfl, _, wwN _ _ _⟩ | exact ⟨rfl, _, ww3 _ _ _ _⟩)))
      repeat (go_quiet (first | (go_at_call 89; (with_reducible refine (fix_size.calls a0 t181 _ A8.out).mono ?_); rintro e w' ⟨rfl, ⟨nd, rfl⟩⟩; (try first | exact ⟨rfl, _, wwN _ _ _⟩ | exact ⟨rfl, _, ww3 _ _ _ _⟩)) | (go_at_call 88; (with_reducible refine (bits_Mul64.calls t181 ji10 t182 t183 _ A11.out).mono ?_); rintro e w' ⟨rfl, ⟨nd, rfl⟩⟩; (try first | exact ⟨rfl, _, wwN _ _ _⟩ | exact ⟨rfl, _, ww3 _ _ _ _⟩)) | (go_at_call 89; (with_reducible refine (fix_size.calls a1 t184 _ A12.out).mono ?_); rintro e w' ⟨rfl, ⟨nd, rfl⟩⟩; (try first | exact ⟨rfl, _, wwN _ _ _⟩ | exact ⟨rfl, _, ww3 _ _ _ _⟩))); try go_wp2_with (first | (go_at_call 89; (with_reducible refine (fix_size.calls a0 t181 _ A8.out).mono ?_); rintro e w' ⟨rfl, ⟨nd, rfl⟩⟩; (try first | exact ⟨rfl, _, wwN _ _ _⟩ | exact ⟨rfl, _, ww3 _ _ _ _⟩)) | (go_at_call 88; (with_reducible refine (bits_Mul64.calls t181 ji10 t182 t183 _ A11.out).mono ?_); rintro e w' ⟨rfl, ⟨nd, rfl⟩⟩; (try first | exact ⟨rfl, _, wwN _ _ _⟩ | exact ⟨rfl, _, ww3 _ _ _ _⟩)) | (go_at_call 89; (with_reducible refine (fix_size.calls a1 t184 _ A12.out).mono ?_); rintro e w' ⟨rfl, ⟨nd, rfl⟩⟩; (try first | exact ⟨rfl, _, wwN _ _ _⟩ | exact ⟨rfl, _, ww3 _ _ _ _⟩))))
      go_ret2
      exact ⟨by first | rfl | (simp; done) | (simp only [← hji10] <;> (first | rfl | simp)) | (simp [*]; done), by repeat (first | exact ddR _ | apply ddS)⟩
     ·
      rw [if_neg c13] at H
      have c13b0 : decide (t184 ≤ t182) = false := decide_eq_false c13
      clear c13
      replace H := Option.bind_eq_some_iff.mp H
      obtain ⟨⟨t185, t186⟩, A140, H⟩ := H
      replace H : (if ((decide (a0 < 0)) != (decide (a1 < 0))) = true then (if t186 > 0 then (if t185 ≥ 9223372036854775808 then (some (0, 2)) else (fix_DivP.j1 kj3 (IntKind.u64.wrap (t185 + 1)) 9223372036854775808)) else (fix_DivP.j1 kj3 t185 9223372036854775808)) else (if t185 > 9223372036854775807 then (some (0, 2)) else (some (wrap64 (t185), 0)))) = some (r1, r2) := H
      have A14 := Aside0.mk A140
      clear A140
      by_cases c15 : ((decide (a0 < 0)) != (decide (a1 < 0))) = true
      ·
       rw [if_pos c15] at H
       have c15b0 : ((decide (a0 < 0)) != (decide (a1 < 0))) = true := c15
       (try (have c15b1 : decide ((decide (a0 < 0)) = (decide (a1 < 0))) = false := by simpa using c15))
       (try (have c15b2 : ((decide (a0 < 0)) == (decide (a1 < 0))) = false := by simpa using c15))
       (try (have c15b3 : ¬ ((decide (a0 < 0)) = (decide (a1 < 0))) := by simpa using c15))
       clear c15
       have HC16 := Aside0.mk H
       clear H
       go_upto_if 48 with (first | (go_at_call 89; (with_reducible refine (fix_size.calls a0 t181 _ A8.out).mono ?_); rintro e w' ⟨rfl, ⟨nd, rfl⟩⟩; (try first | exact ⟨rfl, _, wwN _ _ _⟩ | exact ⟨rfl, _, ww3 _ _ _ _⟩)) | (go_at_call 88; (with_reducible refine (bits_Mul64.calls t181 ji10 t182 t183 _ A11.out).mono ?_); rintro e w' ⟨rfl, ⟨nd, rfl⟩⟩; (try first | exact ⟨rfl, _, wwN _ _ _⟩ | exact ⟨rfl, _, ww3 _ _ _ _⟩)) | (go_at_call 89; (with_reducible refine (fix_size.calls a1 t184 _ A12.out).mono ?_); rintro e w' ⟨rfl, ⟨nd, rfl⟩⟩; (try first | exact ⟨rfl, _, wwN _ _ _⟩ | exact ⟨rfl, _, ww3 _ _ _ _⟩)) | (go_at_call 90; (with_reducible refine (bits_Div64.calls t182 t183 t184 t185 t186 _ A14.out).mono ?_); rintro e w' ⟨rfl, ⟨nd, rfl⟩⟩; (try first | exact ⟨rfl, _, wwN _ _ _⟩ | exact ⟨rfl, _, ww3 _ _ _ _⟩)))
       repeat (go_quiet (first | (go_at_call 89; (with_reducible refine (fix_size.calls a0 t181 _ A8.out).mono ?_); rintro e w' ⟨rfl, ⟨nd, rfl⟩⟩; (try first | exact ⟨rfl, _, wwN _ _ _⟩ | exact ⟨rfl, _, ww3 _ _ _ _⟩)) | (go_at_call 88; (with_reducible refine (bits_Mul64.calls t181 ji10 t182 t183 _ A11.out).mono ?_); rintro e w' ⟨rfl, ⟨nd, rfl⟩⟩; (try first | exact ⟨rfl, _, wwN _ _ _⟩ | exact ⟨rfl, _, ww3 _ _ _ _⟩)) | (go_at_call 89; (with_reducible refine (fix_size.calls a1 t184 _ A12.out).mono ?_); rintro e w' ⟨rfl, ⟨nd, rfl⟩⟩; (try first | exact ⟨rfl, _, wwN _ _ _⟩ | exact ⟨rfl, _, ww3 _ _ _ _⟩)) | (go_at_call 90; (with_reducible refine (bits_Div64.calls t182 t183 t184 t185 t186 _ A14.out).mono ?_); rintro e w' ⟨rfl, ⟨nd, rfl⟩⟩; (try first | exact ⟨rfl, _, wwN _ _ _⟩ | exact ⟨rfl, _, ww3 _ _ _ _⟩))); go_upto_if 48 with (first | (go_at_call 89; (with_reducible refine (fix_size.calls a0 t181 _ A8.out).mono ?_); rintro e w' ⟨rfl, ⟨nd, rfl⟩⟩; (try first | exact ⟨rfl, _, wwN _ _ _⟩ | exact ⟨rfl, _, ww3 _ _ _ _⟩)) | (go_at_call 88; (with_reducible refine (bits_Mul64.calls t181 ji10 t182 t183 _ A11.out).mono ?_); rintro e w' ⟨rfl, ⟨nd, rfl⟩⟩; (try first | exact ⟨rfl, _, wwN _ _ _⟩ | exact ⟨rfl, _, ww3 _ _ _ _⟩)) | (go_at_call 89; (with_reducible refine (fix_size.calls a1 t184 _ A12.out).mono ?_); rintro e w' ⟨rfl, ⟨nd, rfl⟩⟩; (try first | exact ⟨rfl, _, wwN _ _ _⟩ | exact ⟨rfl, _, ww3 _ _ _ _⟩)) | (go_at_call 90; (with_reducible refine (bits_Div64.calls t182 t183 t184 t185 t186 _ A14.out).mono ?_); rintro e w' ⟨rfl, ⟨nd, rfl⟩⟩; (try first | exact ⟨rfl, _, wwN _ _ _⟩ | exact ⟨rfl, _, ww3 _ _ _ _⟩))))
       (try simp only [Act.put, List.setIfInBounds_toArray, List.set_cons_zero, List.set_cons_succ])
       go_cut [10] (fun v10 wc => ∃ (kq : Nat) (x10_15 : Int), v10 = .int .u64 x10_15 ∧ Aside0 (fix_DivP.j1 kq x10_15 9223372036854775808 = some (r1, r2)) ∧ Aside0 (kq ≤ kj3) ∧ Drawn0 w wc)
       case first =>
        have H := HC16.out
        clear HC16
        by_cases c17 : t186 > 0
        ·
         rw [if_pos c17] at H
         have c17b0 : decide (0 < t186) = true := decide_eq_true c17
         clear c17
         (first | rw [c17b0] | (simp only [i64_w, i32_w]; rw [c17b0]) | skip)
         by_cases c18 : t185 ≥ 9223372036854775808
         ·
          rw [if_pos c18] at H
          have c18b0 : decide (9223372036854775808 ≤ t185) = true := decide_eq_true c18
          clear c18
          simp only [Option.some.injEq, Prod.mk.injEq] at H
          obtain ⟨rfl, rfl⟩ := H
          go_wp2
          repeat (go_quiet (fail); try go_wp2)
          go_ret2
          exact ⟨by first | rfl | (simp; done) | (simp only [← hji10] <;> (first | rfl | simp)) | (simp [*]; done), by repeat (first | exact ddR _ | apply ddS)⟩
         ·
          rw [if_neg c18] at H
          have c18b0 : decide (9223372036854775808 ≤ t185) = false := decide_eq_false c18
          clear c18
          have H' := Aside0.mk H
          clear H
          go_wp2
          repeat (go_quiet (fail); try go_wp2)
          go_meet
          case rel => exact ⟨_, (IntKind.u64.wrap (t185 + 1)), (by first | rfl | (simp; done) | (simp [*]; done)), H', ⟨by have := HJ3.out; first | omega | exact Nat.le_refl _⟩, by repeat (first | exact ddR _ | apply ddS)⟩
        ·
         rw [if_neg c17] at H
         have c17b0 : decide (0 < t186) = false := decide_eq_false c17
         clear c17
         (first | rw [c17b0] | (simp only [i64_w, i32_w]; rw [c17b0]) | skip)
         have H' := Aside0.mk H
         clear H
         go_wp2
         repeat (go_quiet (fail); try go_wp2)
         go_meet
         case rel => exact ⟨_, (t185), (by first | rfl | (simp; done) | (simp [*]; done)), H', ⟨by have := HJ3.out; first | omega | exact Nat.le_refl _⟩, by repeat (first | exact ddR _ | apply ddS)⟩
       case rest =>
        clear HC16
        try clear c1
        try clear p2
        try clear c3
        try clear c6
        try clear p6
        try clear c7
        try clear c9
        try clear c9b0
        try clear c9b1
        try clear c13
        try clear c13b0
        try clear c15
        try clear c15b0
        try clear c15b1
        try clear c15b2
        try clear c17
        try clear c17b0
        try clear c18
        try clear c18b0
        try clear p2
        obtain ⟨kq, x10_15, rfl, HA, HJ15, ⟨mc15, rfl⟩⟩ := hcut
        cases kq with
        | zero => exact absurd HA.out (by simp [fix_DivP.j1])
        | succ kj15 =>
         have H := HA.out
         clear HA
         simp only [fix_DivP.j1] at H
         by_cases c19 : x10_15 > 9223372036854775808
         ·
          rw [if_pos c19] at H
          have c19b0 : decide (9223372036854775808 < x10_15) = true := decide_eq_true c19
          clear c19
          simp only [Option.some.injEq, Prod.mk.injEq] at H
          obtain ⟨rfl, rfl⟩ := H
          go_wp2
          repeat (go_quiet (fail); try go_wp2)
          go_ret2
          exact ⟨by first | rfl | (simp; done) | (simp only [← hji10] <;> (first | rfl | simp)) | (simp [*]; done), by repeat (first | exact ddR _ | apply ddS)⟩
         ·
          rw [if_neg c19] at H
          have c19b0 : decide (9223372036854775808 < x10_15) = false := decide_eq_false c19
          clear c19
          simp only [Option.some.injEq, Prod.mk.injEq] at H
          obtain ⟨rfl, rfl⟩ := H
          go_wp2
          repeat (go_quiet (fail); try go_wp2)
          go_ret2
          exact ⟨by first | rfl | (simp; done) | (simp only [← hji10] <;> (first | rfl | simp)) | (simp [*]; done), by repeat (first | exact ddR _ | apply ddS)⟩
      ·
       rw [if_neg c15] at H
       have c15b0 : ((decide (a0 < 0)) != (decide (a1 < 0))) = false := by simpa using c15
       (try (have c15b1 : decide ((decide (a0 < 0)) = (decide (a1 < 0))) = true := by simpa using c15))
       (try (have c15b2 : ((decide (a0 < 0)) == (decide (a1 < 0))) = true := by simpa using c15))
       clear c15
       by_cases c20 : t185 > 9223372036854775807
       ·
        rw [if_pos c20] at H
        have c20b0 : decide (9223372036854775807 < t185) = true := decide_eq_true c20
        clear c20
        simp only [Option.some.injEq, Prod.mk.injEq] at H
        obtain ⟨rfl, rfl⟩ := H
        go_wp2_with (first | (go_at_call 89; (with_reducible refine (fix_size.calls a0 t181 _ A8.out).mono ?_); rintro e w' ⟨rfl, ⟨nd, rfl⟩⟩; (try first | exact ⟨rfl, _, wwN _ _ _⟩ | exact ⟨rfl, _, ww3 _ _ _ _⟩)) | (go_at_call 88; (with_reducible refine (bits_Mul64.calls t181 ji10 t182 t183 _ A11.out).mono ?_); rintro e w' ⟨rfl, ⟨nd, rfl⟩⟩; (try first | exact ⟨rfl, _, wwN _ _ _⟩ | exact ⟨rfl, _, ww3 _ _ _ _⟩)) | (go_at_call 89; (with_reducible refine (fix_size.calls a1 t184 _ A12.out).mono ?_); rintro e w' ⟨rfl, ⟨nd, rfl⟩⟩; (try first | exact ⟨rfl, _, wwN _ _ _⟩ | exact ⟨rfl, _, ww3 _ _ _ _⟩)) | (go_at_call 90; (with_reducible refine (bits_Div64.calls t182 t183 t184 t185 t186 _ A14.out).mono ?_); rintro e w' ⟨rfl, ⟨nd, rfl⟩⟩; (try first | exact ⟨rfl, _, wwN _ _ _⟩ | exact ⟨rfl, _, ww3 _ _ _ _⟩)))
        repeat (go_quiet (first | (go_at_call 89; (with_reducible refine (fix_size.calls a0 t181 _ A8.out).mono ?_); rintro e w' ⟨rfl, ⟨nd, rfl⟩⟩; (try first | exact ⟨rfl, _, wwN _ _ _⟩ | exact ⟨rfl, _, ww3 _ _ _ _⟩)) | (go_at_call 88; (with_reducible refine (bits_Mul64.calls t181 ji10 t182 t183 _ A11.out).mono ?_); rintro e w' ⟨rfl, ⟨nd, rfl⟩⟩; (try first | exact ⟨rfl, _, wwN _ _ _⟩ | exact ⟨rfl, _, ww3 _ _ _ _⟩)) | (go_at_call 89; (with_reducible refine (fix_size.calls a1 t184 _ A12.out).mono ?_); rintro e w' ⟨rfl, ⟨nd, rfl⟩⟩; (try first | exact ⟨rfl, _, wwN _ _ _⟩ | exact ⟨rfl, _, ww3 _ _ _ _⟩)) | (go_at_call 90; (with_reducible refine (bits_Div64.calls t182 t183 t184 t185 t186 _ A14.out).mono ?_); rintro e w' ⟨rfl, ⟨nd, rfl⟩⟩; (try first | exact ⟨rfl, _, wwN _ _ _⟩ | exact ⟨rfl, _, ww3 _ _ _ _⟩))); try go_wp2_with (first | (go_at_call 89; (with_reducible refine (fix_size.calls a0 t181 _ A8.out).mono ?_); rintro e w' ⟨rfl, ⟨nd, rfl⟩⟩; (try first | exact ⟨rfl, _, wwN _ _ _⟩ | exact ⟨rfl, _, ww3 _ _ _ _⟩)) | (go_at_call 88; (with_reducible refine (bits_Mul64.calls t181 ji10 t182 t183 _ A11.out).mono ?_); rintro e w' ⟨rfl, ⟨nd, rfl⟩⟩; (try first | exact ⟨rfl, _, wwN _ _ _⟩ | exact ⟨rfl, _, ww3 _ _ _ _⟩)) | (go_at_call 89; (with_reducible refine (fix_size.calls a1 t184 _ A12.out).mono ?_); rintro e w' ⟨rfl, ⟨nd, rfl⟩⟩; (try first | exact ⟨rfl, _, wwN _ _ _⟩ | exact ⟨rfl, _, ww3 _ _ _ _⟩)) | (go_at_call 90; (with_reducible refine (bits_Div64.calls t182 t183 t184 t185 t186 _ A14.out).mono ?_); rintro e w' ⟨rfl, ⟨nd, rfl⟩⟩; (try first | exact ⟨rfl, _, wwN _ _ _⟩ | exact ⟨rfl, _, ww3 _ _ _ _⟩))))
        go_ret2
        exact ⟨by first | rfl | (simp; done) | (simp only [← hji10] <;> (first | rfl | simp)) | (simp [*]; done), by repeat (first | exact ddR _ | apply ddS)⟩
       ·
        rw [if_neg c20] at H
        have c20b0 : decide (9223372036854775807 < t185) = false := decide_eq_false c20
        clear c20
        simp only [Option.some.injEq, Prod.mk.injEq] at H
        obtain ⟨rfl, rfl⟩ := H
        go_wp2_with (first | (go_at_call 89; (with_reducible refine (fix_size.calls a0 t181 _ A8.out).mono ?_); rintro e w' ⟨rfl, ⟨nd, rfl⟩⟩; (try first | exact ⟨rfl, _, wwN _ _ _⟩ | exact ⟨rfl, _, ww3 _ _ _ _⟩)) | (go_at_call 88; (with_reducible refine (bits_Mul64.calls t181 ji10 t182 t183 _ A11.out).mono ?_); rintro e w' ⟨rfl, ⟨nd, rfl⟩⟩; (try first | exact ⟨rfl, _, wwN _ _ _⟩ | exact ⟨rfl, _, ww3 _ _ _ _⟩)) | (go_at_call 89; (with_reducible refine (fix_size.calls a1 t184 _ A12.out).mono ?_); rintro e w' ⟨rfl, ⟨nd, rfl⟩⟩; (try first | exact ⟨rfl, _, wwN _ _ _⟩ | exact ⟨rfl, _, ww3 _ _ _ _⟩)) | (go_at_call 90; (with_reducible refine (bits_Div64.calls t182 t183 t184 t185 t186 _ A14.out).mono ?_); rintro e w' ⟨rfl, ⟨nd, rfl⟩⟩; (try first | exact ⟨rfl, _, wwN _ _ _⟩ | exact ⟨rfl, _, ww3 _ _ _ _⟩)))
        repeat (go_quiet (first | (go_at_call 89; (with_reducible refine (fix_size.calls a0 t181 _ A8.out).mono ?_); rintro e w' ⟨rfl, ⟨nd, rfl⟩⟩; (try first | exact ⟨rfl, _, wwN _ _ _⟩ | exact ⟨rfl, _, ww3 _ _ _ _⟩)) | (go_at_call 88; (with_reducible refine (bits_Mul64.calls t181 ji10 t182 t183 _ A11.out).mono ?_); rintro e w' ⟨rfl, ⟨nd, rfl⟩⟩; (try first | exact ⟨rfl, _, wwN _ _ _⟩ | exact ⟨rfl, _, ww3 _ _ _ _⟩)) | (go_at_call 89; (with_reducible refine (fix_size.calls a1 t184 _ A12.out).mono ?_); rintro e w' ⟨rfl, ⟨nd, rfl⟩⟩; (try first | exact ⟨rfl, _, wwN _ _ _⟩ | exact ⟨rfl, _, ww3 _ _ _ _⟩)) | (go_at_call 90; (with_reducible refine (bits_Div64.calls t182 t183 t184 t185 t186 _ A14.out).mono ?_); rintro e w' ⟨rfl, ⟨nd, rfl⟩⟩; (try first | exact ⟨rfl, _, wwN _ _ _⟩ | exact ⟨rfl, _, ww3 _ _ _ _⟩))); try go_wp2_with (first | (go_at_call 89; (with_reducible refine (fix_size.calls a0 t181 _ A8.out).mono ?_); rintro e w' ⟨rfl, ⟨nd, rfl⟩⟩; (try first | exact ⟨rfl, _, wwN _ _ _⟩ | exact ⟨rfl, _, ww3 _ _ _ _⟩)) | (go_at_call 88; (with_reducible refine (bits_Mul64.calls t181 ji10 t182 t183 _ A11.out).mono ?_); rintro e w' ⟨rfl, ⟨nd, rfl⟩⟩; (try first | exact ⟨rfl, _, wwN _ _ _⟩ | exact ⟨rfl, _, ww3 _ _ _ _⟩)) | (go_at_call 89; (with_reducible refine (fix_size.calls a1 t184 _ A12.out).mono ?_); rintro e w' ⟨rfl, ⟨nd, rfl⟩⟩; (try first | exact ⟨rfl, _, wwN _ _ _⟩ | exact ⟨rfl, _, ww3 _ _ _ _⟩)) | (go_at_call 90; (with_reducible refine (bits_Div64.calls t182 t183 t184 t185 t186 _ A14.out).mono ?_); rintro e w' ⟨rfl, ⟨nd, rfl⟩⟩; (try first | exact ⟨rfl, _, wwN _ _ _⟩ | exact ⟨rfl, _, ww3 _ _ _ _⟩))))
        go_ret2
        exact ⟨by first | rfl | (simp; done) | (simp only [← hji10] <;> (first | rfl | simp)) | (simp [*]; done), by repeat (first | exact ddR _ | apply ddS)⟩
    ·
     rw [if_neg c9] at H
     exact absurd H (by simp)

def fix_Div.f (a0 a1 a2 : Int) : Option (Int × Int) := if I64 a0 ∧ I64 a1 then some (divF a0 a1 a2) else none
theorem fix_Div.of (a0 a1 a2 : Int)  (h_ : I64 a0 ∧ I64 a1) : fix_Div.f a0 a1 a2 = some (divF a0 a1 a2) := if_pos h_
theorem fix_DivP.spec {a0 a1 a2 : Int} (h0 : I64 a0) (h1 : I64 a1) : fix_DivP.f 3 a0 a1 a2 = some (divF a0 a1 a2) := by
  unfold fix_DivP.f fix_behind.f divF
  simp only [Option.bind_some]
  by_cases c : a2 < 0 ∨ a2 > 30 ∨ a1 = 0
  · rw [if_pos c]
    by_cases c2 : 0 ≤ a2 ∧ a2 ≤ 30
    · rw [if_pos (by simpa using c2), show (3 : Nat) = 2 + 1 from rfl, fix_DivP.j0, if_pos (by simp; omega)]
    · rw [if_neg (by simpa using c2), show (3 : Nat) = 2 + 1 from rfl, fix_DivP.j0, if_pos rfl]
  · rw [if_neg c, if_pos (by simp; omega), show (3 : Nat) = 2 + 1 from rfl, fix_DivP.j0, if_neg (by simp; omega)]
    unfold fix_size.f
    rw [if_pos h0, if_pos h1]
    simp only [Option.bind_some]
    rw [if_pos (by omega)]
    have hp : (0 : Int) < 2 ^ a2.toNat := Int.pow_pos (by omega)
    have hp30 : (2 : Int) ^ a2.toNat ≤ 1073741824 := by
      have : (2 : Nat) ^ a2.toNat ≤ 2 ^ 30 := Nat.pow_le_pow_right (by omega) (by omega)
      have e : ((2 ^ a2.toNat : Nat) : Int) = (2 : Int) ^ a2.toNat := by simp
      omega
    have hs : shl .u64 1 a2 = 2 ^ a2.toNat := by
      unfold shl; rw [show min a2.toNat IntKind.u64.bits = a2.toNat from by show min a2.toNat 64 = _; omega, wu]; omega
    rw [hs]
    obtain ⟨P, hP⟩ : ∃ P : Int, P = 2 ^ a2.toNat := ⟨_, rfl⟩
    rw [← hP] at hp hp30 ⊢
    unfold I64 at h0 h1
    unfold bits_Mul64.f
    rw [if_pos ⟨by unfold U64; omega, by unfold U64; omega⟩]
    simp only [Option.bind_some]
    obtain ⟨X, hX⟩ : ∃ X : Int, X = (a0.natAbs : Int) * P := ⟨_, rfl⟩
    rw [← hX]
    have hX0 : 0 ≤ X := by rw [hX]; exact Int.mul_nonneg (by omega) (by omega)
    have haX : a0 * P = if a0 < 0 then -X else X := by
      split
      · rw [hX, show (a0.natAbs : Int) = -a0 by omega]; grind
      · rw [hX, show (a0.natAbs : Int) = a0 by omega]
    have hb : 0 < (a1.natAbs : Int) := by omega
    obtain ⟨b, hb'⟩ : ∃ b : Int, b = (a1.natAbs : Int) := ⟨_, rfl⟩
    rw [← hb'] at hb ⊢
    have hq : divQ (a0 * P) a1 = if (a0 < 0) = (a1 < 0) then X / b else (-X) / b := by
      unfold divQ
      rw [haX]
      by_cases ca : a0 < 0 <;> by_cases cb : a1 < 0 <;> simp only [ca, cb, if_true, if_false]
      · rw [if_neg (by omega), show -a1 = b by omega]; simp
      · rw [if_pos (by omega), show a1 = b by omega]; try simp
      · rw [if_neg (by omega), show -a1 = b by omega]; try simp
      · rw [if_pos (by omega), show a1 = b by omega]; try simp
    rw [hq]
    have hdm := Int.emod_add_mul_ediv X b
    have hm0 := Int.emod_nonneg X (show b ≠ 0 by omega)
    have hm1 := Int.emod_lt_of_pos X hb
    have hneg := neg_div X hb
    have hqn := Int.ediv_nonneg hX0 (Int.le_of_lt hb)
    by_cases co : X / 18446744073709551616 ≥ b
    · rw [if_pos co]
      have hbig : 18446744073709551616 ≤ X / b := by
        rw [Int.le_ediv_iff_mul_le hb]; omega
      rw [res_not (by unfold I64; rw [hneg]; split <;> (try split) <;> omega)]
    · rw [if_neg co]
      unfold bits_Div64.f
      have hXb : X / 18446744073709551616 * 18446744073709551616 + X % 18446744073709551616 = X := by omega
      rw [if_pos ⟨by unfold U64; omega, by unfold U64; omega, by unfold U64; omega, by omega⟩, hXb]
      simp only [Option.bind_some]
      generalize X / b = q at *
      generalize X % b = l at *
      by_cases cs : (a0 < 0) = (a1 < 0)
      · rw [if_neg (by simp [cs]), if_pos cs]
        by_cases ci : q > 9223372036854775807
        · rw [if_pos ci, res_not (by unfold I64; omega)]
        · rw [if_neg ci, res_of (by unfold I64; omega), wrap64_of (by unfold I64; omega)]
      · rw [if_pos (by simpa using cs), if_neg cs, hneg]
        by_cases cl : l > 0
        · rw [if_pos cl, if_pos cl]
          by_cases ci : q ≥ 9223372036854775808
          · rw [if_pos ci, res_not (by unfold I64; omega)]
          · rw [if_neg ci, show (2 : Nat) = 1 + 1 from rfl, fix_DivP.j1, res_of (by unfold I64; omega)]
            simp only [wu, wrap64_def]
            rw [if_neg (by omega)]
            simp only [Option.some.injEq, Prod.mk.injEq, and_true]; omega
        · rw [if_neg cl, if_neg cl, show (2 : Nat) = 1 + 1 from rfl, fix_DivP.j1]
          by_cases ci : q > 9223372036854775808
          · rw [if_pos ci, res_not (by unfold I64; omega)]
          · rw [if_neg ci, res_of (by unfold I64; omega)]
            simp only [wu, wrap64_def, Option.some.injEq, Prod.mk.injEq, and_true]; omega
theorem fix_Div.calls (a0 : Int) (a1 : Int) (a2 : Int) (r1 : Int) (r2 : Int) (w : World) (h : fix_Div.f a0 a1 a2 = some (r1, r2)) :
    Calls Try.prog 61 #[.int .i64 a0, .int .i64 a1, .int .i64 a2] w fun e w' => e = .returned (.tuple #[.int .i64 r1, .int .i64 r2]) ∧ Drawn0 w w' := by
  unfold fix_Div.f at h
  split at h
  · rename_i hu
    exact fix_DivP.calls 3 a0 a1 a2 r1 r2 w ((fix_DivP.spec hu.1 hu.2).trans h)
  · cases h


/-! ### fix_QuotP: function 55 -/
def fix_QuotP.f (a0 : Int) (a1 : Int) : Option (Int × Int) := (fix_Div.f a0 a1 0).bind fun bt187 => (some (bt187.1, bt187.2))
set_option maxHeartbeats 8000000 in
set_option maxRecDepth 100000 in
theorem fix_QuotP.calls (a0 : Int) (a1 : Int) (r1 : Int) (r2 : Int) (w : World) (h : fix_QuotP.f a0 a1 = some (r1, r2)) :
  Calls Try.prog 55 #[.int .i64 a0, .int .i64 a1] w fun e w' => e = .returned (.tuple #[.int .i64 r1, .int .i64 r2]) ∧ Drawn0 w w' := by
 have H : ((fix_Div.f a0 a1 0).bind fun bt187 => (some (bt187.1, bt187.2))) = some (r1, r2) := h
 clear h
 replace H := Option.bind_eq_some_iff.mp H
 obtain ⟨⟨t187, t188⟩, A30, H⟩ := H
 replace H : (some (t187, t188)) = some (r1, r2) := H
 have A3 := Aside0.mk A30
 clear A30
 simp only [Option.some.injEq, Prod.mk.injEq] at H
 obtain ⟨rfl, rfl⟩ := H
 go_enter Try.func55, Try.ntmps55
 go_wp2_with (first | ((with_reducible refine gate_callee (f := 61) rfl ?_); refine goesL_ (some 8) rfl rfl Try.func61 (by kernel_rfl) rfl #[.int .i64 a0, .int .i64 a1, .int .i64 0] rfl (by (try simp only [List.map_toArray, List.map_cons, List.map_nil]); first | done | rfl | (simp only [List.length_drop, List.length_take]; rfl)) ?_; (with_reducible refine (fix_Div.calls a0 a1 0 t187 t188 _ A3.out).mono ?_); rintro e w' ⟨rfl, ⟨nd, rfl⟩⟩; refine ⟨_, rfl, ?_⟩))
 go_ret2
 exact ⟨by first | rfl | (simp; done) | (simp [*]; done), by repeat (first | exact ddR _ | apply ddS)⟩

def fix_Quot.f (a0 a1 : Int) : Option (Int × Int) := if I64 a0 ∧ I64 a1 then some (divF a0 a1 0) else none
theorem fix_Quot.of (a0 a1 : Int)  (h_ : I64 a0 ∧ I64 a1) : fix_Quot.f a0 a1 = some (divF a0 a1 0) := if_pos h_
theorem fix_Quot.calls (a0 : Int) (a1 : Int) (r1 : Int) (r2 : Int) (w : World) (h : fix_Quot.f a0 a1 = some (r1, r2)) :
    Calls Try.prog 55 #[.int .i64 a0, .int .i64 a1] w fun e w' => e = .returned (.tuple #[.int .i64 r1, .int .i64 r2]) ∧ Drawn0 w w' := by
  unfold fix_Quot.f at h
  split at h
  · rename_i hu
    refine fix_QuotP.calls a0 a1 r1 r2 w (Eq.trans ?_ h)
    unfold fix_QuotP.f fix_Div.f
    rw [if_pos hu]; simp
  · cases h


/-! ### linear_Mean: function 32 -/
def linear_Mean.f (a0 : Int) (l1 : List (List Int)) : Option (List Int × Int) := if I64 a0 ∧ (∀ v ∈ l1, V64 v) ∧ fewV l1 = true then some (meanL a0 l1) else none
theorem linear_Mean.of (a0 : Int) (l1 : List (List Int)) (h : I64 a0 ∧ (∀ v ∈ l1, V64 v) ∧ fewV l1 = true) : linear_Mean.f a0 l1 = some (meanL a0 l1) := if_pos h
set_option maxHeartbeats 4000000 in
set_option maxRecDepth 100000 in
theorem linear_Mean.calls (a0 : Int) (A1 : Option Addr) (c1 : Nat) (l1 : List (List Int)) (r1 : List Int) (r2 : Int) (w : World) (hr1 : Kd.C (Kd.slice 2 (Kd.int .i64)) w A1 l1.length l1) (hc1 : l1.length ≤ c1) (h : linear_Mean.f a0 l1 = some (r1, r2)) :
    Calls Try.prog 32 #[.int .i64 a0, .slice A1 l1.length c1] w fun e w' => ∃ v0_ : Value, e = .returned (.tuple #[v0_, .int .i64 r2]) ∧ Kd.R (Kd.int .i64) 2 w' w.heap.size (fun _ => True) v0_ r1 ∧ Below w.heap.size w w' := by
  unfold linear_Mean.f at h
  split at h
  case isFalse => cases h
  rename_i hv
  have h := Option.some.inj h
  have HV := Aside0.mk hv
  clear hv
  unfold meanL at h
  have HR1 := Aside0.mk hr1
  have HC1 := Aside0.mk hc1
  clear hr1 hc1
  by_cases c : a0 < 1
  · rw [if_pos c] at h
    cases h
    have cb : decide (a0 < 1) = true := decide_eq_true c
    clear c
    go_enter Try.func32, Try.ntmps32
    go_wp2
    go_ret2
    exact ⟨_, rfl, Kd.R_nil _ _ _ _ _, by repeat (first | exact Below.refl _ _ | apply zzN)⟩
  · rw [if_neg c] at h
    have cb : decide (a0 < 1) = false := decide_eq_false c
    clear c
    obtain ⟨⟨t, e⟩, ht⟩ : ∃ p, sumsV l1 = p := ⟨_, rfl⟩
    have hlen := sumsV_lle l1
    have hv64 := sumsV_v64 l1 HV.out.2.1
    rw [ht] at h hlen hv64
    simp only [] at h hlen hv64
    have HL := Aside0.mk hlen
    have HT := Aside0.mk hv64
    have A4 : Aside0 (vec_Sum.f l1 = some (t, e)) := ⟨(show vec_Sum.f l1 = some (sumsV l1) from if_pos HV.out.2).trans (congrArg some ht)⟩
    clear hlen hv64 ht
    by_cases he : e = 0
    · rw [if_pos he] at h
      subst he
      rw [← seqFrom_start] at h
      have HG := Aside0.mk h
      clear h
      go_enter Try.func32, Try.ntmps32
      go_wp2_with (go_at_call 54; (with_reducible refine (vec_Sum.calls A1 c1 l1 t 0 _ HR1.out HC1.out A4.out).mono ?_); rintro ed W1 ⟨v_, rfl, hR, hb⟩; have HO := Aside0.mk (Kd.R_lower hR (Nat.le_refl _)); have HB := Aside0.mk hb; clear hR hb; obtain ⟨Ao, co, eo⟩ := Kd.R_slice HO.out; subst eo)
      go_loopw [22] (fun i W => ∃ (k : Nat) (acc : List Int), i = .int .i64 k ∧ Aside0 (k ≤ t.length) ∧ Aside0 (acc.length = k) ∧ Aside0 (seqFrom (fun x => divF x a0 0) (t.drop k) acc = (r1, r2)) ∧ Aside0 (Kd.R (Kd.int .i64) 2 W w.heap.size (fun _ => True) (.slice Ao t.length co) (acc ++ t.drop k)) ∧ Aside0 (Below w.heap.size w W)) (fun i _ => t.length - (intOf i).toNat)
      case atStart => exact ⟨0, [], rfl, ⟨Nat.zero_le _⟩, ⟨rfl⟩, ⟨by rw [List.drop_zero]; exact HG.out⟩, ⟨by rw [List.drop_zero, List.nil_append]; exact HO.out⟩, HB⟩
      case round =>
        obtain ⟨k, acc, rfl, ⟨hk⟩, ⟨hacc⟩, ⟨hgo⟩, HO, HB⟩ := hrel
        clear HG
        by_cases hlt : k < t.length
        · obtain ⟨g, hg⟩ : ∃ g, Ao = some ⟨g, 0, none⟩ := by
            have hx := HO.out
            obtain ⟨g, cap, he, _⟩ := Kd.R_form hx (by rw [List.length_append, List.length_drop]; omega)
            injection he with h1 _ _
            exact ⟨g, h1⟩
          subst hg
          have hrd : rd (acc ++ t.drop k) (k : Int) = rd t k := by
            rw [rd_nat hlt, rd_nat (by rw [List.length_append, List.length_drop]; omega), List.getElem_append_right (by omega)]
            simp [hacc]
          have hcell := (Kd.R_celln 0 HO.out (k : Int) (by omega) (by omega)).1
          have hfr := (Kd.R_celln 0 HO.out (k : Int) (by omega) (by omega)).2
          rw [show rdOf 0 (acc ++ t.drop k) (k : Int) = rd t k from hrd] at hcell
          simp only [Int.toNat_natCast] at hcell hfr
          rw [List.drop_eq_getElem_cons hlt] at hgo
          obtain ⟨⟨q, f⟩, hq⟩ : ∃ p, divF (rd t k) a0 0 = p := ⟨_, rfl⟩
          have HA : Aside0 (fix_Quot.f (rd t k) a0 = some (q, f)) := ⟨(fix_Quot.of _ _ ⟨HT.out.rd _, HV.out.1⟩).trans (congrArg some hq)⟩
          have e1 : t[k] = rd t k := (rd_nat hlt).symm
          have hset : (acc ++ t.drop k).set k q = (acc ++ [q]) ++ t.drop (k + 1) := by
            rw [List.set_append_right _ _ (by omega), hacc, Nat.sub_self, List.drop_eq_getElem_cons hlt, List.set_cons_zero]
            simp
          have HS := Aside0.mk hset
          have HKL := Aside0.mk hacc
          have HLT := Aside0.mk hlt
          clear hset hrd hacc hk
          by_cases hf : f = 0
          · rw [seqFrom_ok (g := fun x => divF x a0 0) (by rw [e1, hq]; exact hf), e1, hq] at hgo
            subst hf
            have HG := Aside0.mk hgo
            clear hgo hq e1
            go_wp2_with (go_at_call 55; (with_reducible refine (fix_Quot.calls (rd t k) a0 q 0 _ HA.out).mono ?_); rintro ed W2 ⟨rfl, ⟨nd, rfl⟩⟩)
            have hp := (Kd.R_putg (rrN HO.out nd) (k : Int) q).1
            simp only [Int.toNat_natCast] at hp
            rw [HS.out] at hp
            have hL := HL.out
            exact ⟨⟨k + 1, acc ++ [q], by rw [wrap64_of (show I64 ((k : Int) + 1) by unfold I64; omega)]; rfl, ⟨HLT.out⟩, ⟨by have := HKL.out; simp; omega⟩, HG, ⟨hp⟩, ⟨(zzN HB.out _).setCell (by obtain ⟨_, _, he, hb, _⟩ := Kd.R_form HO.out (by have := HKL.out; have := HLT.out; rw [List.length_append, List.length_drop]; omega); injection he with h1 _ _; injection h1 with h1; injection h1 with h1 _ _; show w.heap.size ≤ g; rw [h1]; exact hb) _⟩⟩, by rw [wrap64_of (show I64 ((k : Int) + 1) by unfold I64; omega)]; simp [intOf]; omega⟩
          · rw [seqFrom_bad (g := fun x => divF x a0 0) (by rw [e1, hq]; exact hf), e1, hq] at hgo
            obtain ⟨h1, h2⟩ : [] = r1 ∧ f = r2 := by cases hgo; exact ⟨rfl, rfl⟩
            clear hgo
            subst h1
            subst h2
            have he0 : (f == 0) = false := beq_eq_false_iff_ne.2 hf
            have he1 : (f != 0) = true := bne_iff_ne.2 hf
            clear hf hq e1
            go_wp2_with (go_at_call 55; (with_reducible refine (fix_Quot.calls (rd t k) a0 q f _ HA.out).mono ?_); rintro ed W2 ⟨rfl, ⟨nd, rfl⟩⟩)
            go_ret2
            exact ⟨_, rfl, Kd.R_nil _ _ _ _ _, (zzN HB.out _).setCell (by obtain ⟨_, _, he, hb, _⟩ := Kd.R_form HO.out (by have := HKL.out; have := HLT.out; rw [List.length_append, List.length_drop]; omega); injection he with h1 _ _; injection h1 with h1; injection h1 with h1 _ _; show w.heap.size ≤ g; rw [h1]; exact hb) _⟩
        · have hkn : k = t.length := by omega
          rw [hkn, List.drop_length, seqFrom_nil] at hgo
          cases hgo
          have HO2 := HO.out
          rw [hkn, List.drop_length, List.append_nil] at HO2
          have HO3 := Aside0.mk HO2
          subst hkn
          clear HO2 HO hk
          go_wp2
          go_ret2
          exact ⟨_, rfl, HO3.out, HB.out⟩
    · rw [if_neg he] at h
      obtain ⟨h1, h2⟩ : r1 = [] ∧ r2 = e := by cases h; exact ⟨rfl, rfl⟩
      rw [h1, h2]
      clear h h1 h2
      have he0 : (e == 0) = false := beq_eq_false_iff_ne.2 he
      have he1 : (e != 0) = true := bne_iff_ne.2 he
      clear he
      go_enter Try.func32, Try.ntmps32
      go_wp2_with (go_at_call 54; (with_reducible refine (vec_Sum.calls A1 c1 l1 t e _ HR1.out HC1.out A4.out).mono ?_); rintro ed W1 ⟨v_, rfl, hR, hb⟩; have HO := Aside0.mk (Kd.R_lower hR (Nat.le_refl _)); have HB := Aside0.mk hb; clear hR hb; obtain ⟨Ao, co, eo⟩ := Kd.R_slice HO.out; subst eo)
      go_ret2
      exact ⟨_, rfl, Kd.R_nil _ _ _ _ _, HB.out⟩


/-! ### linear_Grad: function 15 -/
set_option maxHeartbeats 4000000 in
set_option maxRecDepth 100000 in
theorem linear_Grad_1.calls (n0 b1 b2 : Nat) (A0 : Option Addr) (c0 : Nat) (x : List Int) (y off a1 : Int) (W : World) (v : Value) (xs : List (List Int))
    (hb1 : W.heap[b1]? = some (.cells #[.int .i64 a1] 3 (0, 0))) (hb2 : W.heap[b2]? = some (.cells #[v] 63 (0, 0))) (hne : b1 ≠ b2) (h2 : n0 ≤ b2) (hn : n0 ≤ W.heap.size)
    (hS : Kd.S (Kd.slice 2 (Kd.int .i64)) 26 W n0 (fun _ => True) v xs) (hr : Kd.C (Kd.int .i64) W A0 x.length x) (hc : x.length ≤ c0) (hv : V64 x ∧ I64 off) (hl : xs.length ≤ 64) :
    Calls Try.prog 30 #[.agg #[.slice A0 x.length c0, .int .i64 y], .int .i64 off, .pointer (some ⟨b1, 0, none⟩), .pointer (some ⟨b2, 0, none⟩)] W fun ed W' => ed = .returned (.int .i64 (scaleV x off a1).2) ∧ Below n0 W W' ∧
      ∃ v', W'.heap[b1]? = some (.cells #[.int .i64 a1] 3 (0, 0)) ∧ W'.heap[b2]? = some (.cells #[v'] 63 (0, 0)) ∧ Kd.S (Kd.slice 2 (Kd.int .i64)) 26 W' n0 (fun _ => True) v' (xs ++ [(scaleV x off a1).1 ++ [off]]) := by
  have hu := Try.underlying37
  obtain ⟨⟨t, e⟩, ht⟩ : ∃ p, scaleV x off a1 = p := ⟨_, rfl⟩
  have hlt := scaleV_lle x off a1
  rw [ht] at hlt ⊢
  simp only [] at hlt ⊢
  have A4 : Aside0 (vec_Scale.f x off a1 = some (t, e)) := ⟨(vec_Scale.of _ _ _ hv).trans (congrArg some ht)⟩
  have LT := Aside0.mk hlt
  have LX := Aside0.mk hl
  have HR := Aside0.mk hr
  have HC := Aside0.mk hc
  have BK1 := Aside0.mk hb1
  have BK2 := Aside0.mk hb2
  have HNE := Aside0.mk hne
  have H2 := Aside0.mk h2
  have HN := Aside0.mk hn
  have HS := Aside0.mk hS
  have HB := Aside0.mk (Below.refl n0 W)
  have HBW0 := Aside0.mk (Below.refl W.heap.size W)
  obtain ⟨row, hrow⟩ : ∃ y_ : List Int, y_ = t ++ [off] := ⟨_, rfl⟩
  rw [← hrow]
  have NY := Aside0.mk hrow
  clear hrow
  clear hlt hl hr hc hb1 hb2 hne h2 hn hS hv ht
  go_enter Try.func30, Try.ntmps30
  go_wp2_with (first | ((with_reducible refine gate_dst (N := 4) rfl ?_); refine box_event ?hg (N := 4) ?hd (cs := #[.slice A0 x.length c0, .int .i64 y]) (t := 37) ?hr ?_; (case hd => rfl); (case hg => rfl); (case hr => first | (go_simp; done) | (go_simp; rfl)); intro gb hg w1 hbox hb; have n0 := Aside0.mk (below_then HB.out (Nat.le_trans HN.out HB.out.size) hb); have n1 := Aside0.mk (Kd.S_below HS.out hb); have n2 := Aside0.mk (blk_below BK1.out hb); have n3 := Aside0.mk (blk_below BK2.out hb); have BK := Aside0.mk hbox; have HBW := Aside0.mk (below_then HBW0.out (Nat.le_refl _) hb); clear HB HS BK1 BK2 hb hbox hg; have HB := n0; have HS := n1; have BK1 := n2; have BK2 := n3; clear n0 n1 n2 n3; have hx0 : w1.cell? ⟨gb, 0, none⟩ = some (.slice A0 x.length c0) := (blk_cell BK.out 0).trans rfl; have hx1 : w1.cell? ⟨gb, 1, none⟩ = some (.int .i64 y) := (blk_cell BK.out 1).trans rfl; have hx2 : w1.cell? ⟨b1, 0, none⟩ = some (.int .i64 a1) := (blk_cell BK1.out 0).trans rfl) | (go_at_call 31; (with_reducible refine (vec_Scale.calls A0 c0 x off a1 t e _ (Kd.C_below HR.out HBW.out) HC.out A4.out).mono ?_); rintro ed W2 ⟨v_, rfl, hR, hb⟩; have n4 := Aside0.mk (Kd.R_lower hR (Nat.le_trans HN.out HB.out.size)); have n0 := Aside0.mk (below_then HB.out (Nat.le_trans HN.out HB.out.size) hb); have n1 := Aside0.mk (Kd.S_elder' HS.out (Kd.R_base hR) hb); have n2 := Aside0.mk (blk_below BK1.out hb); have n3 := Aside0.mk (blk_below BK2.out hb); clear HB HS BK1 BK2 hb hR; have HO := n4; clear n4; have HB := n0; have HS := n1; have BK1 := n2; have BK2 := n3; clear n0 n1 n2 n3; have hx3 : W2.cell? ⟨b2, 0, none⟩ = some v := (blk_cell BK2.out 0).trans rfl; have hf3 := blk_frozen BK2.out 0))
  have n0 := Aside0.mk (below_drew HB.out)
  have n1 := Aside0.mk (Kd.S_drew HS.out)
  have n2 := Aside0.mk (kkD BK1.out)
  have n3 := Aside0.mk (kkD BK2.out)
  have nO := Aside0.mk (rrD HO.out)
  refine start_ (n := 8) (S := fun w' => w'.cell? ⟨b2, 0, none⟩ = some v) (ds := [7]) #[false, false, false, false, false, false, false, false] (by kernel_rfl) rfl rfl ((blk_cell (kkD BK2.out) 0).trans rfl) (fun hHeld => ?_)
  clear HB HS HO BK1 BK2
  have HB := n0
  have HS := n1
  have BK1 := n2
  have BK2 := n3
  have HO := nO
  clear nO n0 n1 n2 n3
  generalize W2.drew = wd at HB HS HO BK1 BK2 hHeld ⊢
  refine pure_ (i := 1) (N := some 18) (v := ?_) (a' := ?_) #[false, true, false, false, false, false, false, false] rfl rfl (by kernel_rfl) (fun _ _ _ h => h) (Or.inl ⟨by rfl, ?_⟩) ?_ ?_
  rotate_left
  · intro w'
    go_simp
    with_reducible rfl
  rotate_left
  · simp only [Act.put, List.setIfInBounds_toArray, List.set_cons_zero, List.set_cons_succ, i64_w, i32_w]
    rfl
  refine pure_ (i := 2) (N := some 19) (v := ?_) (a' := ?_) #[false, true, true, false, false, false, false, false] rfl rfl (by kernel_rfl) (fun _ _ _ h => h) (Or.inl ⟨by rfl, ?_⟩) ?_ ?_
  rotate_left
  · intro w'
    go_simp
    with_reducible rfl
  rotate_left
  · simp only [Act.put, List.setIfInBounds_toArray, List.set_cons_zero, List.set_cons_succ, i64_w, i32_w]
    rfl
  refine take_ (i := 0) (N := some 17) (v := ?_) (a' := ?_) #[true, true, true, false, false, false, false, false] rfl rfl (by kernel_rfl) (fun _ _ _ h => h) (Or.inl ⟨by rfl, ?_⟩) hHeld ?_ ?_
  rotate_left
  · intro w' s0
    go_simp
    with_reducible rfl
  rotate_left
  · simp only [Act.put, List.setIfInBounds_toArray, List.set_cons_zero, List.set_cons_succ, i64_w, i32_w]
    rfl
  refine one_ (i := 3) (N := some 20) #[true, true, true, true, false, false, false, false] rfl rfl (by kernel_rfl) (by decide) (fun K hK => ?_)
  refine value_ (w1 := ?_) (v := ?_) (by rfl) rfl ?_ ?_
  rotate_left 2
  · go_simp
    constructor
    · rfl
    · rfl
  refine hK.out _ _ ((World.cell?_alloc_lt _ _ _ (World.block_lt_of_cell? _ _ (hHeld))).trans (hHeld)) (fun hHeld => ?_)
  clear hK K
  refine norm_ (a' := ?_) ?_ ?_
  rotate_left
  · show Act.put _ (some 20) _ = _
    simp only [Act.put, List.setIfInBounds_toArray, List.set_cons_zero, List.set_cons_succ, i64_w, i32_w]
    rfl
  refine one_ (i := 4) (N := some 21) #[true, true, true, true, true, false, false, false] rfl rfl (by kernel_rfl) (by decide) (fun K hK => ?_)
  refine Kd.R_append_step (Kd.int .i64) (w0 := W) n0 (by rfl) (.tmp 18) (.tmp 20) 26 2 (.int .i64 0) 8 rfl Try.underlying26 info2 rfl (by decide) (by omega) v_ t off [.int .i64 off] (fun _ => True) (fun _ => False) rfl rfl ?aP (fun _ hk => hk.elim) ?aF ?aO ?aB ?aS ?aL ?_
  (case aP => exact rfl)
  (case aB => exact HB.out)
  (case aF => exact (fun _ _ => trivial))
  (case aO => exact HO.out)
  (case aS => exact Nat.le_trans HN.out HB.out.size)
  (case aL => have := LT.out; omega)
  intro v2 w3 ho hb hg hat
  rw [← NY.out] at ho
  have n0 := Aside0.mk hb
  have n1 := Aside0.mk (Kd.S_after (ok := (fun _ => True)) HS.out hg hat)
  have n2 := Aside0.mk (blk_grown BK1.out hg (Kd.R_ne HO.out BK1.out (by decide)))
  have n3 := Aside0.mk (blk_grown BK2.out hg (Kd.R_ne HO.out BK2.out (by decide)))
  clear HB HS BK1 BK2 HO
  have HB := n0
  have HS := n1
  have BK1 := n2
  have BK2 := n3
  clear n0 n1 n2 n3
  have HO := Aside0.mk ho
  clear ho hb hg hat
  obtain ⟨Ao, co, eo⟩ := Kd.R_slice HO.out
  subst eo
  refine hK.out _ _ ((blk_cell BK2.out 0).trans rfl) (fun hHeld => ?_)
  clear hK K
  refine norm_ (a' := ?_) ?_ ?_
  rotate_left
  · show Act.put _ (some 21) _ = _
    simp only [Act.put, List.setIfInBounds_toArray, List.set_cons_zero, List.set_cons_succ, i64_w, i32_w]
    rfl
  refine one_ (i := 5) (N := some 22) #[true, true, true, true, true, true, false, false] rfl rfl (by kernel_rfl) (by decide) (fun K hK => ?_)
  refine value_ (w1 := ?_) (v := ?_) (by rfl) rfl ?_ ?_
  rotate_left 2
  · go_simp
    constructor
    · rfl
    · rfl
  refine hK.out _ _ ((World.cell?_alloc_lt _ _ _ (World.block_lt_of_cell? _ _ (hHeld))).trans (hHeld)) (fun hHeld => ?_)
  clear hK K
  refine norm_ (a' := ?_) ?_ ?_
  rotate_left
  · show Act.put _ (some 22) _ = _
    simp only [Act.put, List.setIfInBounds_toArray, List.set_cons_zero, List.set_cons_succ, i64_w, i32_w]
    rfl
  refine one_ (i := 6) (N := some 23) #[true, true, true, true, true, true, true, false] rfl rfl (by kernel_rfl) (by decide) (fun K hK => ?_)
  refine Kd.S_append_step (Kd.slice 2 (Kd.int .i64)) (w0 := W) n0 (by rfl) (.tmp 17) (.tmp 22) 63 26 (.slice none 0 0) 24 rfl Try.underlying63 info26 rfl (by decide) (by omega) v xs row [.slice Ao row.length co] (fun _ => True) (fun k_ => some k_ = (.slice Ao row.length co : Value).ownBlock) rfl rfl ?aP (fun k_ hk_ => ((Kd.R_mono (ok' := fun k_ => ((fun _ => True)) k_ ∧ some k_ ≠ (v : Value).ownBlock) (Kd.R_apart' (HO.out) (Kd.S_typed HS.out) (by decide)) (fun k_ hk => ⟨trivial, hk.2⟩))).1 k_ hk_.symm) ?aF ?aO ?aB ?aS ?aL ?_
  (case aP => exact Kd.M_row (Kd.R_mono (Kd.R_tight rfl (Kd.R_mono (ok' := fun k_ => ((fun _ => True)) k_ ∧ some k_ ≠ (v : Value).ownBlock) (Kd.R_apart' (HO.out) (Kd.S_typed HS.out) (by decide)) (fun k_ hk => ⟨trivial, hk.2⟩))) (fun _ h_ => h_)))
  (case aB => exact HB.out)
  (case aF => exact (fun _ _ => trivial))
  (case aO => exact Kd.S_mono HS.out (fun k_ hk => ⟨trivial, fun e_ => hk.2 e_⟩))
  (case aS => exact Nat.le_trans HN.out HB.out.size)
  (case aL => have := LX.out; omega)
  intro v3 w4 ho hb hg hat
  have n0 := Aside0.mk hb
  have n1 := Aside0.mk ho
  have n2 := Aside0.mk (blk_grown BK1.out hg (Kd.S_ne HS.out BK1.out (by decide)))
  have n3 := Aside0.mk (blk_grown BK2.out hg (Kd.S_ne HS.out BK2.out (by decide)))
  clear HB HS BK1 BK2 HO
  have HB := n0
  have HS := n1
  have BK1 := n2
  have BK2 := n3
  clear n0 n1 n2 n3
  clear ho hb hg hat
  obtain ⟨As, cs, es⟩ := Kd.S_slice HS.out
  obtain ⟨nS, hnS⟩ : ∃ n_ : Nat, n_ = (xs ++ [row]).length := ⟨_, rfl⟩
  rw [← hnS] at es
  subst es
  clear hnS
  have hc4 : w4.cell? ⟨b2, 0, none⟩ = some v := (blk_cell BK2.out 0).trans rfl
  have hf4 : w4.frozen? ⟨b2, 0, none⟩ = false := blk_frozen BK2.out 0
  refine hK.out _ _ ((blk_cell BK2.out 0).trans rfl) (fun hHeld => ?_)
  clear hK K
  refine norm_ (a' := ?_) ?_ ?_
  rotate_left
  · show Act.put _ (some 23) _ = _
    simp only [Act.put, List.setIfInBounds_toArray, List.set_cons_zero, List.set_cons_succ, i64_w, i32_w]
    rfl
  refine last_ (i := 7) (N := none) #[true, true, true, true, true, true, true, true] rfl rfl (by kernel_rfl) (by decide) (fun K hK => ?_)
  refine skip_ (w1 := ?_) (by rfl) rfl ?_ ?_
  rotate_left
  · go_simp
    rfl
  refine hK.out _ _ ?_
  clear hK K
  refine done_ (by kernel_rfl) ?_
  go_wp2
  go_ret
  refine ⟨rfl, HB.out.setCell H2.out _, _, (Below.heap_setCell _ ⟨b2, 0, none⟩ _ b1 HNE.out).trans BK1.out, blk_put BK2.out 0 _ rfl, Kd.S_mono (Kd.S_far (p := ⟨b2, 0, none⟩) (Kd.S_types HS.out BK2.out (by decide)) (fun _ hk => hk.2) _) (fun _ h => h.1)⟩
def gradStp (f : Int) (s : List (List Int)) (x : S37) (o : Int) : List (List Int) × Int := (s ++ [(scaleV x.f0 o f).1 ++ [o]], (scaleV x.f0 o f).2)
def gradI (n0 b1 b2 : Nat) (f : Int) (k : Nat) (W : World) (s : List (List Int)) : Prop :=
  s.length = k ∧ n0 ≤ W.heap.size ∧ ∃ v, W.heap[b1]? = some (.cells #[.int .i64 f] 3 (0, 0)) ∧ W.heap[b2]? = some (.cells #[v] 63 (0, 0)) ∧ Kd.S (Kd.slice 2 (Kd.int .i64)) 26 W n0 (fun _ => True) v s
theorem gradI.keep {n0 b1 b2 : Nat} {f : Int} (k : Nat) (W W' : World) (s : List (List Int)) (h : gradI n0 b1 b2 f k W s) (hb : Below W.heap.size W W') : gradI n0 b1 b2 f k W' s := by
  obtain ⟨h1, h2, v, h3, h4, h5⟩ := h
  exact ⟨h1, Nat.le_trans h2 hb.size, v, blk_below h3 hb, blk_below h4 hb, Kd.S_below h5 hb⟩
theorem walk_rows (w : List Int) (f : Int) : ∀ (l : List S37) (acc : List (List Int)),
    (walkGo (fun x : S37 => offL w x.f0 x.f1 f) (gradStp f) l acc).2 = (rowsFrom (fun s : S37 => bendL w f (sm s)) l acc).2 ∧ ((rowsFrom (fun s : S37 => bendL w f (sm s)) l acc).2 = 0 → (walkGo (fun x : S37 => offL w x.f0 x.f1 f) (gradStp f) l acc).1 = (rowsFrom (fun s : S37 => bendL w f (sm s)) l acc).1)
  | [], acc => by rw [rowsFrom_nil]; exact ⟨rfl, fun _ => rfl⟩
  | x :: l, acc => by
    have hbd : bendL w f (sm x) = if (offL w x.f0 x.f1 f).2 = 0 then (if (scaleV x.f0 (offL w x.f0 x.f1 f).1 f).2 = 0 then ((scaleV x.f0 (offL w x.f0 x.f1 f).1 f).1 ++ [(offL w x.f0 x.f1 f).1], 0) else ([], (scaleV x.f0 (offL w x.f0 x.f1 f).1 f).2)) else ([], (offL w x.f0 x.f1 f).2) := rfl
    simp only [walkGo]
    by_cases c : (offL w x.f0 x.f1 f).2 = 0
    · rw [if_pos c] at hbd
      rw [if_pos c]
      have hst : (gradStp f acc x (offL w x.f0 x.f1 f).1).2 = (scaleV x.f0 (offL w x.f0 x.f1 f).1 f).2 := rfl
      by_cases c2 : (scaleV x.f0 (offL w x.f0 x.f1 f).1 f).2 = 0
      · rw [if_pos c2] at hbd
        rw [if_pos (hst.trans c2), rowsFrom_ok (g := fun s : S37 => bendL w f (sm s)) (by simp only [hbd])]
        simp only [hbd]
        exact walk_rows w f l _
      · rw [if_neg c2] at hbd
        rw [if_neg (fun h => c2 (hst.symm.trans h)), rowsFrom_bad (g := fun s : S37 => bendL w f (sm s)) (by simp only [hbd]; exact c2)]
        simp only [hbd]
        exact ⟨rfl, fun h => absurd h c2⟩
    · rw [if_neg c] at hbd
      rw [if_neg c, rowsFrom_bad (g := fun s : S37 => bendL w f (sm s)) (by simp only [hbd]; exact c)]
      simp only [hbd]
      exact ⟨trivial, fun h => absurd h c⟩
theorem rowsG_sm (w : List Int) (f : Int) : ∀ l : List S37, rowsL (bendL w f) (l.map sm) = rowsL (fun s => bendL w f (sm s)) l
  | [] => rfl
  | x :: l => by simp only [List.map_cons, rowsL, rowsG_sm w f l]
theorem gradL_walk (w : List Int) (f : Int) (l : List S37) : gradL w f (l.map sm) = if (walkF w f l (gradStp f) []).2 = 0 then meanL l.length (walkF w f l (gradStp f) []).1 else ([], (walkF w f l (gradStp f) []).2) := by
  unfold gradL walkF
  by_cases c : checkL (wrap64 ((w.length : Int) - 1)) w (l.map sm) = 0
  · rw [if_pos c, if_pos c, List.length_map, rowsG_sm]
    obtain ⟨h1, h2⟩ := walk_rows w f l []
    rw [rowsFrom_start] at h1 h2
    simp only [] at h1 h2
    rw [h1]
    by_cases d : (rowsL (fun s : S37 => bendL w f (sm s)) l).2 = 0
    · rw [if_pos d, if_pos d, h2 d]
    · rw [if_neg d, if_neg d]
  · rw [if_neg c, if_neg c, if_neg c]
theorem rowsL_few {α : Type} {g : α → List Int × Int} (hg : ∀ x, V64 (g x).1 ∧ (g x).1.length ≤ 5000) : ∀ l : List α, (∀ v ∈ (rowsL g l).1, V64 v) ∧ fewV (rowsL g l).1 = true
  | [] => ⟨fun v hv => by simp [rowsL] at hv, rfl⟩
  | x :: l => by
    obtain ⟨h1, h2⟩ := rowsL_few hg l
    simp only [rowsL]
    split
    · split
      · refine ⟨fun v hv => ?_, ?_⟩
        · rcases List.mem_cons.1 hv with e | e
          · rw [e]; exact (hg x).1
          · exact h1 v e
        · simp only [fewV, List.all_cons, Bool.and_eq_true, decide_eq_true_eq] at h2 ⊢; exact ⟨(hg x).2, h2⟩
      · exact ⟨fun v hv => (by cases hv), rfl⟩
    · exact ⟨fun v hv => (by cases hv), rfl⟩
theorem bendL_lle (w : List Int) (f : Int) (s : List Int × Int) : (bendL w f s).1.length ≤ 5000 := by
  unfold bendL
  split
  · split
    · have := scaleV_lle s.1 (offL w s.1 s.2 f).1 f; simp; omega
    · simp
  · simp
theorem walkF_few (w : List Int) (f : Int) (l : List S37) (h : (walkF w f l (gradStp f) []).2 = 0) : (∀ v ∈ (walkF w f l (gradStp f) []).1, V64 v) ∧ fewV (walkF w f l (gradStp f) []).1 = true ∧ l.length ≤ 64 := by
  unfold walkF at h ⊢
  by_cases c : checkL (wrap64 ((w.length : Int) - 1)) w (l.map sm) = 0
  · rw [if_pos c] at h ⊢
    have hl := (checkL_len c).2.2.2.2.2
    rw [List.length_map] at hl
    obtain ⟨h1, h2⟩ := walk_rows w f l []
    rw [rowsFrom_start] at h1 h2
    simp only [] at h1 h2
    rw [h1] at h
    rw [h2 h]
    obtain ⟨k1, k2⟩ := rowsL_few (g := fun s : S37 => bendL w f (sm s)) (fun x => ⟨bendL_v64 _ _ _, bendL_lle _ _ _⟩) l
    exact ⟨k1, k2, hl⟩
  · rw [if_neg c] at h; exact absurd h c
def linear_Grad.f (l0 : List Int) (a1 : Int) (l2 : List S37) : Option (List Int × Int) := if V64 l0 ∧ ∀ s ∈ l2, Sm64 s then some (gradL l0 a1 (l2.map sm)) else none
theorem linear_Grad.of (l0 : List Int) (a1 : Int) (l2 : List S37)  (h_ : V64 l0 ∧ ∀ s ∈ l2, Sm64 s) : linear_Grad.f l0 a1 l2 = some (gradL l0 a1 (l2.map sm)) := if_pos h_
set_option maxHeartbeats 4000000 in
set_option maxRecDepth 100000 in
theorem linear_Grad.calls (A0 : Option Addr) (c0 : Nat) (l0 : List Int) (a1 : Int) (A2 : Option Addr) (c2 : Nat) (l2 : List (S37)) (r1 : List Int) (r2 : Int) (w : World) (hr0 : Kd.C (Kd.int .i64) w A0 l0.length l0) (hc0 : l0.length ≤ c0) (hr2 : Kd.C k37 w A2 l2.length l2) (hc2 : l2.length ≤ c2) (h : linear_Grad.f l0 a1 l2 = some (r1, r2)) :
    Calls Try.prog 15 #[.slice A0 l0.length c0, .int .i64 a1, .slice A2 l2.length c2] w fun e w' => ∃ v0_ : Value, e = .returned (.tuple #[v0_, .int .i64 r2]) ∧ Kd.R (Kd.int .i64) 2 w' w.heap.size (fun _ => True) v0_ r1 ∧ Below w.heap.size w w' := by
  unfold linear_Grad.f at h
  split at h
  case isFalse => cases h
  rename_i hv
  have h := Option.some.inj h
  rw [gradL_walk] at h
  obtain ⟨⟨sf, ef⟩, hw⟩ : ∃ p, walkF l0 a1 l2 (gradStp a1) [] = p := ⟨_, rfl⟩
  have hfew := walkF_few l0 a1 l2
  rw [hw] at h hfew
  simp only [] at h hfew
  have HF := Aside0.mk hfew
  have HW := Aside0.mk hw
  have HR0 := Aside0.mk hr0
  have HC0 := Aside0.mk hc0
  have HR2 := Aside0.mk hr2
  have HC2 := Aside0.mk hc2
  have HV := Aside0.mk hv
  have HB := Aside0.mk (Below.refl w.heap.size w)
  have HG := Aside0.mk h
  have hu := Try.underlying63
  have hu3 := Try.underlying3
  clear hfew hw hr0 hc0 hr2 hc2 hv h
  by_cases hef : ef = 0
  · subst hef
    have hG := HG.out
    rw [if_pos rfl] at hG
    have AM : Aside0 (linear_Mean.f (l2.length : Int) sf = some (r1, r2)) := ⟨(linear_Mean.of _ _ ⟨by have := (HF.out rfl).2.2; unfold I64; omega, (HF.out rfl).1, (HF.out rfl).2.1⟩).trans (congrArg some hG)⟩
    clear hG HG HF
    go_enter Try.func15, Try.ntmps15
    go_wp2_with (first | ((with_reducible refine gate_dst (N := 4) rfl ?_); refine box_event ?hg (N := 4) ?hd (cs := #[.int .i64 a1]) (t := 3) ?hr ?_; (case hd => rfl); (case hg => rfl); (case hr => first | (go_simp; done) | (go_simp; rfl)); intro b1 hg w1 hbox hb; have n0 := Aside0.mk (below_then HB.out (Nat.le_refl _) hb); have BK1 := Aside0.mk hbox; have G1 : Aside0 (w.heap.size ≤ b1) := ⟨by rw [hg]; exact Nat.le_refl _⟩; have L1 := Aside0.mk (blk_lt hbox); clear HB hbox hb hg; have HB := n0; clear n0; have hz1 : w1.cell? ⟨b1, 0, none⟩ = some (.int .i64 a1) := (blk_cell BK1.out 0).trans rfl) | ((with_reducible refine gate_dst (N := 8) rfl ?_); refine box_event ?hg (N := 8) ?hd (cs := #[.slice none 0 0]) (t := 63) ?hr ?_; (case hd => rfl); (case hg => rfl); (case hr => first | (go_simp; done) | (go_simp; rfl)); intro b2 hg w2 hbox hb; have n0 := Aside0.mk (below_then HB.out HB.out.size hb); have BK2 := Aside0.mk hbox; have n1 := Aside0.mk (blk_below BK1.out hb); have G2 : Aside0 (w.heap.size ≤ b2) := ⟨by rw [hg]; exact HB.out.size⟩; have HNE : Aside0 (b1 ≠ b2) := ⟨by have := L1.out; omega⟩; clear HB BK1 hbox hb hg; have HB := n0; have BK1 := n1; clear n0 n1; have hz1 : w2.cell? ⟨b1, 0, none⟩ = some (.int .i64 a1) := (blk_cell BK1.out 0).trans rfl) | (go_at_call 29; (with_reducible refine (linear_walk.calls (σ := List (List Int)) 30 #[.pointer (some ⟨b1, 0, none⟩), .pointer (some ⟨b2, 0, none⟩)] (gradI w.heap.size b1 b2 a1) (gradStp a1) A0 c0 l0 a1 A2 c2 l2 w _ [] sf 0 ?ent HR0.out HC0.out HR2.out HC2.out HV.out HB.out ?I0 ?st ?K HW.out).mono ?_); (case ent => exact enters_of Try.func30 rfl rfl); (case I0 => exact ⟨rfl, HB.out.size, _, BK1.out, BK2.out, Kd.S_nil _ _ _ _ _⟩); (case st => exact gradI.keep); (case K => intro k W s x A c o hk hl hx ho hB hI hC hc; obtain ⟨q1, q2, v, q3, q4, q5⟩ := hI; refine (linear_Grad_1.calls w.heap.size b1 b2 A c x.f0 x.f1 o a1 W v s q3 q4 HNE.out G2.out q2 q5 hC hc ⟨hx.1, ho⟩ (by omega)).mono ?_; rintro ed W' ⟨rfl, hb, v', k1, k2, k3⟩; exact ⟨rfl, ⟨by simp [gradStp, q1], Nat.le_trans q2 hb.size, v', k1, k2, k3⟩, hB.trans hb⟩); rintro ed W3 ⟨rfl, ⟨k, hI⟩, hb⟩; obtain ⟨-, -, vS, k1, k2, k3⟩ := hI; have HS := Aside0.mk k3; clear HB; have HB := Aside0.mk hb; obtain ⟨As, cs, es⟩ := Kd.S_slice HS.out; subst es; have hzS : W3.cell? ⟨b2, 0, none⟩ = some (.slice As sf.length cs) := (blk_cell k2 0).trans rfl; clear k1 k2 k3 hb) | (go_at_call 32; (with_reducible refine (linear_Mean.calls (l2.length : Int) As cs sf r1 r2 _ (Kd.S_reads' HS.out).2.2 (Kd.S_reads' HS.out).2.1 AM.out).mono ?_); rintro ed W4 ⟨v_, rfl, hR, hb⟩; have HO := Aside0.mk (Kd.R_lower hR HB.out.size); have n0 := Aside0.mk (below_then HB.out HB.out.size hb); clear HB hR hb; have HB := n0; clear n0))
    go_ret2
    exact ⟨_, rfl, HO.out, HB.out⟩
  · have hG := HG.out
    rw [if_neg hef] at hG
    obtain ⟨h1, h2⟩ : [] = r1 ∧ ef = r2 := by cases hG; exact ⟨rfl, rfl⟩
    have he0 : (ef == 0) = false := beq_eq_false_iff_ne.2 hef
    have he1 : (ef != 0) = true := bne_iff_ne.2 hef
    subst h1
    subst h2
    clear hG HG HF hef
    go_enter Try.func15, Try.ntmps15
    go_wp2_with (first | ((with_reducible refine gate_dst (N := 4) rfl ?_); refine box_event ?hg (N := 4) ?hd (cs := #[.int .i64 a1]) (t := 3) ?hr ?_; (case hd => rfl); (case hg => rfl); (case hr => first | (go_simp; done) | (go_simp; rfl)); intro b1 hg w1 hbox hb; have n0 := Aside0.mk (below_then HB.out (Nat.le_refl _) hb); have BK1 := Aside0.mk hbox; have G1 : Aside0 (w.heap.size ≤ b1) := ⟨by rw [hg]; exact Nat.le_refl _⟩; have L1 := Aside0.mk (blk_lt hbox); clear HB hbox hb hg; have HB := n0; clear n0; have hz1 : w1.cell? ⟨b1, 0, none⟩ = some (.int .i64 a1) := (blk_cell BK1.out 0).trans rfl) | ((with_reducible refine gate_dst (N := 8) rfl ?_); refine box_event ?hg (N := 8) ?hd (cs := #[.slice none 0 0]) (t := 63) ?hr ?_; (case hd => rfl); (case hg => rfl); (case hr => first | (go_simp; done) | (go_simp; rfl)); intro b2 hg w2 hbox hb; have n0 := Aside0.mk (below_then HB.out HB.out.size hb); have BK2 := Aside0.mk hbox; have n1 := Aside0.mk (blk_below BK1.out hb); have G2 : Aside0 (w.heap.size ≤ b2) := ⟨by rw [hg]; exact HB.out.size⟩; have HNE : Aside0 (b1 ≠ b2) := ⟨by have := L1.out; omega⟩; clear HB BK1 hbox hb hg; have HB := n0; have BK1 := n1; clear n0 n1; have hz1 : w2.cell? ⟨b1, 0, none⟩ = some (.int .i64 a1) := (blk_cell BK1.out 0).trans rfl) | (go_at_call 29; (with_reducible refine (linear_walk.calls (σ := List (List Int)) 30 #[.pointer (some ⟨b1, 0, none⟩), .pointer (some ⟨b2, 0, none⟩)] (gradI w.heap.size b1 b2 a1) (gradStp a1) A0 c0 l0 a1 A2 c2 l2 w _ [] sf ef ?ent HR0.out HC0.out HR2.out HC2.out HV.out HB.out ?I0 ?st ?K HW.out).mono ?_); (case ent => exact enters_of Try.func30 rfl rfl); (case I0 => exact ⟨rfl, HB.out.size, _, BK1.out, BK2.out, Kd.S_nil _ _ _ _ _⟩); (case st => exact gradI.keep); (case K => intro k W s x A c o hk hl hx ho hB hI hC hc; obtain ⟨q1, q2, v, q3, q4, q5⟩ := hI; refine (linear_Grad_1.calls w.heap.size b1 b2 A c x.f0 x.f1 o a1 W v s q3 q4 HNE.out G2.out q2 q5 hC hc ⟨hx.1, ho⟩ (by omega)).mono ?_; rintro ed W' ⟨rfl, hb, v', k1, k2, k3⟩; exact ⟨rfl, ⟨by simp [gradStp, q1], Nat.le_trans q2 hb.size, v', k1, k2, k3⟩, hB.trans hb⟩); rintro ed W3 ⟨rfl, ⟨k, hI⟩, hb⟩; obtain ⟨-, -, vS, k1, k2, k3⟩ := hI; have HS := Aside0.mk k3; clear HB; have HB := Aside0.mk hb; obtain ⟨As, cs, es⟩ := Kd.S_slice HS.out; subst es; have hzS : W3.cell? ⟨b2, 0, none⟩ = some (.slice As sf.length cs) := (blk_cell k2 0).trans rfl; clear k1 k2 k3 hb))
    go_ret2
    exact ⟨_, rfl, Kd.R_nil _ _ _ _ _, HB.out⟩


/-! ### model_straight_grad: function 118 -/
def model_straight_grad.f (a0_0 : Int) (a0_1 : Int) (a0_2 : Int) (a0_3 : Int) (a0_4 : Int) (l1 : List Int) (l2 : List (S37)) : Option (List Int × Int) := (linear_Grad.f l1 a0_4 l2).bind fun bt190 => (some (bt190.1, bt190.2))
set_option maxHeartbeats 8000000 in
set_option maxRecDepth 100000 in
theorem model_straight_grad.calls (a0_0 : Int) (a0_1 : Int) (a0_2 : Int) (a0_3 : Int) (a0_4 : Int) (A1 : Option Addr) (c1 : Nat) (l1 : List Int) (A2 : Option Addr) (c2 : Nat) (l2 : List (S37)) (r1 : List Int) (r2 : Int) (w : World) (hr1 : Kd.C (Kd.int .i64) w A1 l1.length l1) (hc1 : l1.length ≤ c1) (hr2 : Kd.C k37 w A2 l2.length l2) (hc2 : l2.length ≤ c2) (h : model_straight_grad.f a0_0 a0_1 a0_2 a0_3 a0_4 l1 l2 = some (r1, r2)) :
  Calls Try.prog 118 #[.agg #[.int .i64 a0_0, .int .i64 a0_1, .int .i64 a0_2, .int .i64 a0_3, .int .i64 a0_4], .slice A1 l1.length c1, .slice A2 l2.length c2] w fun e w' => ∃ v0_ : Value, e = .returned (.tuple #[v0_, .int .i64 r2]) ∧ Kd.R (Kd.int .i64) 2 w' w.heap.size (fun _ => True) v0_ r1 ∧ Below w.heap.size w w' := by
 have hu86 := Try.underlying86
 have HR1 := Aside0.mk hr1
 have HC1 := Aside0.mk hc1
 clear hr1 hc1
 have HR2 := Aside0.mk hr2
 have HC2 := Aside0.mk hc2
 clear hr2 hc2
 have HB := Aside0.mk (Below.refl w.heap.size w)
 have H : ((linear_Grad.f l1 a0_4 l2).bind fun bt190 => (some (bt190.1, bt190.2))) = some (r1, r2) := h
 clear h
 replace H := Option.bind_eq_some_iff.mp H
 obtain ⟨⟨t190, t191⟩, A40, H⟩ := H
 replace H : (some (t190, t191)) = some (r1, r2) := H
 have A4 := Aside0.mk A40
 clear A40
 simp only [Option.some.injEq, Prod.mk.injEq] at H
 obtain ⟨rfl, rfl⟩ := H
 go_enter Try.func118, Try.ntmps118
 go_wp2_with (first | ((with_reducible refine gate_dst (N := 3) rfl ?_); refine box_event ?hg (N := 3) ?hd (cs := #[.int .i64 a0_0, .int .i64 a0_1, .int .i64 a0_2, .int .i64 a0_3, .int .i64 a0_4]) (t := 86) ?hr ?_; (case hd => rfl); (case hg => rfl); (case hr => first | (go_simp; done) | (go_simp; rfl)); intro gb189 hg w5 hbox hb; have n0_ := Aside0.mk (zzT (by repeat (first | (with_reducible first | exact HB.out | apply zzA | apply zzN | apply zzD) | exact HB.out)) hb); have n1_ := Aside0.mk (hbox); have n2_ := Aside0.mk ((by rw [hg]; exact (zzS (by repeat (first | (with_reducible first | exact HB.out | apply zzA | apply zzN | apply zzD) | exact HB.out))) : w.heap.size ≤ gb189)); have n3_ := Aside0.mk ((by rw [hg]; exact (zzS (by repeat (first | (with_reducible first | exact HB.out | apply zzA | apply zzN | apply zzD) | exact HB.out))) : w.heap.size ≤ gb189)); clear HB; have HB := n0_; have BK189 := n1_; have GW189 := n2_; have GE189 := n3_; clear n0_ n1_ n2_ n3_; clear hb hbox hg; have hcz6_0 : w5.cell? ⟨gb189, 0, none⟩ = some (.int .i64 a0_0) := (blk_cell BK189.out 0).trans rfl; have hcz6_1 : w5.cell? ⟨gb189, 1, none⟩ = some (.int .i64 a0_1) := (blk_cell BK189.out 1).trans rfl; have hcz6_2 : w5.cell? ⟨gb189, 2, none⟩ = some (.int .i64 a0_2) := (blk_cell BK189.out 2).trans rfl; have hcz6_3 : w5.cell? ⟨gb189, 3, none⟩ = some (.int .i64 a0_3) := (blk_cell BK189.out 3).trans rfl; have hcz6_4 : w5.cell? ⟨gb189, 4, none⟩ = some (.int .i64 a0_4) := (blk_cell BK189.out 4).trans rfl; have hfz6_0 := blk_frozen BK189.out 0; have hfz6_1 := blk_frozen BK189.out 1; have hfz6_2 := blk_frozen BK189.out 2; have hfz6_3 := blk_frozen BK189.out 3; have hfz6_4 := blk_frozen BK189.out 4) | ((with_reducible refine gate_callee (f := 15) rfl ?_); refine goesL_ (some 13) rfl rfl Try.func15 (by kernel_rfl) rfl #[.slice A1 l1.length c1, .int .i64 a0_4, .slice A2 l2.length c2] rfl (by (try simp only [List.map_toArray, List.map_cons, List.map_nil]); first | done | rfl | (simp only [List.length_drop, List.length_take]; rfl)) ?_; (with_reducible refine (linear_Grad.calls _ _ l1 a0_4 _ _ l2 t190 t191 _ ?side1 ?side2 ?side3 ?side4 A4.out).mono ?_); (case side1 => repeat (first | exact (Kd.C_below HR1.out HB.out) | (with_reducible refine ccA ?_ _) | (with_reducible refine ccN ?_ _) | (with_reducible refine ccD ?_))); (case side2 => exact HC1.out); (case side3 => repeat (first | exact (Kd.C_below HR2.out HB.out) | (with_reducible refine ccA ?_ _) | (with_reducible refine ccN ?_ _) | (with_reducible refine ccD ?_))); (case side4 => exact HC2.out); rintro e w7 ⟨v192, rfl, ho0, hb⟩; refine ⟨_, rfl, ?_⟩; have n0_ := Aside0.mk (Kd.R_lower ho0 (zzS (by repeat (first | (with_reducible first | exact HB.out | apply zzA | apply zzN | apply zzD | refine below_set ?_ GE189.out) | exact HB.out)))); have n1_ := Aside0.mk (blk_below (g := gb189) (o := .cells #[.int .i64 a0_0, .int .i64 a0_1, .int .i64 a0_2, .int .i64 a0_3, .int .i64 a0_4] 86 (0, 0)) (by (with_reducible repeat (first | refine kkN ?_ _ | refine kkD ?_ | refine kkA ?_ _)); exact BK189.out) hb); have n2_ := Aside0.mk (zzT (by repeat (first | (with_reducible first | exact HB.out | apply zzA | apply zzN | apply zzD | refine below_set ?_ GE189.out) | exact HB.out)) hb); clear BK189; clear HB; have HO193 := n0_; have BK189 := n1_; have HB := n2_; clear n0_ n1_ n2_; (try clear hb); (try clear hb2); (try clear hk); (try clear hi); (try clear ho0)))
 go_ret2
 exact ⟨_, by first | rfl | (simp [errW_none, errW_some] <;> rfl) | (simp [*, errW_none, errW_some] <;> rfl), by (with_reducible repeat (first | apply rrA | apply rrN | apply rrD)); exact HO193.out, by repeat (first | (with_reducible first | exact HB.out | apply zzA | apply zzN | apply zzD | refine below_set ?_ GE189.out) | exact HB.out)⟩

/-! ### model_classes_fits: function 122 -/
def model_classes_fits.f (a0_0 : Int) (a0_1 : Int) (a0_2 : Int) (a0_3 : Int) (a0_4 : Int) (l1 : List Int) (l2 : List (S37)) : Option (Int) := (soft_Check.f a0_1 a0_2 l1 l2).bind fun t195 => (some t195)
set_option maxHeartbeats 8000000 in
set_option maxRecDepth 100000 in
theorem model_classes_fits.calls (a0_0 : Int) (a0_1 : Int) (a0_2 : Int) (a0_3 : Int) (a0_4 : Int) (A1 : Option Addr) (c1 : Nat) (l1 : List Int) (A2 : Option Addr) (c2 : Nat) (l2 : List (S37)) (r : Int) (w : World) (hr1 : Kd.C (Kd.int .i64) w A1 l1.length l1) (hc1 : l1.length ≤ c1) (hr2 : Kd.C k37 w A2 l2.length l2) (hc2 : l2.length ≤ c2) (h : model_classes_fits.f a0_0 a0_1 a0_2 a0_3 a0_4 l1 l2 = some r) :
  Calls Try.prog 122 #[.agg #[.int .i64 a0_0, .int .i64 a0_1, .int .i64 a0_2, .int .i64 a0_3, .int .i64 a0_4], .slice A1 l1.length c1, .slice A2 l2.length c2] w fun e w' => e = .returned (.int .i64 r) ∧ Below w.heap.size w w' := by
 have hu87 := Try.underlying87
 have HR1 := Aside0.mk hr1
 have HC1 := Aside0.mk hc1
 clear hr1 hc1
 have HR2 := Aside0.mk hr2
 have HC2 := Aside0.mk hc2
 clear hr2 hc2
 have HB := Aside0.mk (Below.refl w.heap.size w)
 have H : ((soft_Check.f a0_1 a0_2 l1 l2).bind fun t195 => (some t195)) = some r := h
 clear h
 replace H := Option.bind_eq_some_iff.mp H
 obtain ⟨t195, A40, H⟩ := H
 replace H : (some t195) = some r := H
 have A4 := Aside0.mk A40
 clear A40
 obtain rfl := Option.some.inj H
 go_enter Try.func122, Try.ntmps122
 go_wp2_with (first | ((with_reducible refine gate_dst (N := 3) rfl ?_); refine box_event ?hg (N := 3) ?hd (cs := #[.int .i64 a0_0, .int .i64 a0_1, .int .i64 a0_2, .int .i64 a0_3, .int .i64 a0_4]) (t := 87) ?hr ?_; (case hd => rfl); (case hg => rfl); (case hr => first | (go_simp; done) | (go_simp; rfl)); intro gb194 hg w5 hbox hb; have n0_ := Aside0.mk (zzT (by repeat (first | (with_reducible first | exact HB.out | apply zzA | apply zzN | apply zzD) | exact HB.out)) hb); have n1_ := Aside0.mk (hbox); have n2_ := Aside0.mk ((by rw [hg]; exact (zzS (by repeat (first | (with_reducible first | exact HB.out | apply zzA | apply zzN | apply zzD) | exact HB.out))) : w.heap.size ≤ gb194)); have n3_ := Aside0.mk ((by rw [hg]; exact (zzS (by repeat (first | (with_reducible first | exact HB.out | apply zzA | apply zzN | apply zzD) | exact HB.out))) : w.heap.size ≤ gb194)); clear HB; have HB := n0_; have BK194 := n1_; have GW194 := n2_; have GE194 := n3_; clear n0_ n1_ n2_ n3_; clear hb hbox hg; have hcz6_0 : w5.cell? ⟨gb194, 0, none⟩ = some (.int .i64 a0_0) := (blk_cell BK194.out 0).trans rfl; have hcz6_1 : w5.cell? ⟨gb194, 1, none⟩ = some (.int .i64 a0_1) := (blk_cell BK194.out 1).trans rfl; have hcz6_2 : w5.cell? ⟨gb194, 2, none⟩ = some (.int .i64 a0_2) := (blk_cell BK194.out 2).trans rfl; have hcz6_3 : w5.cell? ⟨gb194, 3, none⟩ = some (.int .i64 a0_3) := (blk_cell BK194.out 3).trans rfl; have hcz6_4 : w5.cell? ⟨gb194, 4, none⟩ = some (.int .i64 a0_4) := (blk_cell BK194.out 4).trans rfl; have hfz6_0 := blk_frozen BK194.out 0; have hfz6_1 := blk_frozen BK194.out 1; have hfz6_2 := blk_frozen BK194.out 2; have hfz6_3 := blk_frozen BK194.out 3; have hfz6_4 := blk_frozen BK194.out 4) | ((with_reducible refine gate_callee (f := 57) rfl ?_); refine goesL_ (some 15) rfl rfl Try.func57 (by kernel_rfl) rfl #[.int .i64 a0_1, .int .i64 a0_2, .slice A1 l1.length c1, .slice A2 l2.length c2] rfl (by (try simp only [List.map_toArray, List.map_cons, List.map_nil]); first | done | rfl | (simp only [List.length_drop, List.length_take]; rfl)) ?_; (with_reducible refine (soft_Check.calls a0_1 a0_2 _ _ l1 _ _ l2 t195 _ ?side1 ?side2 ?side3 ?side4 A4.out).mono ?_); (case side1 => repeat (first | exact (Kd.C_below HR1.out HB.out) | (with_reducible refine ccA ?_ _) | (with_reducible refine ccN ?_ _) | (with_reducible refine ccD ?_))); (case side2 => exact HC1.out); (case side3 => repeat (first | exact (Kd.C_below HR2.out HB.out) | (with_reducible refine ccA ?_ _) | (with_reducible refine ccN ?_ _) | (with_reducible refine ccD ?_))); (case side4 => exact HC2.out); rintro e w7 ⟨rfl, hb⟩; refine ⟨_, rfl, ?_⟩; have n0_ := Aside0.mk (blk_below (g := gb194) (o := .cells #[.int .i64 a0_0, .int .i64 a0_1, .int .i64 a0_2, .int .i64 a0_3, .int .i64 a0_4] 87 (0, 0)) (by (with_reducible repeat (first | refine kkN ?_ _ | refine kkD ?_ | refine kkA ?_ _)); exact BK194.out) hb); have n1_ := Aside0.mk (zzT (by repeat (first | (with_reducible first | exact HB.out | apply zzA | apply zzN | apply zzD | refine below_set ?_ GE194.out) | exact HB.out)) hb); clear BK194; clear HB; have BK194 := n0_; have HB := n1_; clear n0_ n1_; (try clear hb); (try clear hb2); (try clear hk); (try clear hi)))
 go_ret
 exact ⟨by first | rfl | (simp [errW_none, errW_some] <;> rfl) | (simp [*, errW_none, errW_some] <;> rfl), by repeat (first | (with_reducible first | exact HB.out | apply zzA | apply zzN | apply zzD | refine below_set ?_ GE194.out) | exact HB.out)⟩

-- NOT PRINTED: function 91 (slices_Chunk_int64_int64_1)

-- NOT PRINTED: function 64 (slices_Chunk_int64_int64)

/-! ### soft_Rows: function 56 -/
def soft_Rows.f (a0 : Int) (l1 : List Int) : Option (List (List Int) × Int) := some (rowsS a0 l1)
set_option maxHeartbeats 4000000 in
set_option maxRecDepth 100000 in
theorem soft_Rows.calls (a0 : Int) (A1 : Option Addr) (c1 : Nat) (l1 : List Int) (r1 : List (List Int)) (r2 : Int) (w : World) (hr1 : Kd.C (Kd.int .i64) w A1 l1.length l1) (hc1 : l1.length ≤ c1) (h : soft_Rows.f a0 l1 = some (r1, r2)) :
    Calls Try.prog 56 #[.int .i64 a0, .slice A1 l1.length c1] w fun e w' => ∃ v0_ : Value, e = .returned (.tuple #[v0_, .int .i64 r2]) ∧ Kd.S (Kd.slice 2 (Kd.int .i64)) 26 w' w.heap.size (fun _ => True) v0_ r1 ∧ Below w.heap.size w w' := by
  have h := Option.some.inj h
  have hmx := Kd.C_max hr1
  have hu := Try.underlying26
  by_cases hb : badOut a0
  · rw [show rowsS a0 l1 = ([], 1) from if_pos hb] at h
    obtain ⟨h1, h2⟩ : r1 = [] ∧ r2 = 1 := by cases h; exact ⟨rfl, rfl⟩
    rw [h1, h2]
    have A : soft_classes.f a0 = some false := by
      unfold soft_classes.f
      unfold badOut at hb
      by_cases c : a0 > 1
      · rw [if_pos c, decide_eq_false (by omega)]
      · rw [if_neg c]
    have HR1 := Aside0.mk hr1
    have HC1 := Aside0.mk hc1
    clear h h1 h2 hb hr1 hc1
    go_enter Try.func56, Try.ntmps56
    go_wp2_with (go_at_call 81; (with_reducible refine (soft_classes.calls a0 false _ A).mono ?_); rintro e w' ⟨rfl, ⟨nd, rfl⟩⟩)
    go_ret2
    exact ⟨_, rfl, Kd.S_nil _ _ _ _ _, zzN (Below.refl _ _) _⟩
  · have A : soft_classes.f a0 = some true := by
      unfold soft_classes.f
      unfold badOut at hb
      rw [if_pos (by omega), decide_eq_true (by omega)]
    have hrs : rowsS a0 l1 = if goodRow a0 l1 then (chunksS (l1.length / a0.toNat) l1 a0.toNat, 0) else ([], 4) := if_neg hb
    obtain ⟨k, hk⟩ : ∃ k : Nat, a0 = k := ⟨a0.toNat, by unfold badOut at hb; omega⟩
    subst hk
    rw [Int.toNat_natCast] at hrs
    have hk2 : 2 ≤ k := by unfold badOut at hb; omega
    have hk8 : k ≤ 8 := by unfold badOut at hb; omega
    have hdiv : (l1.length : Int) / (k : Int) = ((l1.length / k : Nat) : Int) := by push_cast; rfl
    have hgd : goodRow k l1 ↔ 2 ≤ l1.length / k ∧ l1.length / k ≤ 17 ∧ l1.length / k * k = l1.length := by unfold goodRow; rw [Int.toNat_natCast]
    have hle : l1.length / k * k ≤ l1.length := Nat.div_mul_le_self _ _
    generalize l1.length / k = m at hdiv hgd hle hrs
    clear hb
    by_cases hg : goodRow k l1
    · obtain ⟨g1, g2, g3⟩ := hgd.1 hg
      rw [if_pos hg] at hrs
      rw [hrs] at h
      obtain ⟨h1, h2⟩ : r1 = chunksS m l1 k ∧ r2 = 0 := by cases h; exact ⟨rfl, rfl⟩
      rw [h1, h2]
      have hpos : 0 < l1.length := by rw [← g3]; exact Nat.mul_pos (by omega) (by omega)
      obtain ⟨ad, rfl, _⟩ := hr1.2.2 hpos
      refine rows_in k m ad c1 l1 w hk2 hk8 g1 g2 (by rw [Nat.mul_comm]; exact g3) hr1 hc1 (fun w => soft_classes.calls _ _ w A) (fun w => linear_Dim.calls _ _ _ w ?_) (fun A r c w h0 h3 h4 => slices_Clone_int64_int64.calls A c r r w h0 h3 (slices_Clone_int64_int64.of _ (by omega)))
      unfold linear_Dim.f
      rw [if_neg (by omega), if_neg (by omega), show ((m : Int) - 1 + 1) = m by omega, wrap64_of (by unfold I64; omega)]
    · rw [if_neg hg] at hrs
      rw [hrs] at h
      obtain ⟨h1, h2⟩ : r1 = [] ∧ r2 = 4 := by cases h; exact ⟨rfl, rfl⟩
      rw [h1, h2]
      have hk0 : (k : Int) ≠ 0 := by omega
      have hmk : m * 1 ≤ m * k := Nat.mul_le_mul_left _ (by omega)
      have hm0 : wrap64 (m : Int) = (m : Int) := wrap64_of (by unfold I64; omega)
      have hm1 : wrap64 ((m : Int) - 1) = (m : Int) - 1 := wrap64_of (by unfold I64; omega)
      clear hmk
      have HR1 := Aside0.mk hr1
      have HC1 := Aside0.mk hc1
      clear h h1 h2 hr1 hc1 hrs
      by_cases c : 2 ≤ m ∧ m ≤ 17
      · have hne : ¬ m * k = l1.length := fun e => hg (hgd.2 ⟨c.1, c.2, e⟩)
        have D : linear_Dim.f ((m : Int) - 1) = some ((m : Int), 0) := by
          unfold linear_Dim.f
          rw [if_neg (by omega), if_neg (by omega), show ((m : Int) - 1 + 1) = m by omega, wrap64_of (by unfold I64; omega)]
        have hmul : wrap64 ((m : Int) * k) = ((m * k : Nat) : Int) := by
          have q1 : m * k ≤ 17 * 8 := Nat.mul_le_mul c.2 hk8
          have q2 : ((m * k : Nat) : Int) = (m : Int) * k := by push_cast; rfl
          rw [← q2, wrap64_of (by unfold I64; omega)]
        have hn1 : (((m * k : Nat) : Int) != (l1.length : Int)) = true := bne_iff_ne.2 (fun e => hne (by omega))
        generalize m * k = p at hmul hn1
        clear hg hgd hle c hne
        go_enter Try.func56, Try.ntmps56
        go_wp2_with (first | (go_at_call 81; (with_reducible refine (soft_classes.calls _ true _ A).mono ?_); rintro e w' ⟨rfl, ⟨nd, rfl⟩⟩) | (go_at_call 69; (with_reducible refine (linear_Dim.calls _ _ _ _ D).mono ?_); rintro e w' ⟨rfl, ⟨nd1, rfl⟩⟩))
        go_ret2
        exact ⟨_, rfl, Kd.S_nil _ _ _ _ _, zzN (Below.refl _ _) _⟩
      · have D : linear_Dim.f ((m : Int) - 1) = some (0, 1) := by
          unfold linear_Dim.f
          by_cases c1 : (m : Int) - 1 < 1
          · rw [if_pos c1]
          · rw [if_neg c1, if_pos (by omega)]
        clear hg hgd hle c
        go_enter Try.func56, Try.ntmps56
        go_wp2_with (first | (go_at_call 81; (with_reducible refine (soft_classes.calls _ true _ A).mono ?_); rintro e w' ⟨rfl, ⟨nd, rfl⟩⟩) | (go_at_call 69; (with_reducible refine (linear_Dim.calls _ _ _ _ D).mono ?_); rintro e w' ⟨rfl, ⟨nd1, rfl⟩⟩))
        go_ret2
        exact ⟨_, rfl, Kd.S_nil _ _ _ _ _, zzN (Below.refl _ _) _⟩


/-! ### soft_fitsP: function 33 -/
def soft_fitsP.f (a0 : Int) (l1 : List Int) (l2 : List (S37)) : Option (Int) := (soft_Rows.f a0 l1).bind fun bt196 => (if bt196.2 = 0 then (if 0 < (bt196.1.length : Int) then ((soft_Check.f (wrap64 (((rd_L1 bt196.1 0).length : Int) - 1)) a0 l1 l2).bind fun t201 => (some t201)) else (none)) else (some bt196.2))
set_option maxHeartbeats 8000000 in
set_option maxRecDepth 100000 in
theorem soft_fitsP.calls (a0 : Int) (A1 : Option Addr) (c1 : Nat) (l1 : List Int) (A2 : Option Addr) (c2 : Nat) (l2 : List (S37)) (r : Int) (w : World) (hr1 : Kd.C (Kd.int .i64) w A1 l1.length l1) (hc1 : l1.length ≤ c1) (hr2 : Kd.C k37 w A2 l2.length l2) (hc2 : l2.length ≤ c2) (h : soft_fitsP.f a0 l1 l2 = some r) :
  Calls Try.prog 33 #[.int .i64 a0, .slice A1 l1.length c1, .slice A2 l2.length c2] w fun e w' => e = .returned (.int .i64 r) ∧ Below w.heap.size w w' := by
 have HR1 := Aside0.mk hr1
 have HC1 := Aside0.mk hc1
 clear hr1 hc1
 have HR2 := Aside0.mk hr2
 have HC2 := Aside0.mk hc2
 clear hr2 hc2
 have HB := Aside0.mk (Below.refl w.heap.size w)
 have H : ((soft_Rows.f a0 l1).bind fun bt196 => (if bt196.2 = 0 then (if 0 < (bt196.1.length : Int) then ((soft_Check.f (wrap64 (((rd_L1 bt196.1 0).length : Int) - 1)) a0 l1 l2).bind fun t201 => (some t201)) else (none)) else (some bt196.2))) = some r := h
 clear h
 replace H := Option.bind_eq_some_iff.mp H
 obtain ⟨⟨t196, t197⟩, A40, H⟩ := H
 replace H : (if t197 = 0 then (if 0 < (t196.length : Int) then ((soft_Check.f (wrap64 (((rd_L1 t196 0).length : Int) - 1)) a0 l1 l2).bind fun t201 => (some t201)) else (none)) else (some t197)) = some r := H
 have A4 := Aside0.mk A40
 clear A40
 by_cases c5 : t197 = 0
 ·
  rw [if_pos c5] at H
  have c5b0 : (t197 == 0) = true := beq_iff_eq.mpr c5
  have c5b1 : (t197 != 0) = false := bne_eq_false_iff_eq.mpr c5
  clear c5
  by_cases c6 : 0 < (t196.length : Int)
  ·
   rw [if_pos c6] at H
   have c6b0 : decide (0 < (t196.length : Int)) = true := decide_eq_true c6
   have c6b1 : decide (0 < t196.length) = true := decide_eq_true (by omega)
   clear c6
   replace H := Option.bind_eq_some_iff.mp H
   obtain ⟨t201, A70, H⟩ := H
   replace H : (some t201) = some r := H
   have A7 := Aside0.mk A70
   clear A70
   obtain rfl := Option.some.inj H
   go_enter Try.func33, Try.ntmps33
   go_wp2_with (first | ((with_reducible refine gate_callee (f := 56) rfl ?_); refine goesL_ (some 12) rfl rfl Try.func56 (by kernel_rfl) rfl #[.int .i64 a0, .slice A1 l1.length c1] rfl (by (try simp only [List.map_toArray, List.map_cons, List.map_nil]); first | done | rfl | (simp only [List.length_drop, List.length_take]; rfl)) ?_; (with_reducible refine (soft_Rows.calls a0 _ _ l1 t196 t197 _ ?side1 ?side2 A4.out).mono ?_); (case side1 => repeat (first | exact HR1.out | (with_reducible refine ccA ?_ _) | (with_reducible refine ccN ?_ _) | (with_reducible refine ccD ?_))); (case side2 => exact HC1.out); rintro e w8 ⟨v198, rfl, ho0, hb⟩; refine ⟨_, rfl, ?_⟩; have n0_ := Aside0.mk (Kd.S_lower ho0 (zzS (by repeat (first | (with_reducible first | exact HB.out | apply zzA | apply zzN | apply zzD) | exact HB.out)))); have n1_ := Aside0.mk (zzT (by repeat (first | (with_reducible first | exact HB.out | apply zzA | apply zzN | apply zzD) | exact HB.out)) hb); clear HB; have HO199 := n0_; have HB := n1_; clear n0_ n1_; (try clear hb); (try clear hb2); (try clear hk); (try clear hi); (try clear ho0); obtain ⟨Ao9, co9, eo9⟩ := Kd.S_slice HO199.out; subst eo9; have p200 : 0 ≤ (0 : Int) := (by omega); have q200 : 0 < (t196.length : Int) := of_decide_eq_true (by first | (with_reducible assumption) | assumption); obtain ⟨ad200, A200_0, c200_0, e200, hx200_0, hl200_0, hi200_0⟩ := at_L1 (Kd.S_reads' HO199.out).2.2 0 p200 q200; cases e200; obtain ⟨ce200, hce200, hMe200, hcc200⟩ := Kd.S_get HO199.out [] 0 p200 (by first | exact q200 | exact of_decide_eq_true (by first | (with_reducible assumption) | assumption) | (have e_ := (Kd.S_reads' HO199.out).1; omega)); obtain ⟨ve200_0, rfl, ge200_0⟩ := hMe200; have hv200_0 := hcc200 0 _ rfl; rw [Nat.add_zero, show ((Kd.slice 2 (Kd.int .i64))).sz = 1 from rfl, Nat.mul_one] at hv200_0; replace hv200_0 := Option.some.inj (hv200_0.symm.trans hx200_0); rw [hv200_0] at ge200_0; have HL200_0 := Aside0.mk (show Kd.R (Kd.int .i64) 2 _ _ _ _ (rd_L1 t196 0) from ge200_0); clear hv200_0 ge200_0; clear hcc200 hce200; have qi200 : (0 < t196.length) = True := eq_true (by omega); (try rw [show ((0 : Int)).toNat = 0 from rfl] at hx200_0); (try rw [Addr.add_zero'] at hx200_0); have HR200_0 := Aside0.mk hi200_0; have HC200_0 := Aside0.mk hl200_0; clear hi200_0 hl200_0; replace p200 := eq_true p200; replace q200 := eq_true q200) | ((with_reducible refine gate_callee (f := 57) rfl ?_); refine goesL_ (some 26) rfl rfl Try.func57 (by kernel_rfl) rfl #[.int .i64 (wrap64 (((rd_L1 t196 0).length : Int) - 1)), .int .i64 a0, .slice A1 l1.length c1, .slice A2 l2.length c2] rfl (by (try simp only [List.map_toArray, List.map_cons, List.map_nil]); first | done | rfl | (simp only [List.length_drop, List.length_take]; rfl)) ?_; (with_reducible refine (soft_Check.calls (wrap64 (((rd_L1 t196 0).length : Int) - 1)) a0 _ _ l1 _ _ l2 t201 _ ?side1 ?side2 ?side3 ?side4 A7.out).mono ?_); (case side1 => repeat (first | exact (Kd.C_below HR1.out HB.out) | (with_reducible refine ccA ?_ _) | (with_reducible refine ccN ?_ _) | (with_reducible refine ccD ?_))); (case side2 => exact HC1.out); (case side3 => repeat (first | exact (Kd.C_below HR2.out HB.out) | (with_reducible refine ccA ?_ _) | (with_reducible refine ccN ?_ _) | (with_reducible refine ccD ?_))); (case side4 => exact HC2.out); rintro e w10 ⟨rfl, hb⟩; refine ⟨_, rfl, ?_⟩; have n0_ := Aside0.mk (Kd.S_below (by (with_reducible repeat (first | apply Kd.S_alloc | apply Kd.S_drewN | apply Kd.S_drew)); exact HO199.out) hb); have n1_ := Aside0.mk (Kd.R_below (by (with_reducible repeat (first | apply rrA | apply rrN | apply rrD)); exact HL200_0.out) hb); have n2_ := Aside0.mk (Kd.C_below (by repeat (first | (with_reducible exact HR200_0.out) | (with_reducible refine ccA ?_ _) | (with_reducible refine ccN ?_ _) | (with_reducible refine ccD ?_) | exact HR200_0.out)) hb); have n3_ := Aside0.mk (zzT (by repeat (first | (with_reducible first | exact HB.out | apply zzA | apply zzN | apply zzD) | exact HB.out)) hb); clear HO199; clear HL200_0; clear HR200_0; clear HB; have HO199 := n0_; have HL200_0 := n1_; have HR200_0 := n2_; have HB := n3_; clear n0_ n1_ n2_ n3_; (try clear hb); (try clear hb2); (try clear hk); (try clear hi)))
   go_ret
   exact ⟨by first | rfl | (simp [errW_none, errW_some] <;> rfl) | (simp [*, errW_none, errW_some] <;> rfl), by repeat (first | (with_reducible first | exact HB.out | apply zzA | apply zzN | apply zzD) | exact HB.out)⟩
  ·
   rw [if_neg c6] at H
   exact absurd H (by simp)
 ·
  rw [if_neg c5] at H
  have c5b0 : (t197 == 0) = false := beq_eq_false_iff_ne.mpr c5
  have c5b1 : (t197 != 0) = true := bne_iff_ne.mpr c5
  obtain rfl := Option.some.inj H
  go_enter Try.func33, Try.ntmps33
  go_wp2_with (first | ((with_reducible refine gate_callee (f := 56) rfl ?_); refine goesL_ (some 12) rfl rfl Try.func56 (by kernel_rfl) rfl #[.int .i64 a0, .slice A1 l1.length c1] rfl (by (try simp only [List.map_toArray, List.map_cons, List.map_nil]); first | done | rfl | (simp only [List.length_drop, List.length_take]; rfl)) ?_; (with_reducible refine (soft_Rows.calls a0 _ _ l1 t196 t197 _ ?side1 ?side2 A4.out).mono ?_); (case side1 => repeat (first | exact HR1.out | (with_reducible refine ccA ?_ _) | (with_reducible refine ccN ?_ _) | (with_reducible refine ccD ?_))); (case side2 => exact HC1.out); rintro e w11 ⟨v198, rfl, ho0, hb⟩; refine ⟨_, rfl, ?_⟩; have n0_ := Aside0.mk (Kd.S_lower ho0 (zzS (by repeat (first | (with_reducible first | exact HB.out | apply zzA | apply zzN | apply zzD) | exact HB.out)))); have n1_ := Aside0.mk (zzT (by repeat (first | (with_reducible first | exact HB.out | apply zzA | apply zzN | apply zzD) | exact HB.out)) hb); clear HB; have HO199 := n0_; have HB := n1_; clear n0_ n1_; (try clear hb); (try clear hb2); (try clear hk); (try clear hi); (try clear ho0)))
  go_ret
  exact ⟨by first | rfl | (simp [errW_none, errW_some] <;> rfl) | (simp [*, errW_none, errW_some] <;> rfl), by repeat (first | (with_reducible first | exact HB.out | apply zzA | apply zzN | apply zzD) | exact HB.out)⟩

def soft_fits.f (a0 : Int) (l1 : List Int) (l2 : List S37) : Option Int := some (fitS a0 l1 (l2.map sm))
theorem soft_fitsP.is (a0 : Int) (l1 : List Int) (l2 : List S37) : soft_fitsP.f a0 l1 l2 = some (fitS a0 l1 (l2.map sm)) := by
  unfold soft_fitsP.f fitS soft_Rows.f soft_Check.f
  rw [Option.bind_some]
  by_cases c : (rowsS a0 l1).2 = 0
  · obtain ⟨k, m, rfl, hk2, hk8, hm2, hm17, hmk, hr⟩ := rowsS_good c
    have hlen : (rowsS (k : Int) l1).1.length = k := by rw [hr, chunksS_length]
    rw [if_pos c, if_neg (not_not_intro c), if_pos (by omega)]; rfl
  · rw [if_neg c, if_pos c]
theorem soft_fits.calls (a0 : Int) (A1 : Option Addr) (c1 : Nat) (l1 : List Int) (A2 : Option Addr) (c2 : Nat) (l2 : List (S37)) (r : Int) (w : World) (hr1 : Kd.C (Kd.int .i64) w A1 l1.length l1) (hc1 : l1.length ≤ c1) (hr2 : Kd.C k37 w A2 l2.length l2) (hc2 : l2.length ≤ c2) (h : soft_fits.f a0 l1 l2 = some r) :
    Calls Try.prog 33 #[.int .i64 a0, .slice A1 l1.length c1, .slice A2 l2.length c2] w fun e w' => e = .returned (.int .i64 r) ∧ Below w.heap.size w w' := by
  unfold soft_fits.f at h
  exact soft_fitsP.calls a0 A1 c1 l1 A2 c2 l2 r w hr1 hc1 hr2 hc2 ((soft_fitsP.is a0 l1 l2).trans h)


end Go.Proofs.Ytbnfejaeekljcaa.HD
