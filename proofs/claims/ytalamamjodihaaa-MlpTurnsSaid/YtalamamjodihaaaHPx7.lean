/- What Go functions do, each as a plain Lean function with the same answers, and the proof of it, in every world: printed by the session's driver over the kit's print, with texts by hand. -/
import Derived.Test.YtalamamjodihaaaHPx0
import Derived.Test.YtalamamjodihaaaHPx1
import Derived.Test.YtalamamjodihaaaHPx3
import Derived.Test.YtalamamjodihaaaHPx4
import Derived.Test.YtalamamjodihaaaHPx5
import Derived.Test.YtalamamjodihaaaHPx6
namespace Go.Proofs.Ytalamamjodihaaa.HP
open Go.RowKit Go.Proofs.YtalamamjodihaaaW.PrintWords Go.Proofs.YtalamamjodihaaaW.PrintLast Go.Proofs.YtalamamjodihaaaW.PrintMore
attribute [local go_sem] max2_int min2_int max_two min_two max_three min_three max_four min_four   -- for this text's walks alone
open Go.Proofs.Ytalamamjodihaaa.Sp
attribute [local go_sem] Go.Proofs.Ytalamamjodihaaa.Sp.u64_not
set_option linter.unusedVariables false
set_option linter.unusedSimpArgs false

/-! ### fix_DivP: function 77 -/
mutual
def fix_DivP.j0 : Nat → Int → Int → Int → Bool → Option (Int × Int)
 | 0, _, _, _, _ => none
 | k + 1, x0, x1, x2, x19 => if x19 = true then (some (0, 1)) else ((fix_size.f x0).bind fun t171 => (if 0 ≤ x2 then ((bits_Mul64.f t171 (shl .u64 1 x2)).bind fun bt172 => ((fix_size.f x1).bind fun t174 => (if bt172.1 ≥ t174 then (some (0, 2)) else ((bits_Div64.f bt172.1 bt172.2 t174).bind fun bt175 => (if ((decide (x0 < 0)) != (decide (x1 < 0))) = true then (if bt175.2 > 0 then (if bt175.1 ≥ 9223372036854775808 then (some (0, 2)) else (fix_DivP.j1 k (IntKind.u64.wrap (bt175.1 + 1)) 9223372036854775808)) else (fix_DivP.j1 k bt175.1 9223372036854775808)) else (if bt175.1 > 9223372036854775807 then (some (0, 2)) else (some (wrap64 (bt175.1), 0)))))))) else (none)))
def fix_DivP.j1 : Nat → Int → Int → Option (Int × Int)
 | 0, _, _ => none
 | k + 1, x10, x12 => if x10 > x12 then (some (0, 2)) else (some (wrap64 (IntKind.u64.wrap (-x10)), 0))
end
def fix_DivP.f (k : Nat) (a0 : Int) (a1 : Int) (a2 : Int) : Option (Int × Int) := (fix_behind.f a2).bind fun t170 => (if t170 = true then (fix_DivP.j0 k a0 a1 a2 (a1 == 0)) else (fix_DivP.j0 k a0 a1 a2 true))
theorem fix_DivP.mono_l : ∀ k, (∀ y0 y1 y2 y3, LeO (fix_DivP.j0 k y0 y1 y2 y3) (fix_DivP.j0 (k + 1) y0 y1 y2 y3)) ∧ (∀ y0 y1, LeO (fix_DivP.j1 k y0 y1) (fix_DivP.j1 (k + 1) y0 y1))
 | 0 => ⟨fun _ _ _ _ r h => by simp [fix_DivP.j0] at h, fun _ _ r h => by simp [fix_DivP.j1] at h⟩
 | k + 1 => by
  obtain ⟨ih0, ih1⟩ := fix_DivP.mono_l k
  refine ⟨?_, ?_⟩
  ·
   intro y0 y1 y2 y3
   unfold fix_DivP.j0
   repeat' first
   | (with_reducible exact ih0 _ _ _ _)
   | (with_reducible exact ih1 _ _)
   | (with_reducible exact LeO.refl _)
   | (with_reducible exact LeO.none _)
   | (with_reducible refine LeO.ite ?_ ?_)
   | (with_reducible refine LeO.bind ?_ (fun _ => ?_))
   | exact ih0 _ _ _ _
   | exact ih1 _ _
   | exact LeO.none _
   | refine LeO.ite ?_ ?_
   | refine LeO.bind ?_ (fun _ => ?_)
  ·
   intro y0 y1
   unfold fix_DivP.j1
   repeat' first
   | (with_reducible exact ih0 _ _ _ _)
   | (with_reducible exact ih1 _ _)
   | (with_reducible exact LeO.refl _)
   | (with_reducible exact LeO.none _)
   | (with_reducible refine LeO.ite ?_ ?_)
   | (with_reducible refine LeO.bind ?_ (fun _ => ?_))
   | exact ih0 _ _ _ _
   | exact ih1 _ _
   | exact LeO.none _
   | refine LeO.ite ?_ ?_
   | refine LeO.bind ?_ (fun _ => ?_)
theorem fix_DivP.mono : ∀ a0 a1 a2 k, LeO (fix_DivP.f k a0 a1 a2) (fix_DivP.f (k + 1) a0 a1 a2) := by
 intro a0 a1 a2 k
 obtain ⟨ih0, ih1⟩ := fix_DivP.mono_l k
 unfold fix_DivP.f
 repeat' first
   | (with_reducible exact ih0 _ _ _ _)
   | (with_reducible exact ih1 _ _)
   | (with_reducible exact LeO.refl _)
   | (with_reducible exact LeO.none _)
   | (with_reducible refine LeO.ite ?_ ?_)
   | (with_reducible refine LeO.bind ?_ (fun _ => ?_))
   | exact ih0 _ _ _ _
   | exact ih1 _ _
   | exact LeO.none _
   | refine LeO.ite ?_ ?_
   | refine LeO.bind ?_ (fun _ => ?_)
set_option maxHeartbeats 8000000 in
set_option maxRecDepth 100000 in
theorem fix_DivP.calls (k : Nat) (a0 : Int) (a1 : Int) (a2 : Int) (r1 : Int) (r2 : Int) (w : World) (h : fix_DivP.f k a0 a1 a2 = some (r1, r2)) :
  Calls Try.prog 77 #[.int .i64 a0, .int .i64 a1, .int .i64 a2] w fun e w' => e = .returned (.tuple #[.int .i64 r1, .int .i64 r2]) ∧ Drawn0 w w' := by
 have H : ((fix_behind.f a2).bind fun t170 => (if t170 = true then (fix_DivP.j0 k a0 a1 a2 (a1 == 0)) else (fix_DivP.j0 k a0 a1 a2 true))) = some (r1, r2) := h
 clear h
 have HC4 := Aside0.mk H
 clear H
 go_enter Try.func77, Try.ntmps77
 go_upto_region 1 with (fail)
 repeat (go_quiet (fail); go_upto_region 1 with (fail))
 go_cut [19] (fun v19 wc => ∃ (kq : Nat) (x19_3 : Bool), v19 = .bool x19_3 ∧ Aside0 (fix_DivP.j0 kq a0 a1 a2 x19_3 = some (r1, r2)) ∧ Aside0 (kq ≤ k) ∧ Drawn0 w wc)
 case first =>
  have H := HC4.out
  clear HC4
  replace H := Option.bind_eq_some_iff.mp H
  obtain ⟨t170, A50, H⟩ := H
  replace H : (if t170 = true then (fix_DivP.j0 k a0 a1 a2 (a1 == 0)) else (fix_DivP.j0 k a0 a1 a2 true)) = some (r1, r2) := H
  have A5 := Aside0.mk A50
  clear A50
  by_cases c6 : t170 = true
  ·
   subst c6
   have H1 : (fix_DivP.j0 k a0 a1 a2 (a1 == 0)) = some (r1, r2) := by rw [if_pos rfl] at H; exact H
   clear H
   have H := H1
   clear H1
   have H' := Aside0.mk H
   clear H
   go_wp2_with (first | (go_at_call 68; (with_reducible refine (fix_behind.calls a2 true _ A5.out).mono ?_); rintro e w' ⟨rfl, ⟨nd, rfl⟩⟩; (try first | exact ⟨rfl, _, wwN _ _ _⟩ | exact ⟨rfl, _, ww3 _ _ _ _⟩)))
   repeat (go_quiet (first | (go_at_call 68; (with_reducible refine (fix_behind.calls a2 true _ A5.out).mono ?_); rintro e w' ⟨rfl, ⟨nd, rfl⟩⟩; (try first | exact ⟨rfl, _, wwN _ _ _⟩ | exact ⟨rfl, _, ww3 _ _ _ _⟩))); try go_wp2_with (first | (go_at_call 68; (with_reducible refine (fix_behind.calls a2 true _ A5.out).mono ?_); rintro e w' ⟨rfl, ⟨nd, rfl⟩⟩; (try first | exact ⟨rfl, _, wwN _ _ _⟩ | exact ⟨rfl, _, ww3 _ _ _ _⟩))))
   go_meet
   case rel => exact ⟨_, ((a1 == 0)), (by first | rfl | (simp; done) | (simp [*]; done)), H', ⟨by first | omega | exact Nat.le_refl _⟩, by repeat (first | exact ddR _ | apply ddS)⟩
  ·
   replace c6 := Bool.eq_false_iff.mpr c6
   subst c6
   have H1 : (fix_DivP.j0 k a0 a1 a2 true) = some (r1, r2) := by rw [if_neg (show ¬ (false = true) by decide)] at H; exact H
   clear H
   have H := H1
   clear H1
   have H' := Aside0.mk H
   clear H
   go_wp2_with (first | (go_at_call 68; (with_reducible refine (fix_behind.calls a2 false _ A5.out).mono ?_); rintro e w' ⟨rfl, ⟨nd, rfl⟩⟩; (try first | exact ⟨rfl, _, wwN _ _ _⟩ | exact ⟨rfl, _, ww3 _ _ _ _⟩)))
   repeat (go_quiet (first | (go_at_call 68; (with_reducible refine (fix_behind.calls a2 false _ A5.out).mono ?_); rintro e w' ⟨rfl, ⟨nd, rfl⟩⟩; (try first | exact ⟨rfl, _, wwN _ _ _⟩ | exact ⟨rfl, _, ww3 _ _ _ _⟩))); try go_wp2_with (first | (go_at_call 68; (with_reducible refine (fix_behind.calls a2 false _ A5.out).mono ?_); rintro e w' ⟨rfl, ⟨nd, rfl⟩⟩; (try first | exact ⟨rfl, _, wwN _ _ _⟩ | exact ⟨rfl, _, ww3 _ _ _ _⟩))))
   go_meet
   case rel => exact ⟨_, (true), (by first | rfl | (simp; done) | (simp [*]; done)), H', ⟨by first | omega | exact Nat.le_refl _⟩, by repeat (first | exact ddR _ | apply ddS)⟩
 case rest =>
  clear HC4
  try clear p2
  try clear c6
  obtain ⟨kq, x19_3, rfl, HA, HJ3, ⟨mc3, rfl⟩⟩ := hcut
  cases kq with
  | zero => exact absurd HA.out (by simp [fix_DivP.j0])
  | succ kj3 =>
   have H := HA.out
   clear HA
   simp only [fix_DivP.j0] at H
   by_cases c7 : x19_3 = true
   ·
    subst c7
    have H1 : (some (0, 1)) = some (r1, r2) := by rw [if_pos rfl] at H; exact H
    clear H
    have H := H1
    clear H1
    simp only [Option.some.injEq, Prod.mk.injEq] at H
    obtain ⟨rfl, rfl⟩ := H
    go_wp2
    repeat (go_quiet (fail); try go_wp2)
    go_ret2
    exact ⟨by first | rfl | (simp; done) | (simp [*]; done), by repeat (first | exact ddR _ | apply ddS)⟩
   ·
    replace c7 := Bool.eq_false_iff.mpr c7
    subst c7
    have H1 : ((fix_size.f a0).bind fun t171 => (if 0 ≤ a2 then ((bits_Mul64.f t171 (shl .u64 1 a2)).bind fun bt172 => ((fix_size.f a1).bind fun t174 => (if bt172.1 ≥ t174 then (some (0, 2)) else ((bits_Div64.f bt172.1 bt172.2 t174).bind fun bt175 => (if ((decide (a0 < 0)) != (decide (a1 < 0))) = true then (if bt175.2 > 0 then (if bt175.1 ≥ 9223372036854775808 then (some (0, 2)) else (fix_DivP.j1 kj3 (IntKind.u64.wrap (bt175.1 + 1)) 9223372036854775808)) else (fix_DivP.j1 kj3 bt175.1 9223372036854775808)) else (if bt175.1 > 9223372036854775807 then (some (0, 2)) else (some (wrap64 (bt175.1), 0)))))))) else (none))) = some (r1, r2) := by rw [if_neg (show ¬ (false = true) by decide)] at H; exact H
    clear H
    have H := H1
    clear H1
    replace H := Option.bind_eq_some_iff.mp H
    obtain ⟨t171, A80, H⟩ := H
    replace H : (if 0 ≤ a2 then ((bits_Mul64.f t171 (shl .u64 1 a2)).bind fun bt172 => ((fix_size.f a1).bind fun t174 => (if bt172.1 ≥ t174 then (some (0, 2)) else ((bits_Div64.f bt172.1 bt172.2 t174).bind fun bt175 => (if ((decide (a0 < 0)) != (decide (a1 < 0))) = true then (if bt175.2 > 0 then (if bt175.1 ≥ 9223372036854775808 then (some (0, 2)) else (fix_DivP.j1 kj3 (IntKind.u64.wrap (bt175.1 + 1)) 9223372036854775808)) else (fix_DivP.j1 kj3 bt175.1 9223372036854775808)) else (if bt175.1 > 9223372036854775807 then (some (0, 2)) else (some (wrap64 (bt175.1), 0)))))))) else (none)) = some (r1, r2) := H
    have A8 := Aside0.mk A80
    clear A80
    by_cases c9 : 0 ≤ a2
    ·
     rw [if_pos c9] at H
     have c9b0 := eq_true c9
     have c9b1 : decide (0 ≤ a2) = true := decide_eq_true c9
     clear c9
     obtain ⟨ji10, hji10⟩ : ∃ j_ : Int, (shl .u64 1 a2) = j_ := ⟨_, rfl⟩
     replace H : ((bits_Mul64.f t171 (ji10)).bind fun bt172 => ((fix_size.f a1).bind fun t174 => (if bt172.1 ≥ t174 then (some (0, 2)) else ((bits_Div64.f bt172.1 bt172.2 t174).bind fun bt175 => (if ((decide (a0 < 0)) != (decide (a1 < 0))) = true then (if bt175.2 > 0 then (if bt175.1 ≥ 9223372036854775808 then (some (0, 2)) else (fix_DivP.j1 kj3 (IntKind.u64.wrap (bt175.1 + 1)) 9223372036854775808)) else (fix_DivP.j1 kj3 bt175.1 9223372036854775808)) else (if bt175.1 > 9223372036854775807 then (some (0, 2)) else (some (wrap64 (bt175.1), 0)))))))) = some (r1, r2) := by first | (rw [hji10] at H; exact H) | (simp only [hji10] at H ⊢; exact H)
     (try rw [hji10] at A8)
     have hji10_ : (IntKind.u64.wrap (1 * 2 ^ min a2.toNat 64)) = ji10 := hji10
     have hji10z : a2 ≤ 64 → (IntKind.u64.wrap (1 * 2 ^ a2.toNat)) = ji10 := shl_small hji10
     have hji10u : (IntKind.u64.wrap (2 ^ min a2.toNat 64)) = ji10 := by have h_ := hji10_; rw [Int.one_mul] at h_; exact h_
     have hji10v : a2 ≤ 64 → (IntKind.u64.wrap (2 ^ a2.toNat)) = ji10 := fun hle_ => by have h_ := hji10z hle_; rw [Int.one_mul] at h_; exact h_
     replace H := Option.bind_eq_some_iff.mp H
     obtain ⟨⟨t172, t173⟩, A110, H⟩ := H
     replace H : ((fix_size.f a1).bind fun t174 => (if t172 ≥ t174 then (some (0, 2)) else ((bits_Div64.f t172 t173 t174).bind fun bt175 => (if ((decide (a0 < 0)) != (decide (a1 < 0))) = true then (if bt175.2 > 0 then (if bt175.1 ≥ 9223372036854775808 then (some (0, 2)) else (fix_DivP.j1 kj3 (IntKind.u64.wrap (bt175.1 + 1)) 9223372036854775808)) else (fix_DivP.j1 kj3 bt175.1 9223372036854775808)) else (if bt175.1 > 9223372036854775807 then (some (0, 2)) else (some (wrap64 (bt175.1), 0))))))) = some (r1, r2) := H
     have A11 := Aside0.mk A110
     clear A110
     replace H := Option.bind_eq_some_iff.mp H
     obtain ⟨t174, A120, H⟩ := H
     replace H : (if t172 ≥ t174 then (some (0, 2)) else ((bits_Div64.f t172 t173 t174).bind fun bt175 => (if ((decide (a0 < 0)) != (decide (a1 < 0))) = true then (if bt175.2 > 0 then (if bt175.1 ≥ 9223372036854775808 then (some (0, 2)) else (fix_DivP.j1 kj3 (IntKind.u64.wrap (bt175.1 + 1)) 9223372036854775808)) else (fix_DivP.j1 kj3 bt175.1 9223372036854775808)) else (if bt175.1 > 9223372036854775807 then (some (0, 2)) else (some (wrap64 (bt175.1), 0)))))) = some (r1, r2) := H
     have A12 := Aside0.mk A120
     clear A120
     by_cases c13 : t172 ≥ t174
     ·
      rw [if_pos c13] at H
      have c13b0 : decide (t174 ≤ t172) = true := decide_eq_true c13
      clear c13
      simp only [Option.some.injEq, Prod.mk.injEq] at H
      obtain ⟨rfl, rfl⟩ := H
      go_wp2_with (first | (go_at_call 84; (with_reducible refine (fix_size.calls a0 t171 _ A8.out).mono ?_); rintro e w' ⟨rfl, ⟨nd, rfl⟩⟩; (try first | exact ⟨rfl, _, wwN _ _ _⟩ | exact ⟨rfl, _, ww3 _ _ _ _⟩)) | (go_at_call 82; (with_reducible refine (bits_Mul64.calls t171 ji10 t172 t173 _ A11.out).mono ?_); rintro e w' ⟨rfl, ⟨nd, rfl⟩⟩; (try first | exact ⟨rfl, _, wwN _ _ _⟩ | exact ⟨rfl, _, ww3 _ _ _ _⟩)) | (go_at_call 84; (with_reducible refine (fix_size.calls a1 t174 _ A12.out).mono ?_); rintro e w' ⟨rfl, ⟨nd, rfl⟩⟩; (try first | exact ⟨rfl, _, wwN _ _ _⟩ | exact ⟨rfl, _, ww3 _ _ _ _⟩)))
      repeat (go_quiet (first | (go_at_call 84; (with_reducible refine (fix_size.calls a0 t171 _ A8.out).mono ?_); rintro e w' ⟨rfl, ⟨nd, rfl⟩⟩; (try first | exact ⟨rfl, _, wwN _ _ _⟩ | exact ⟨rfl, _, ww3 _ _ _ _⟩)) | (go_at_call 82; (with_reducible refine (bits_Mul64.calls t171 ji10 t172 t173 _ A11.out).mono ?_); rintro e w' ⟨rfl, ⟨nd, rfl⟩⟩; (try first | exact ⟨rfl, _, wwN _ _ _⟩ | exact ⟨rfl, _, ww3 _ _ _ _⟩)) | (go_at_call 84; (with_reducible refine (fix_size.calls a1 t174 _ A12.out).mono ?_); rintro e w' ⟨rfl, ⟨nd, rfl⟩⟩; (try first | exact ⟨rfl, _, wwN _ _ _⟩ | exact ⟨rfl, _, ww3 _ _ _ _⟩))); try go_wp2_with (first | (go_at_call 84; (with_reducible refine (fix_size.calls a0 t171 _ A8.out).mono ?_); rintro e w' ⟨rfl, ⟨nd, rfl⟩⟩; (try first | exact ⟨rfl, _, wwN _ _ _⟩ | exact ⟨rfl, _, ww3 _ _ _ _⟩)) | (go_at_call 82; (with_reducible refine (bits_Mul64.calls t171 ji10 t172 t173 _ A11.out).mono ?_); rintro e w' ⟨rfl, ⟨nd, rfl⟩⟩; (try first | exact ⟨rfl, _, wwN _ _ _⟩ | exact ⟨rfl, _, ww3 _ _ _ _⟩)) | (go_at_call 84; (with_reducible refine (fix_size.calls a1 t174 _ A12.out).mono ?_); rintro e w' ⟨rfl, ⟨nd, rfl⟩⟩; (try first | exact ⟨rfl, _, wwN _ _ _⟩ | exact ⟨rfl, _, ww3 _ _ _ _⟩))))
      go_ret2
      exact ⟨by first | rfl | (simp; done) | (simp only [← hji10] <;> (first | rfl | simp)) | (simp [*]; done), by repeat (first | exact ddR _ | apply ddS)⟩
     ·
      rw [if_neg c13] at H
      have c13b0 : decide (t174 ≤ t172) = false := decide_eq_false c13
      clear c13
      replace H := Option.bind_eq_some_iff.mp H
      obtain ⟨⟨t175, t176⟩, A140, H⟩ := H
      replace H : (if ((decide (a0 < 0)) != (decide (a1 < 0))) = true then (if t176 > 0 then (if t175 ≥ 9223372036854775808 then (some (0, 2)) else (fix_DivP.j1 kj3 (IntKind.u64.wrap (t175 + 1)) 9223372036854775808)) else (fix_DivP.j1 kj3 t175 9223372036854775808)) else (if t175 > 9223372036854775807 then (some (0, 2)) else (some (wrap64 (t175), 0)))) = some (r1, r2) := H
      have A14 := Aside0.mk A140
      clear A140
      by_cases c15 : ((decide (a0 < 0)) != (decide (a1 < 0))) = true
      ·
       rw [if_pos c15] at H
       have c15b0 : ((decide (a0 < 0)) != (decide (a1 < 0))) = true := c15
       (try (have c15b1 : decide ((decide (a0 < 0)) = (decide (a1 < 0))) = false := by simpa using c15))
       (try (have c15b2 : ((decide (a0 < 0)) == (decide (a1 < 0))) = false := by simpa using c15))
       (try (have c15b3 : ¬ ((decide (a0 < 0)) = (decide (a1 < 0))) := by simpa using c15))
       clear c15
       have HC16 := Aside0.mk H
       clear H
       go_upto_if 48 with (first | (go_at_call 84; (with_reducible refine (fix_size.calls a0 t171 _ A8.out).mono ?_); rintro e w' ⟨rfl, ⟨nd, rfl⟩⟩; (try first | exact ⟨rfl, _, wwN _ _ _⟩ | exact ⟨rfl, _, ww3 _ _ _ _⟩)) | (go_at_call 82; (with_reducible refine (bits_Mul64.calls t171 ji10 t172 t173 _ A11.out).mono ?_); rintro e w' ⟨rfl, ⟨nd, rfl⟩⟩; (try first | exact ⟨rfl, _, wwN _ _ _⟩ | exact ⟨rfl, _, ww3 _ _ _ _⟩)) | (go_at_call 84; (with_reducible refine (fix_size.calls a1 t174 _ A12.out).mono ?_); rintro e w' ⟨rfl, ⟨nd, rfl⟩⟩; (try first | exact ⟨rfl, _, wwN _ _ _⟩ | exact ⟨rfl, _, ww3 _ _ _ _⟩)) | (go_at_call 85; (with_reducible refine (bits_Div64.calls t172 t173 t174 t175 t176 _ A14.out).mono ?_); rintro e w' ⟨rfl, ⟨nd, rfl⟩⟩; (try first | exact ⟨rfl, _, wwN _ _ _⟩ | exact ⟨rfl, _, ww3 _ _ _ _⟩)))
       repeat (go_quiet (first | (go_at_call 84; (with_reducible refine (fix_size.calls a0 t171 _ A8.out).mono ?_); rintro e w' ⟨rfl, ⟨nd, rfl⟩⟩; (try first | exact ⟨rfl, _, wwN _ _ _⟩ | exact ⟨rfl, _, ww3 _ _ _ _⟩)) | (go_at_call 82; (with_reducible refine (bits_Mul64.calls t171 ji10 t172 t173 _ A11.out).mono ?_); rintro e w' ⟨rfl, ⟨nd, rfl⟩⟩; (try first | exact ⟨rfl, _, wwN _ _ _⟩ | exact ⟨rfl, _, ww3 _ _ _ _⟩)) | (go_at_call 84; (with_reducible refine (fix_size.calls a1 t174 _ A12.out).mono ?_); rintro e w' ⟨rfl, ⟨nd, rfl⟩⟩; (try first | exact ⟨rfl, _, wwN _ _ _⟩ | exact ⟨rfl, _, ww3 _ _ _ _⟩)) | (go_at_call 85; (with_reducible refine (bits_Div64.calls t172 t173 t174 t175 t176 _ A14.out).mono ?_); rintro e w' ⟨rfl, ⟨nd, rfl⟩⟩; (try first | exact ⟨rfl, _, wwN _ _ _⟩ | exact ⟨rfl, _, ww3 _ _ _ _⟩))); go_upto_if 48 with (first | (go_at_call 84; (with_reducible refine (fix_size.calls a0 t171 _ A8.out).mono ?_); rintro e w' ⟨rfl, ⟨nd, rfl⟩⟩; (try first | exact ⟨rfl, _, wwN _ _ _⟩ | exact ⟨rfl, _, ww3 _ _ _ _⟩)) | (go_at_call 82; (with_reducible refine (bits_Mul64.calls t171 ji10 t172 t173 _ A11.out).mono ?_); rintro e w' ⟨rfl, ⟨nd, rfl⟩⟩; (try first | exact ⟨rfl, _, wwN _ _ _⟩ | exact ⟨rfl, _, ww3 _ _ _ _⟩)) | (go_at_call 84; (with_reducible refine (fix_size.calls a1 t174 _ A12.out).mono ?_); rintro e w' ⟨rfl, ⟨nd, rfl⟩⟩; (try first | exact ⟨rfl, _, wwN _ _ _⟩ | exact ⟨rfl, _, ww3 _ _ _ _⟩)) | (go_at_call 85; (with_reducible refine (bits_Div64.calls t172 t173 t174 t175 t176 _ A14.out).mono ?_); rintro e w' ⟨rfl, ⟨nd, rfl⟩⟩; (try first | exact ⟨rfl, _, wwN _ _ _⟩ | exact ⟨rfl, _, ww3 _ _ _ _⟩))))
       (try simp only [Act.put, List.setIfInBounds_toArray, List.set_cons_zero, List.set_cons_succ])
       go_cut [10] (fun v10 wc => ∃ (kq : Nat) (x10_15 : Int), v10 = .int .u64 x10_15 ∧ Aside0 (fix_DivP.j1 kq x10_15 9223372036854775808 = some (r1, r2)) ∧ Aside0 (kq ≤ kj3) ∧ Drawn0 w wc)
       case first =>
        have H := HC16.out
        clear HC16
        by_cases c17 : t176 > 0
        ·
         rw [if_pos c17] at H
         have c17b0 : decide (0 < t176) = true := decide_eq_true c17
         clear c17
         (first | rw [c17b0] | (simp only [i64_w, i32_w]; rw [c17b0]) | skip)
         by_cases c18 : t175 ≥ 9223372036854775808
         ·
          rw [if_pos c18] at H
          have c18b0 : decide (9223372036854775808 ≤ t175) = true := decide_eq_true c18
          clear c18
          simp only [Option.some.injEq, Prod.mk.injEq] at H
          obtain ⟨rfl, rfl⟩ := H
          go_wp2
          repeat (go_quiet (fail); try go_wp2)
          go_ret2
          exact ⟨by first | rfl | (simp; done) | (simp only [← hji10] <;> (first | rfl | simp)) | (simp [*]; done), by repeat (first | exact ddR _ | apply ddS)⟩
         ·
          rw [if_neg c18] at H
          have c18b0 : decide (9223372036854775808 ≤ t175) = false := decide_eq_false c18
          clear c18
          have H' := Aside0.mk H
          clear H
          go_wp2
          repeat (go_quiet (fail); try go_wp2)
          go_meet
          case rel => exact ⟨_, (IntKind.u64.wrap (t175 + 1)), (by first | rfl | (simp; done) | (simp [*]; done)), H', ⟨by have := HJ3.out; first | omega | exact Nat.le_refl _⟩, by repeat (first | exact ddR _ | apply ddS)⟩
        ·
         rw [if_neg c17] at H
         have c17b0 : decide (0 < t176) = false := decide_eq_false c17
         clear c17
         (first | rw [c17b0] | (simp only [i64_w, i32_w]; rw [c17b0]) | skip)
         have H' := Aside0.mk H
         clear H
         go_wp2
         repeat (go_quiet (fail); try go_wp2)
         go_meet
         case rel => exact ⟨_, (t175), (by first | rfl | (simp; done) | (simp [*]; done)), H', ⟨by have := HJ3.out; first | omega | exact Nat.le_refl _⟩, by repeat (first | exact ddR _ | apply ddS)⟩
       case rest =>
        clear HC16
        try clear c1
        try clear p2
        try clear c3
        try clear c6
        try clear p6
        try clear c7
        try clear c9
        try clear c9b0
        try clear c9b1
        try clear c13
        try clear c13b0
        try clear c15
        try clear c15b0
        try clear c15b1
        try clear c15b2
        try clear c17
        try clear c17b0
        try clear c18
        try clear c18b0
        try clear p2
        obtain ⟨kq, x10_15, rfl, HA, HJ15, ⟨mc15, rfl⟩⟩ := hcut
        cases kq with
        | zero => exact absurd HA.out (by simp [fix_DivP.j1])
        | succ kj15 =>
         have H := HA.out
         clear HA
         simp only [fix_DivP.j1] at H
         by_cases c19 : x10_15 > 9223372036854775808
         ·
          rw [if_pos c19] at H
          have c19b0 : decide (9223372036854775808 < x10_15) = true := decide_eq_true c19
          clear c19
          simp only [Option.some.injEq, Prod.mk.injEq] at H
          obtain ⟨rfl, rfl⟩ := H
          go_wp2
          repeat (go_quiet (fail); try go_wp2)
          go_ret2
          exact ⟨by first | rfl | (simp; done) | (simp only [← hji10] <;> (first | rfl | simp)) | (simp [*]; done), by repeat (first | exact ddR _ | apply ddS)⟩
         ·
          rw [if_neg c19] at H
          have c19b0 : decide (9223372036854775808 < x10_15) = false := decide_eq_false c19
          clear c19
          simp only [Option.some.injEq, Prod.mk.injEq] at H
          obtain ⟨rfl, rfl⟩ := H
          go_wp2
          repeat (go_quiet (fail); try go_wp2)
          go_ret2
          exact ⟨by first | rfl | (simp; done) | (simp only [← hji10] <;> (first | rfl | simp)) | (simp [*]; done), by repeat (first | exact ddR _ | apply ddS)⟩
      ·
       rw [if_neg c15] at H
       have c15b0 : ((decide (a0 < 0)) != (decide (a1 < 0))) = false := by simpa using c15
       (try (have c15b1 : decide ((decide (a0 < 0)) = (decide (a1 < 0))) = true := by simpa using c15))
       (try (have c15b2 : ((decide (a0 < 0)) == (decide (a1 < 0))) = true := by simpa using c15))
       clear c15
       by_cases c20 : t175 > 9223372036854775807
       ·
        rw [if_pos c20] at H
        have c20b0 : decide (9223372036854775807 < t175) = true := decide_eq_true c20
        clear c20
        simp only [Option.some.injEq, Prod.mk.injEq] at H
        obtain ⟨rfl, rfl⟩ := H
        go_wp2_with (first | (go_at_call 84; (with_reducible refine (fix_size.calls a0 t171 _ A8.out).mono ?_); rintro e w' ⟨rfl, ⟨nd, rfl⟩⟩; (try first | exact ⟨rfl, _, wwN _ _ _⟩ | exact ⟨rfl, _, ww3 _ _ _ _⟩)) | (go_at_call 82; (with_reducible refine (bits_Mul64.calls t171 ji10 t172 t173 _ A11.out).mono ?_); rintro e w' ⟨rfl, ⟨nd, rfl⟩⟩; (try first | exact ⟨rfl, _, wwN _ _ _⟩ | exact ⟨rfl, _, ww3 _ _ _ _⟩)) | (go_at_call 84; (with_reducible refine (fix_size.calls a1 t174 _ A12.out).mono ?_); rintro e w' ⟨rfl, ⟨nd, rfl⟩⟩; (try first | exact ⟨rfl, _, wwN _ _ _⟩ | exact ⟨rfl, _, ww3 _ _ _ _⟩)) | (go_at_call 85; (with_reducible refine (bits_Div64.calls t172 t173 t174 t175 t176 _ A14.out).mono ?_); rintro e w' ⟨rfl, ⟨nd, rfl⟩⟩; (try first | exact ⟨rfl, _, wwN _ _ _⟩ | exact ⟨rfl, _, ww3 _ _ _ _⟩)))
        repeat (go_quiet (first | (go_at_call 84; (with_reducible refine (fix_size.calls a0 t171 _ A8.out).mono ?_); rintro e w' ⟨rfl, ⟨nd, rfl⟩⟩; (try first | exact ⟨rfl, _, wwN _ _ _⟩ | exact ⟨rfl, _, ww3 _ _ _ _⟩)) | (go_at_call 82; (with_reducible refine (bits_Mul64.calls t171 ji10 t172 t173 _ A11.out).mono ?_); rintro e w' ⟨rfl, ⟨nd, rfl⟩⟩; (try first | exact ⟨rfl, _, wwN _ _ _⟩ | exact ⟨rfl, _, ww3 _ _ _ _⟩)) | (go_at_call 84; (with_reducible refine (fix_size.calls a1 t174 _ A12.out).mono ?_); rintro e w' ⟨rfl, ⟨nd, rfl⟩⟩; (try first | exact ⟨rfl, _, wwN _ _ _⟩ | exact ⟨rfl, _, ww3 _ _ _ _⟩)) | (go_at_call 85; (with_reducible refine (bits_Div64.calls t172 t173 t174 t175 t176 _ A14.out).mono ?_); rintro e w' ⟨rfl, ⟨nd, rfl⟩⟩; (try first | exact ⟨rfl, _, wwN _ _ _⟩ | exact ⟨rfl, _, ww3 _ _ _ _⟩))); try go_wp2_with (first | (go_at_call 84; (with_reducible refine (fix_size.calls a0 t171 _ A8.out).mono ?_); rintro e w' ⟨rfl, ⟨nd, rfl⟩⟩; (try first | exact ⟨rfl, _, wwN _ _ _⟩ | exact ⟨rfl, _, ww3 _ _ _ _⟩)) | (go_at_call 82; (with_reducible refine (bits_Mul64.calls t171 ji10 t172 t173 _ A11.out).mono ?_); rintro e w' ⟨rfl, ⟨nd, rfl⟩⟩; (try first | exact ⟨rfl, _, wwN _ _ _⟩ | exact ⟨rfl, _, ww3 _ _ _ _⟩)) | (go_at_call 84; (with_reducible refine (fix_size.calls a1 t174 _ A12.out).mono ?_); rintro e w' ⟨rfl, ⟨nd, rfl⟩⟩; (try first | exact ⟨rfl, _, wwN _ _ _⟩ | exact ⟨rfl, _, ww3 _ _ _ _⟩)) | (go_at_call 85; (with_reducible refine (bits_Div64.calls t172 t173 t174 t175 t176 _ A14.out).mono ?_); rintro e w' ⟨rfl, ⟨nd, rfl⟩⟩; (try first | exact ⟨rfl, _, wwN _ _ _⟩ | exact ⟨rfl, _, ww3 _ _ _ _⟩))))
        go_ret2
        exact ⟨by first | rfl | (simp; done) | (simp only [← hji10] <;> (first | rfl | simp)) | (simp [*]; done), by repeat (first | exact ddR _ | apply ddS)⟩
       ·
        rw [if_neg c20] at H
        have c20b0 : decide (9223372036854775807 < t175) = false := decide_eq_false c20
        clear c20
        simp only [Option.some.injEq, Prod.mk.injEq] at H
        obtain ⟨rfl, rfl⟩ := H
        go_wp2_with (first | (go_at_call 84; (with_reducible refine (fix_size.calls a0 t171 _ A8.out).mono ?_); rintro e w' ⟨rfl, ⟨nd, rfl⟩⟩; (try first | exact ⟨rfl, _, wwN _ _ _⟩ | exact ⟨rfl, _, ww3 _ _ _ _⟩)) | (go_at_call 82; (with_reducible refine (bits_Mul64.calls t171 ji10 t172 t173 _ A11.out).mono ?_); rintro e w' ⟨rfl, ⟨nd, rfl⟩⟩; (try first | exact ⟨rfl, _, wwN _ _ _⟩ | exact ⟨rfl, _, ww3 _ _ _ _⟩)) | (go_at_call 84; (with_reducible refine (fix_size.calls a1 t174 _ A12.out).mono ?_); rintro e w' ⟨rfl, ⟨nd, rfl⟩⟩; (try first | exact ⟨rfl, _, wwN _ _ _⟩ | exact ⟨rfl, _, ww3 _ _ _ _⟩)) | (go_at_call 85; (with_reducible refine (bits_Div64.calls t172 t173 t174 t175 t176 _ A14.out).mono ?_); rintro e w' ⟨rfl, ⟨nd, rfl⟩⟩; (try first | exact ⟨rfl, _, wwN _ _ _⟩ | exact ⟨rfl, _, ww3 _ _ _ _⟩)))
        repeat (go_quiet (first | (go_at_call 84; (with_reducible refine (fix_size.calls a0 t171 _ A8.out).mono ?_); rintro e w' ⟨rfl, ⟨nd, rfl⟩⟩; (try first | exact ⟨rfl, _, wwN _ _ _⟩ | exact ⟨rfl, _, ww3 _ _ _ _⟩)) | (go_at_call 82; (with_reducible refine (bits_Mul64.calls t171 ji10 t172 t173 _ A11.out).mono ?_); rintro e w' ⟨rfl, ⟨nd, rfl⟩⟩; (try first | exact ⟨rfl, _, wwN _ _ _⟩ | exact ⟨rfl, _, ww3 _ _ _ _⟩)) | (go_at_call 84; (with_reducible refine (fix_size.calls a1 t174 _ A12.out).mono ?_); rintro e w' ⟨rfl, ⟨nd, rfl⟩⟩; (try first | exact ⟨rfl, _, wwN _ _ _⟩ | exact ⟨rfl, _, ww3 _ _ _ _⟩)) | (go_at_call 85; (with_reducible refine (bits_Div64.calls t172 t173 t174 t175 t176 _ A14.out).mono ?_); rintro e w' ⟨rfl, ⟨nd, rfl⟩⟩; (try first | exact ⟨rfl, _, wwN _ _ _⟩ | exact ⟨rfl, _, ww3 _ _ _ _⟩))); try go_wp2_with (first | (go_at_call 84; (with_reducible refine (fix_size.calls a0 t171 _ A8.out).mono ?_); rintro e w' ⟨rfl, ⟨nd, rfl⟩⟩; (try first | exact ⟨rfl, _, wwN _ _ _⟩ | exact ⟨rfl, _, ww3 _ _ _ _⟩)) | (go_at_call 82; (with_reducible refine (bits_Mul64.calls t171 ji10 t172 t173 _ A11.out).mono ?_); rintro e w' ⟨rfl, ⟨nd, rfl⟩⟩; (try first | exact ⟨rfl, _, wwN _ _ _⟩ | exact ⟨rfl, _, ww3 _ _ _ _⟩)) | (go_at_call 84; (with_reducible refine (fix_size.calls a1 t174 _ A12.out).mono ?_); rintro e w' ⟨rfl, ⟨nd, rfl⟩⟩; (try first | exact ⟨rfl, _, wwN _ _ _⟩ | exact ⟨rfl, _, ww3 _ _ _ _⟩)) | (go_at_call 85; (with_reducible refine (bits_Div64.calls t172 t173 t174 t175 t176 _ A14.out).mono ?_); rintro e w' ⟨rfl, ⟨nd, rfl⟩⟩; (try first | exact ⟨rfl, _, wwN _ _ _⟩ | exact ⟨rfl, _, ww3 _ _ _ _⟩))))
        go_ret2
        exact ⟨by first | rfl | (simp; done) | (simp only [← hji10] <;> (first | rfl | simp)) | (simp [*]; done), by repeat (first | exact ddR _ | apply ddS)⟩
    ·
     rw [if_neg c9] at H
     exact absurd H (by simp)

def fix_Div.f (a0 a1 a2 : Int) : Option (Int × Int) := if I64 a0 ∧ I64 a1 then some (divF a0 a1 a2) else none
theorem fix_Div.of (a0 a1 a2 : Int)  (h_ : I64 a0 ∧ I64 a1) : fix_Div.f a0 a1 a2 = some (divF a0 a1 a2) := if_pos h_
theorem fix_DivP.spec {a0 a1 a2 : Int} (h0 : I64 a0) (h1 : I64 a1) : fix_DivP.f 3 a0 a1 a2 = some (divF a0 a1 a2) := by
  unfold fix_DivP.f fix_behind.f divF
  simp only [Option.bind_some]
  by_cases c : a2 < 0 ∨ a2 > 30 ∨ a1 = 0
  · rw [if_pos c]
    by_cases c2 : 0 ≤ a2 ∧ a2 ≤ 30
    · rw [if_pos (by simpa using c2), show (3 : Nat) = 2 + 1 from rfl, fix_DivP.j0, if_pos (by simp; omega)]
    · rw [if_neg (by simpa using c2), show (3 : Nat) = 2 + 1 from rfl, fix_DivP.j0, if_pos rfl]
  · rw [if_neg c, if_pos (by simp; omega), show (3 : Nat) = 2 + 1 from rfl, fix_DivP.j0, if_neg (by simp; omega)]
    unfold fix_size.f
    rw [if_pos h0, if_pos h1]
    simp only [Option.bind_some]
    rw [if_pos (by omega)]
    have hp : (0 : Int) < 2 ^ a2.toNat := Int.pow_pos (by omega)
    have hp30 : (2 : Int) ^ a2.toNat ≤ 1073741824 := by
      have : (2 : Nat) ^ a2.toNat ≤ 2 ^ 30 := Nat.pow_le_pow_right (by omega) (by omega)
      have e : ((2 ^ a2.toNat : Nat) : Int) = (2 : Int) ^ a2.toNat := by simp
      omega
    have hs : shl .u64 1 a2 = 2 ^ a2.toNat := by
      unfold shl; rw [show min a2.toNat IntKind.u64.bits = a2.toNat from by show min a2.toNat 64 = _; omega, wu]; omega
    rw [hs]
    obtain ⟨P, hP⟩ : ∃ P : Int, P = 2 ^ a2.toNat := ⟨_, rfl⟩
    rw [← hP] at hp hp30 ⊢
    unfold I64 at h0 h1
    unfold bits_Mul64.f
    rw [if_pos ⟨by unfold U64; omega, by unfold U64; omega⟩]
    simp only [Option.bind_some]
    obtain ⟨X, hX⟩ : ∃ X : Int, X = (a0.natAbs : Int) * P := ⟨_, rfl⟩
    rw [← hX]
    have hX0 : 0 ≤ X := by rw [hX]; exact Int.mul_nonneg (by omega) (by omega)
    have haX : a0 * P = if a0 < 0 then -X else X := by
      split
      · rw [hX, show (a0.natAbs : Int) = -a0 by omega]; grind
      · rw [hX, show (a0.natAbs : Int) = a0 by omega]
    have hb : 0 < (a1.natAbs : Int) := by omega
    obtain ⟨b, hb'⟩ : ∃ b : Int, b = (a1.natAbs : Int) := ⟨_, rfl⟩
    rw [← hb'] at hb ⊢
    have hq : divQ (a0 * P) a1 = if (a0 < 0) = (a1 < 0) then X / b else (-X) / b := by
      unfold divQ
      rw [haX]
      by_cases ca : a0 < 0 <;> by_cases cb : a1 < 0 <;> simp only [ca, cb, if_true, if_false]
      · rw [if_neg (by omega), show -a1 = b by omega]; simp
      · rw [if_pos (by omega), show a1 = b by omega]; try simp
      · rw [if_neg (by omega), show -a1 = b by omega]; try simp
      · rw [if_pos (by omega), show a1 = b by omega]; try simp
    rw [hq]
    have hdm := Int.emod_add_mul_ediv X b
    have hm0 := Int.emod_nonneg X (show b ≠ 0 by omega)
    have hm1 := Int.emod_lt_of_pos X hb
    have hneg := neg_div X hb
    have hqn := Int.ediv_nonneg hX0 (Int.le_of_lt hb)
    by_cases co : X / 18446744073709551616 ≥ b
    · rw [if_pos co]
      have hbig : 18446744073709551616 ≤ X / b := by
        rw [Int.le_ediv_iff_mul_le hb]; omega
      rw [res_not (by unfold I64; rw [hneg]; split <;> (try split) <;> omega)]
    · rw [if_neg co]
      unfold bits_Div64.f
      have hXb : X / 18446744073709551616 * 18446744073709551616 + X % 18446744073709551616 = X := by omega
      rw [if_pos ⟨by unfold U64; omega, by unfold U64; omega, by unfold U64; omega, by omega⟩, hXb]
      simp only [Option.bind_some]
      generalize X / b = q at *
      generalize X % b = l at *
      by_cases cs : (a0 < 0) = (a1 < 0)
      · rw [if_neg (by simp [cs]), if_pos cs]
        by_cases ci : q > 9223372036854775807
        · rw [if_pos ci, res_not (by unfold I64; omega)]
        · rw [if_neg ci, res_of (by unfold I64; omega), wrap64_of (by unfold I64; omega)]
      · rw [if_pos (by simpa using cs), if_neg cs, hneg]
        by_cases cl : l > 0
        · rw [if_pos cl, if_pos cl]
          by_cases ci : q ≥ 9223372036854775808
          · rw [if_pos ci, res_not (by unfold I64; omega)]
          · rw [if_neg ci, show (2 : Nat) = 1 + 1 from rfl, fix_DivP.j1, res_of (by unfold I64; omega)]
            simp only [wu, wrap64_def]
            rw [if_neg (by omega)]
            simp only [Option.some.injEq, Prod.mk.injEq, and_true]; omega
        · rw [if_neg cl, if_neg cl, show (2 : Nat) = 1 + 1 from rfl, fix_DivP.j1]
          by_cases ci : q > 9223372036854775808
          · rw [if_pos ci, res_not (by unfold I64; omega)]
          · rw [if_neg ci, res_of (by unfold I64; omega)]
            simp only [wu, wrap64_def, Option.some.injEq, Prod.mk.injEq, and_true]; omega
theorem fix_Div.calls (a0 : Int) (a1 : Int) (a2 : Int) (r1 : Int) (r2 : Int) (w : World) (h : fix_Div.f a0 a1 a2 = some (r1, r2)) :
    Calls Try.prog 77 #[.int .i64 a0, .int .i64 a1, .int .i64 a2] w fun e w' => e = .returned (.tuple #[.int .i64 r1, .int .i64 r2]) ∧ Drawn0 w w' := by
  unfold fix_Div.f at h
  split at h
  · rename_i hu
    exact fix_DivP.calls 3 a0 a1 a2 r1 r2 w ((fix_DivP.spec hu.1 hu.2).trans h)
  · cases h


/-! ### fix_QuotP: function 62 -/
def fix_QuotP.f (a0 : Int) (a1 : Int) : Option (Int × Int) := (fix_Div.f a0 a1 0).bind fun bt177 => (some (bt177.1, bt177.2))
set_option maxHeartbeats 8000000 in
set_option maxRecDepth 100000 in
theorem fix_QuotP.calls (a0 : Int) (a1 : Int) (r1 : Int) (r2 : Int) (w : World) (h : fix_QuotP.f a0 a1 = some (r1, r2)) :
  Calls Try.prog 62 #[.int .i64 a0, .int .i64 a1] w fun e w' => e = .returned (.tuple #[.int .i64 r1, .int .i64 r2]) ∧ Drawn0 w w' := by
 have H : ((fix_Div.f a0 a1 0).bind fun bt177 => (some (bt177.1, bt177.2))) = some (r1, r2) := h
 clear h
 replace H := Option.bind_eq_some_iff.mp H
 obtain ⟨⟨t177, t178⟩, A30, H⟩ := H
 replace H : (some (t177, t178)) = some (r1, r2) := H
 have A3 := Aside0.mk A30
 clear A30
 simp only [Option.some.injEq, Prod.mk.injEq] at H
 obtain ⟨rfl, rfl⟩ := H
 go_enter Try.func62, Try.ntmps62
 go_wp2_with (first | ((with_reducible refine gate_callee (f := 77) rfl ?_); refine goesL_ (some 8) rfl rfl Try.func77 (by kernel_rfl) rfl #[.int .i64 a0, .int .i64 a1, .int .i64 0] rfl (by (try simp only [List.map_toArray, List.map_cons, List.map_nil]); first | done | rfl | (simp only [List.length_drop, List.length_take]; rfl)) ?_; (with_reducible refine (fix_Div.calls a0 a1 0 t177 t178 _ A3.out).mono ?_); rintro e w' ⟨rfl, ⟨nd, rfl⟩⟩; refine ⟨_, rfl, ?_⟩))
 go_ret2
 exact ⟨by first | rfl | (simp; done) | (simp [*]; done), by repeat (first | exact ddR _ | apply ddS)⟩

def fix_Quot.f (a0 a1 : Int) : Option (Int × Int) := if I64 a0 ∧ I64 a1 then some (divF a0 a1 0) else none
theorem fix_Quot.of (a0 a1 : Int)  (h_ : I64 a0 ∧ I64 a1) : fix_Quot.f a0 a1 = some (divF a0 a1 0) := if_pos h_
theorem fix_Quot.calls (a0 : Int) (a1 : Int) (r1 : Int) (r2 : Int) (w : World) (h : fix_Quot.f a0 a1 = some (r1, r2)) :
    Calls Try.prog 62 #[.int .i64 a0, .int .i64 a1] w fun e w' => e = .returned (.tuple #[.int .i64 r1, .int .i64 r2]) ∧ Drawn0 w w' := by
  unfold fix_Quot.f at h
  split at h
  · rename_i hu
    refine fix_QuotP.calls a0 a1 r1 r2 w (Eq.trans ?_ h)
    unfold fix_QuotP.f fix_Div.f
    rw [if_pos hu]; simp
  · cases h


/-! ### linear_Mean: function 46 -/
def linear_Mean.f (a0 : Int) (l1 : List (List Int)) : Option (List Int × Int) := if I64 a0 ∧ (∀ v ∈ l1, V64 v) ∧ fewV l1 = true then some (meanL a0 l1) else none
theorem linear_Mean.of (a0 : Int) (l1 : List (List Int)) (h : I64 a0 ∧ (∀ v ∈ l1, V64 v) ∧ fewV l1 = true) : linear_Mean.f a0 l1 = some (meanL a0 l1) := if_pos h
set_option maxHeartbeats 4000000 in
set_option maxRecDepth 100000 in
theorem linear_Mean.calls (a0 : Int) (A1 : Option Addr) (c1 : Nat) (l1 : List (List Int)) (r1 : List Int) (r2 : Int) (w : World) (hr1 : Kd.C (Kd.slice 2 (Kd.int .i64)) w A1 l1.length l1) (hc1 : l1.length ≤ c1) (h : linear_Mean.f a0 l1 = some (r1, r2)) :
    Calls Try.prog 46 #[.int .i64 a0, .slice A1 l1.length c1] w fun e w' => ∃ v0_ : Value, e = .returned (.tuple #[v0_, .int .i64 r2]) ∧ Kd.R (Kd.int .i64) 2 w' w.heap.size (fun _ => True) v0_ r1 ∧ Below w.heap.size w w' := by
  unfold linear_Mean.f at h
  split at h
  case isFalse => cases h
  rename_i hv
  have h := Option.some.inj h
  have HV := Aside0.mk hv
  clear hv
  unfold meanL at h
  have HR1 := Aside0.mk hr1
  have HC1 := Aside0.mk hc1
  clear hr1 hc1
  by_cases c : a0 < 1
  · rw [if_pos c] at h
    cases h
    have cb : decide (a0 < 1) = true := decide_eq_true c
    clear c
    go_enter Try.func46, Try.ntmps46
    go_wp2
    go_ret2
    exact ⟨_, rfl, Kd.R_nil _ _ _ _ _, by repeat (first | exact Below.refl _ _ | apply zzN)⟩
  · rw [if_neg c] at h
    have cb : decide (a0 < 1) = false := decide_eq_false c
    clear c
    obtain ⟨⟨t, e⟩, ht⟩ : ∃ p, sumsV l1 = p := ⟨_, rfl⟩
    have hlen := sumsV_lle l1
    have hv64 := sumsV_v64 l1 HV.out.2.1
    rw [ht] at h hlen hv64
    simp only [] at h hlen hv64
    have HL := Aside0.mk hlen
    have HT := Aside0.mk hv64
    have A4 : Aside0 (vec_Sum.f l1 = some (t, e)) := ⟨(show vec_Sum.f l1 = some (sumsV l1) from if_pos HV.out.2).trans (congrArg some ht)⟩
    clear hlen hv64 ht
    by_cases he : e = 0
    · rw [if_pos he] at h
      subst he
      rw [← seqFrom_start] at h
      have HG := Aside0.mk h
      clear h
      go_enter Try.func46, Try.ntmps46
      go_wp2_with (go_at_call 61; (with_reducible refine (vec_Sum.calls A1 c1 l1 t 0 _ HR1.out HC1.out A4.out).mono ?_); rintro ed W1 ⟨v_, rfl, hR, hb⟩; have HO := Aside0.mk (Kd.R_lower hR (Nat.le_refl _)); have HB := Aside0.mk hb; clear hR hb; obtain ⟨Ao, co, eo⟩ := Kd.R_slice HO.out; subst eo)
      go_loopw [22] (fun i W => ∃ (k : Nat) (acc : List Int), i = .int .i64 k ∧ Aside0 (k ≤ t.length) ∧ Aside0 (acc.length = k) ∧ Aside0 (seqFrom (fun x => divF x a0 0) (t.drop k) acc = (r1, r2)) ∧ Aside0 (Kd.R (Kd.int .i64) 2 W w.heap.size (fun _ => True) (.slice Ao t.length co) (acc ++ t.drop k)) ∧ Aside0 (Below w.heap.size w W)) (fun i _ => t.length - (intOf i).toNat)
      case atStart => exact ⟨0, [], rfl, ⟨Nat.zero_le _⟩, ⟨rfl⟩, ⟨by rw [List.drop_zero]; exact HG.out⟩, ⟨by rw [List.drop_zero, List.nil_append]; exact HO.out⟩, HB⟩
      case round =>
        obtain ⟨k, acc, rfl, ⟨hk⟩, ⟨hacc⟩, ⟨hgo⟩, HO, HB⟩ := hrel
        clear HG
        by_cases hlt : k < t.length
        · obtain ⟨g, hg⟩ : ∃ g, Ao = some ⟨g, 0, none⟩ := by
            have hx := HO.out
            obtain ⟨g, cap, he, _⟩ := Kd.R_form hx (by rw [List.length_append, List.length_drop]; omega)
            injection he with h1 _ _
            exact ⟨g, h1⟩
          subst hg
          have hrd : rd (acc ++ t.drop k) (k : Int) = rd t k := by
            rw [rd_nat hlt, rd_nat (by rw [List.length_append, List.length_drop]; omega), List.getElem_append_right (by omega)]
            simp [hacc]
          have hcell := (Kd.R_celln 0 HO.out (k : Int) (by omega) (by omega)).1
          have hfr := (Kd.R_celln 0 HO.out (k : Int) (by omega) (by omega)).2
          rw [show rdOf 0 (acc ++ t.drop k) (k : Int) = rd t k from hrd] at hcell
          simp only [Int.toNat_natCast] at hcell hfr
          rw [List.drop_eq_getElem_cons hlt] at hgo
          obtain ⟨⟨q, f⟩, hq⟩ : ∃ p, divF (rd t k) a0 0 = p := ⟨_, rfl⟩
          have HA : Aside0 (fix_Quot.f (rd t k) a0 = some (q, f)) := ⟨(fix_Quot.of _ _ ⟨HT.out.rd _, HV.out.1⟩).trans (congrArg some hq)⟩
          have e1 : t[k] = rd t k := (rd_nat hlt).symm
          have hset : (acc ++ t.drop k).set k q = (acc ++ [q]) ++ t.drop (k + 1) := by
            rw [List.set_append_right _ _ (by omega), hacc, Nat.sub_self, List.drop_eq_getElem_cons hlt, List.set_cons_zero]
            simp
          have HS := Aside0.mk hset
          have HKL := Aside0.mk hacc
          have HLT := Aside0.mk hlt
          clear hset hrd hacc hk
          by_cases hf : f = 0
          · rw [seqFrom_ok (g := fun x => divF x a0 0) (by rw [e1, hq]; exact hf), e1, hq] at hgo
            subst hf
            have HG := Aside0.mk hgo
            clear hgo hq e1
            go_wp2_with (go_at_call 62; (with_reducible refine (fix_Quot.calls (rd t k) a0 q 0 _ HA.out).mono ?_); rintro ed W2 ⟨rfl, ⟨nd, rfl⟩⟩)
            have hp := (Kd.R_putg (rrN HO.out nd) (k : Int) q).1
            simp only [Int.toNat_natCast] at hp
            rw [HS.out] at hp
            have hL := HL.out
            exact ⟨⟨k + 1, acc ++ [q], by rw [wrap64_of (show I64 ((k : Int) + 1) by unfold I64; omega)]; rfl, ⟨HLT.out⟩, ⟨by have := HKL.out; simp; omega⟩, HG, ⟨hp⟩, ⟨(zzN HB.out _).setCell (by obtain ⟨_, _, he, hb, _⟩ := Kd.R_form HO.out (by have := HKL.out; have := HLT.out; rw [List.length_append, List.length_drop]; omega); injection he with h1 _ _; injection h1 with h1; injection h1 with h1 _ _; show w.heap.size ≤ g; rw [h1]; exact hb) _⟩⟩, by rw [wrap64_of (show I64 ((k : Int) + 1) by unfold I64; omega)]; simp [intOf]; omega⟩
          · rw [seqFrom_bad (g := fun x => divF x a0 0) (by rw [e1, hq]; exact hf), e1, hq] at hgo
            obtain ⟨h1, h2⟩ : [] = r1 ∧ f = r2 := by cases hgo; exact ⟨rfl, rfl⟩
            clear hgo
            subst h1
            subst h2
            have he0 : (f == 0) = false := beq_eq_false_iff_ne.2 hf
            have he1 : (f != 0) = true := bne_iff_ne.2 hf
            clear hf hq e1
            go_wp2_with (go_at_call 62; (with_reducible refine (fix_Quot.calls (rd t k) a0 q f _ HA.out).mono ?_); rintro ed W2 ⟨rfl, ⟨nd, rfl⟩⟩)
            go_ret2
            exact ⟨_, rfl, Kd.R_nil _ _ _ _ _, (zzN HB.out _).setCell (by obtain ⟨_, _, he, hb, _⟩ := Kd.R_form HO.out (by have := HKL.out; have := HLT.out; rw [List.length_append, List.length_drop]; omega); injection he with h1 _ _; injection h1 with h1; injection h1 with h1 _ _; show w.heap.size ≤ g; rw [h1]; exact hb) _⟩
        · have hkn : k = t.length := by omega
          rw [hkn, List.drop_length, seqFrom_nil] at hgo
          cases hgo
          have HO2 := HO.out
          rw [hkn, List.drop_length, List.append_nil] at HO2
          have HO3 := Aside0.mk HO2
          subst hkn
          clear HO2 HO hk
          go_wp2
          go_ret2
          exact ⟨_, rfl, HO3.out, HB.out⟩
    · rw [if_neg he] at h
      obtain ⟨h1, h2⟩ : r1 = [] ∧ r2 = e := by cases h; exact ⟨rfl, rfl⟩
      rw [h1, h2]
      clear h h1 h2
      have he0 : (e == 0) = false := beq_eq_false_iff_ne.2 he
      have he1 : (e != 0) = true := bne_iff_ne.2 he
      clear he
      go_enter Try.func46, Try.ntmps46
      go_wp2_with (go_at_call 61; (with_reducible refine (vec_Sum.calls A1 c1 l1 t e _ HR1.out HC1.out A4.out).mono ?_); rintro ed W1 ⟨v_, rfl, hR, hb⟩; have HO := Aside0.mk (Kd.R_lower hR (Nat.le_refl _)); have HB := Aside0.mk hb; clear hR hb; obtain ⟨Ao, co, eo⟩ := Kd.R_slice HO.out; subst eo)
      go_ret2
      exact ⟨_, rfl, Kd.R_nil _ _ _ _ _, HB.out⟩


/-! ### mlp_Grad: function 27 -/
def mlp_Grad.f (a0 : Int) (l1 : List Int) (a2 : Int) (l3 : List S26) : Option (List Int × Int) := if V64 l1 ∧ (∀ s ∈ l3, V64 s.f0 ∧ I64 s.f1) then some (gradM a0 l1 a2 (l3.map sm)) else none
theorem mlp_Grad.of (a0 : Int) (l1 : List Int) (a2 : Int) (l3 : List S26)  (h_ : V64 l1 ∧ (∀ s ∈ l3, V64 s.f0 ∧ I64 s.f1)) : mlp_Grad.f a0 l1 a2 l3 = some (gradM a0 l1 a2 (l3.map sm)) := if_pos h_
theorem rowsM_sm (G : List Int → Int → List Int × Int) : ∀ l : List S26, rowsL (fun s : List Int × Int => G s.1 s.2) (l.map sm) = rowsL (fun s : S26 => G s.f0 s.f1) l
  | [] => rfl
  | x :: l => by simp only [List.map_cons, rowsL, rowsM_sm G l, sm]
set_option maxHeartbeats 8000000 in
set_option maxRecDepth 100000 in
theorem mlp_Grad.calls (a0 : Int) (A1 : Option Addr) (c1 : Nat) (l1 : List Int) (a2 : Int) (A3 : Option Addr) (c3 : Nat) (l3 : List (S26)) (r1 : List Int) (r2 : Int) (w : World) (hr1 : Kd.C (Kd.int .i64) w A1 l1.length l1) (hc1 : l1.length ≤ c1) (hr3 : Kd.C k26 w A3 l3.length l3) (hc3 : l3.length ≤ c3) (h : mlp_Grad.f a0 l1 a2 l3 = some (r1, r2)) :
    Calls Try.prog 27 #[.int .i64 a0, .slice A1 l1.length c1, .int .i64 a2, .slice A3 l3.length c3] w fun e w' => ∃ v0_ : Value, e = .returned (.tuple #[v0_, .int .i64 r2]) ∧ Kd.R (Kd.int .i64) 2 w' w.heap.size (fun _ => True) v0_ r1 ∧ Below w.heap.size w w' := by
  unfold mlp_Grad.f at h
  split at h
  case isFalse => cases h
  rename_i hv
  have h := Option.some.inj h
  have hu54 := Try.underlying54
  have hu52 := Try.underlying52
  have hu26 := Try.underlying26
  have hu22 := Try.underlying22
  unfold gradM at h
  have HR3 := Aside0.mk hr3
  have HC3 := Aside0.mk hc3
  by_cases c : (splitM a0 l1).2.2 = 0
  · rw [if_neg (not_not_intro c)] at h
    obtain ⟨k, m, rfl, hk1, hk8, hm2, hm17, hkm, hlm, hs⟩ := splitM_good c
    obtain ⟨ad, rfl, _⟩ := hr1.2.2 (by omega)
    rw [hlm, hs] at h
    dsimp only at h
    rw [rowsM_sm (fun x y => bendN (rowsM k m l1) (l1.drop (k * m)) ((m : Int) - 1) x y a2), List.length_map] at h
    have hac : mlp_Check.f ((m : Int) - 1) k l1 l3 = some (checkM ((m : Int) - 1) k l1 (l3.map sm)) := rfl
    have hcf := @checkM_few ((m : Int) - 1) k l1 (l3.map sm)
    rw [List.length_map] at hcf
    generalize checkM ((m : Int) - 1) k l1 (l3.map sm) = ce at h hac hcf
    have AC := Aside0.mk hac
    have HSP := Aside0.mk (mlp_split.good k m ad c1 l1 w hk1 hk8 hm2 hm17 hkm hr1 hc1)
    have HCD := Aside0.mk (drop_C (p := k * m) (by omega) hc1 hr1)
    have HCU := Aside0.mk (fun (W : World) (v : Value) (base : Nat) (hS : W.ownsRow base 22 1 v k (cutsM ad m k)) (hb : Below w.heap.size w W) => cuts_C (l := l1) (c := c1) (W := W) (v := v) (base := base) hS (by omega) (by omega) hc1 (Kd.C_below hr1 hb))
    have hld : (l1.drop (k * m)).length = k + 1 := by rw [List.length_drop]; omega
    have HBD := Aside0.mk (fun (Ar A : Option Addr) (cr cx : Nat) (x : List Int) (y : Int) (b1 : List Int) (b2 : Int) (W : World) h1 h3 h4 h5 h6 hab => mlp_net_bend.calls (some (ad.add (k * m))) (c1 - k * m) (l1.drop (k * m)) Ar cr (rowsM k m l1) ((m : Int) - 1) A cx x y a2 b1 b2 W h1 (by rw [hld]; omega) h3 h4 h5 h6 hab)
    have hrl : ((List.range k).map (Go.Proofs.Ytalamamjodihaaa.Sp.rowAt m l1)).length = k := by simp
    have hrm : rowsM k m l1 = (List.range k).map (Go.Proofs.Ytalamamjodihaaa.Sp.rowAt m l1) := rfl
    have HAB := Aside0.mk (fun (x : List Int) (y : Int) (hx : V64 x) (hy : I64 y) => mlp_net_bend.of (l1.drop (k * m)) (rowsM k m l1) ((m : Int) - 1) x y a2 ⟨v64_drop hv.1 _, hx, rowsM_v64 hv.1, by rw [rowsM_len, hld]; omega, by rw [rowsM_len]; exact hk8, hy⟩)
    have HFW := Aside0.mk (rowsM_few (g := fun s : S26 => bendN (rowsM k m l1) (l1.drop (k * m)) ((m : Int) - 1) s.f0 s.f1 a2) (fun s => bendN_few _ _ _ _ _ _ (by rw [rowsM_len]; exact hk8) (by omega)) l3)
    have HR1 := Aside0.mk hr1
    have HC1 := Aside0.mk hc1
    have HV3 := Aside0.mk hv.2
    rw [hrm] at HBD HAB HFW h
    rw [hld, hrl] at HBD
    rw [hld] at HCD
    simp only [hrl] at HCU
    generalize (List.range k).map (Go.Proofs.Ytalamamjodihaaa.Sp.rowAt m l1) = R0 at HBD HAB HFW HCU h
    generalize l1.drop (k * m) = L0 at HBD HAB HFW HCD h
    generalize hp : k * m = p at HBD HCD HSP
    clear hs hlm hld hrl hrm hkm hr1 hc1 hr3 hc3 c hv hac
    have SPL : True := trivial
    by_cases cc : ce = 0
    · rw [if_neg (not_not_intro cc)] at h
      have hl64 := hcf cc
      subst cc
      clear hcf
      go_enter Try.func27, Try.ntmps27
      go_wp2_with (first | (go_at_call 30; (with_reducible refine HSP.out.mono ?_); rintro e w1 ⟨v0, rfl, hS, hb⟩; have hcu := HCU.out w1 v0 w.heap.size hS hb; obtain ⟨Ar, cr, rfl, hcr, hCr⟩ := hcu; have HCR := Aside0.mk hCr; have HKR := Aside0.mk hcr; have HB := Aside0.mk hb; clear hS hb hCr hcr) | (go_at_call 25; (with_reducible refine (mlp_Check.calls ((m : Int) - 1) k (some ad) c1 l1 A3 c3 l3 0 _ (ccA (Kd.C_below HR1.out HB.out) _) HC1.out (ccA (Kd.C_below HR3.out HB.out) _) HC3.out AC.out).mono ?_); rintro e W1 ⟨rfl, hb2⟩; have HB1 := Aside0.mk hb2; have HBC := Aside0.mk (below_then (zzA HB.out _) (Nat.le_trans HB.out.size (by simp)) hb2); have BX1 := Aside0.mk (blk_below (blk_new w1 (Obj.cells #[.slice (some (ad.add p)) (k + 1) (c1 - p), .slice Ar k cr, .int .i64 ((m : Int) - 1)] 54)) hb2); clear hb2))
      have HL64 := Aside0.mk hl64
      obtain ⟨⟨q1, q2⟩, hq⟩ : ∃ q, rowsL (fun s : S26 => bendN R0 L0 ((m : Int) - 1) s.f0 s.f1 a2) l3 = q := ⟨_, rfl⟩
      have hfw := HFW.out
      rw [hq] at h hfw
      dsimp only at h hfw
      have HQ := Aside0.mk ((rowsFrom_start (fun s : S26 => bendN R0 L0 ((m : Int) - 1) s.f0 s.f1 a2) l3).trans (by rw [hq]))
      have HFQ := Aside0.mk hfw
      have HEND := Aside0.mk h
      have HCW1 := Aside0.mk (Kd.C_below (ccA HCR.out (Obj.cells #[.slice (some (ad.add p)) (k + 1) (c1 - p), .slice Ar k cr, .int .i64 ((m : Int) - 1)] 54)) HB1.out)
      clear h hfw hq hl64
      go_loopw [12, 36] (fun v i W => ∃ (j : Nat) (acc : List (List Int)), i = .int .i64 j ∧ Aside0 (j ≤ l3.length) ∧ Aside0 (acc.length = j) ∧ Aside0 (rowsFrom (fun s : S26 => bendN R0 L0 ((m : Int) - 1) s.f0 s.f1 a2) (l3.drop j) acc = (q1, q2)) ∧ Aside0 (Kd.S (Kd.slice 2 (Kd.int .i64)) 22 W W1.heap.size (fun _ => True) v acc) ∧ Aside0 (Below W1.heap.size W1 W)) (fun _ i _ => l3.length - (intOf i).toNat)
      case atStart => exact ⟨0, [], rfl, ⟨Nat.zero_le _⟩, ⟨rfl⟩, ⟨by rw [List.drop_zero]; exact HQ.out⟩, ⟨Kd.S_nil _ _ _ _ _⟩, ⟨Below.refl _ _⟩⟩
      case round =>
        obtain ⟨j, acc, rfl, ⟨hj⟩, ⟨hal⟩, ⟨hgo⟩, HS, HBW⟩ := hrel
        obtain ⟨As, cs, es⟩ := Kd.S_slice HS.out
        subst es
        have HBR := Aside0.mk (below_then HBC.out HBC.out.size HBW.out)
        have HAL := Aside0.mk hal
        by_cases hlt : j < l3.length
        · obtain ⟨ad3, A, cx, rfl, hx0, hx1, hl, hi⟩ := at_T26 HR3.out (j : Int) (by omega) (by omega)
          obtain ⟨x, hx⟩ : ∃ x, rd_T26 l3 (j : Int) = x := ⟨_, rfl⟩
          have hmem : l3[j] = x := (rd_sm hlt).symm.trans hx
          rw [hx] at hx0 hx1 hl hi
          simp only [Int.toNat_natCast] at hx0 hx1
          replace hx0 := (HBR.out.cell (World.block_lt_of_cell? _ _ hx0)).trans hx0
          replace hx1 := (HBR.out.cell (World.block_lt_of_cell? _ _ hx1)).trans hx1
          have hxv := HV3.out x (hmem ▸ List.getElem_mem hlt)
          rw [List.drop_eq_getElem_cons hlt, hmem] at hgo
          obtain ⟨⟨b1, b2⟩, hb12⟩ : ∃ q, bendN R0 L0 ((m : Int) - 1) x.f0 x.f1 a2 = q := ⟨_, rfl⟩
          have hab := (HAB.out x.f0 x.f1 hxv.1 hxv.2).trans (congrArg some hb12)
          have AB := Aside0.mk hab
          have HXI := Aside0.mk hi
          have HXL := Aside0.mk hl
          have HLT := Aside0.mk hlt
          have HCW := Aside0.mk (Kd.C_below HCW1.out HBW.out)
          have hyb := kkA (blk_below BX1.out HBW.out) (Obj.cells #[.slice A x.f0.length cx, .int .i64 x.f1] 26)
          have hy0 := (blk_cell hyb 0).trans rfl
          have hy1 := (blk_cell hyb 1).trans rfl
          have hy2 := (blk_cell hyb 2).trans rfl
          by_cases cb : b2 = 0
          · subst cb
            rw [rowsFrom_ok (g := fun s : S26 => bendN R0 L0 ((m : Int) - 1) s.f0 s.f1 a2) (by rw [hb12])] at hgo
            rw [hb12] at hgo
            have HGO := Aside0.mk hgo
            clear hi hl hx hmem hxv hgo hab hb12 hj hal hyb
            have hapF := fun {W6 : World} {A6 : Option Addr} {c6 : Nat} (hR6 : Kd.R (Kd.int .i64) 2 W6 (wr.alloc (Obj.cells #[.slice A x.f0.length cx, .int .i64 x.f1] 26)).heap.size (fun _ => True) (.slice A6 b1.length c6) b1) (hb6 : Below (wr.alloc (Obj.cells #[.slice A x.f0.length cx, .int .i64 x.f1] 26)).heap.size (wr.alloc (Obj.cells #[.slice A x.f0.length cx, .int .i64 x.f1] 26)) W6) => Kd.R_mono (ok' := fun k_ => True ∧ some k_ ≠ (Value.slice As acc.length cs).ownBlock) (Kd.R_apart' (Kd.R_lower hR6 (show W1.heap.size ≤ _ from by have := HBW.out.size; simp; omega)) (Kd.S_typed (Kd.S_below (Kd.S_below HS.out (zzA (Below.refl _ _) _)) hb6)) (by decide)) (fun k_ hk => ⟨trivial, hk.2⟩)
            go_wp2_with (first | (go_at_call 45; (with_reducible refine (HBD.out Ar A cr cx x.f0 x.f1 b1 0 _ (ccA (Kd.C_below HCD.out HBR.out) _) (ccA HCW.out _) HKR.out (ccA (Kd.C_below HXI.out HBR.out) _) HXL.out AB.out).mono ?_); rintro ed W6 ⟨v6, rfl, hR6, hb6⟩; obtain ⟨A6, c6, e6⟩ := Kd.R_slice hR6; subst e6; have HR6 := Aside0.mk hR6; have HB6 := Aside0.mk hb6; clear hR6 hb6) | ((with_reducible refine gate_builtin (b := .append) (xs := #[.tmp 50, .tmp 52]) rfl ?_); at_builtin; refine Kd.S_append (Kd.slice 2 (Kd.int .i64)) (w0 := W6) W1.heap.size rfl (.tmp 50) (.tmp 52) 30 22 (.slice none 0 0) 24 rfl Try.underlying30 (by kernel_rfl) rfl (by decide) (by omega) (.slice As acc.length cs) acc b1 [Value.slice A6 b1.length c6] (fun _ => True) (fun k_ => some k_ = (.slice A6 b1.length c6 : Value).ownBlock) rfl rfl ?aP ?aK (fun _ _ => trivial) ?aO (Below.refl _ _) ?aS ?aL ?_; (case aP => exact Kd.M_row (Kd.R_mono (Kd.R_tight rfl (hapF HR6.out HB6.out)) (fun _ h_ => h_))); (case aK => exact fun k_ hk_ => (hapF HR6.out HB6.out).1 k_ hk_.symm); (case aO => exact Kd.S_mono (Kd.S_elder' (Kd.S_below HS.out (zzA (Below.refl _ _) _)) (Kd.R_base HR6.out) HB6.out) (fun k_ hk => ⟨trivial, fun e_ => hk.2 e_⟩)); (case aS => have := HBW.out.size; have := HB6.out.size; simp at this; omega); (case aL => have := HL64.out; have := HAL.out; have := HLT.out; omega); intro v7 w7 hS7 hB7 hg7 hat7; have HS7 := Aside0.mk hS7; have HB7 := Aside0.mk hB7; clear hS7 hB7 hg7 hat7))
            have hbw := HBW.out.size
            exact ⟨⟨j + 1, acc ++ [b1], by (try rw [wrap64_of (show I64 ((j : Int) + 1) by have := HL64.out; have := HLT.out; unfold I64; omega)]); rfl, ⟨HLT.out⟩, ⟨by rw [List.length_append, HAL.out]; rfl⟩, ⟨HGO.out⟩, HS7, ⟨(below_then (zzA HBW.out _) (by simp; omega) HB6.out).trans HB7.out⟩⟩, by have := HL64.out; have := HLT.out; (try rw [wrap64_of (show I64 ((j : Int) + 1) by unfold I64; omega)]); simp [intOf]; omega⟩
          · rw [rowsFrom_bad (g := fun s : S26 => bendN R0 L0 ((m : Int) - 1) s.f0 s.f1 a2) (by rw [hb12]; exact cb)] at hgo
            rw [hb12] at hgo
            obtain ⟨g1, g2⟩ : [] = q1 ∧ b2 = q2 := by cases hgo; exact ⟨rfl, rfl⟩
            subst g1
            subst g2
            have hend := HEND.out
            rw [if_neg cb] at hend
            obtain ⟨h1, h2⟩ : [] = r1 ∧ b2 = r2 := by cases hend; exact ⟨rfl, rfl⟩
            subst h1
            subst h2
            have he0 : (b2 == 0) = false := beq_eq_false_iff_ne.2 cb
            have he1 : (b2 != 0) = true := bne_iff_ne.2 cb
            clear hi hl hx hmem hxv hgo hab hb12 hj hal hyb cb hend
            go_wp2_with (go_at_call 45; (with_reducible refine (HBD.out Ar A cr cx x.f0 x.f1 b1 b2 _ (ccA (Kd.C_below HCD.out HBR.out) _) (ccA HCW.out _) HKR.out (ccA (Kd.C_below HXI.out HBR.out) _) HXL.out AB.out).mono ?_); rintro ed W6 ⟨v6, rfl, hR6, hb6⟩; obtain ⟨A6, c6, e6⟩ := Kd.R_slice hR6; subst e6; have HR6 := Aside0.mk hR6; have HB6 := Aside0.mk hb6; clear hR6 hb6)
            go_ret2
            exact ⟨_, rfl, Kd.R_nil _ _ _ _ _, below_then (zzA HBR.out _) (by have := HBR.out.size; simp; omega) HB6.out⟩
        · have hjl : j = l3.length := by omega
          rw [hjl, List.drop_length, rowsFrom_nil] at hgo
          obtain ⟨g1, g2⟩ : acc = q1 ∧ 0 = q2 := by cases hgo; exact ⟨rfl, rfl⟩
          subst g1
          subst g2
          have hend := HEND.out
          rw [if_pos rfl] at hend
          have hml : I64 (l3.length : Int) := by have := HL64.out; unfold I64; omega
          have AM := Aside0.mk ((linear_Mean.of (l3.length : Int) acc ⟨hml, HFQ.out.1, HFQ.out.2⟩).trans (congrArg some hend))
          subst hjl
          clear hgo hend hml hal hj hlt
          go_wp2_with (go_at_call 46; (with_reducible refine (linear_Mean.calls (l3.length : Int) As cs acc r1 r2 _ (Kd.S_reads' HS.out).2.2 (Kd.S_reads' HS.out).2.1 AM.out).mono ?_); rintro ed W8 ⟨v_, rfl, hR, hb⟩; have HO := Aside0.mk (Kd.R_lower hR HBR.out.size); have HB8 := Aside0.mk (below_then HBR.out HBR.out.size hb); clear hR hb; obtain ⟨Ao, co, eo⟩ := Kd.R_slice HO.out; subst eo)
          go_ret2
          exact ⟨_, rfl, HO.out, HB8.out⟩
    · rw [if_pos cc] at h
      obtain ⟨h1, h2⟩ : [] = r1 ∧ ce = r2 := by cases h; exact ⟨rfl, rfl⟩
      subst h1
      subst h2
      have he0 : (ce == 0) = false := beq_eq_false_iff_ne.2 cc
      have he1 : (ce != 0) = true := bne_iff_ne.2 cc
      clear h cc hcf
      go_enter Try.func27, Try.ntmps27
      go_wp2_with (first | (go_at_call 30; (with_reducible refine HSP.out.mono ?_); rintro e w1 ⟨v0, rfl, hS, hb⟩; have hcu := HCU.out w1 v0 w.heap.size hS hb; obtain ⟨Ar, cr, rfl, hcr, hCr⟩ := hcu; have HCR := Aside0.mk hCr; have HKR := Aside0.mk hcr; have HB := Aside0.mk hb; clear hS hb hCr hcr) | (go_at_call 25; (with_reducible refine (mlp_Check.calls ((m : Int) - 1) k (some ad) c1 l1 A3 c3 l3 ce _ (ccA (Kd.C_below HR1.out HB.out) _) HC1.out (ccA (Kd.C_below HR3.out HB.out) _) HC3.out AC.out).mono ?_); rintro e W1 ⟨rfl, hb2⟩; have HB1 := Aside0.mk hb2; have HBC := Aside0.mk (below_then (zzA HB.out _) (Nat.le_trans HB.out.size (by simp)) hb2); have BX1 := Aside0.mk (blk_below (blk_new w1 (Obj.cells #[.slice (some (ad.add p)) (k + 1) (c1 - p), .slice Ar k cr, .int .i64 ((m : Int) - 1)] 54)) hb2); clear hb2))
      go_ret2
      exact ⟨_, rfl, Kd.R_nil _ _ _ _ _, HBC.out⟩
  · rw [if_pos c] at h
    have HSP := Aside0.mk (mlp_split.bad a0 A1 c1 l1 w hr1 hc1 c)
    obtain ⟨h1, h2⟩ : [] = r1 ∧ (splitM a0 l1).2.2 = r2 := by cases h; exact ⟨rfl, rfl⟩
    subst h1
    subst h2
    generalize (splitM a0 l1).2.2 = e at HSP c ⊢
    have he0 : (e == 0) = false := beq_eq_false_iff_ne.2 c
    have he1 : (e != 0) = true := bne_iff_ne.2 c
    clear h hr1 hc1 hr3 hc3 c hv
    go_enter Try.func27, Try.ntmps27
    go_wp2_with (go_at_call 30; (with_reducible refine HSP.out.mono ?_); rintro e w1 ⟨rfl, hb⟩; have HB := Aside0.mk hb; clear hb)
    go_ret2
    exact ⟨_, rfl, Kd.R_nil _ _ _ _ _, zzA HB.out _⟩


end Go.Proofs.Ytalamamjodihaaa.HP
