/- What Go functions do, each as a plain Lean function with the same answers, and the proof of it, in every world: printed by the session's driver over the kit's print, with texts by hand. -/
import Derived.Test.YtalamamjodihaaaHOx0
import Derived.Test.YtalamamjodihaaaHOx10
import Derived.Test.YtalamamjodihaaaHOx13
import Derived.Test.YtalamamjodihaaaHOx14
namespace Go.Proofs.Ytalamamjodihaaa.HO
open Go.RowKit Go.Proofs.YtalamamjodihaaaW.PrintWords Go.Proofs.YtalamamjodihaaaW.PrintLast Go.Proofs.YtalamamjodihaaaW.PrintMore
attribute [local go_sem] max2_int min2_int max_two min_two max_three min_three max_four min_four   -- for this text's walks alone
open Go.Proofs.Ytalamamjodihaaa.Sp
attribute [local go_sem] Go.Proofs.Ytalamamjodihaaa.Sp.u64_not
set_option linter.unusedVariables false
set_option linter.unusedSimpArgs false

/-! ### thrumref01_DivP: function 81 -/
mutual
def thrumref01_DivP.j0 : Nat → Int → Int → Int → Bool → Option (Int × Int)
 | 0, _, _, _, _ => none
 | k + 1, x0, x1, x2, x22 => if x22 = true then (some (0, 1)) else ((thrumref01_size.f x0).bind fun t334 => (if 0 ≤ x2 then ((thrumref01_Times.f t334 (shl .u64 1 x2)).bind fun bt335 => ((thrumref01_size.f x1).bind fun t337 => ((thrumref01_over.f bt335.1 bt335.2 t337).bind fun bt338 => (if bt338.2.2 = true then (thrumref01_DivP.j1 k x0 x1 bt338.1 bt338.2.1 (decide (bt338.1 > 9223372036854775808))) else (thrumref01_DivP.j1 k x0 x1 bt338.1 bt338.2.1 true))))) else (none)))
def thrumref01_DivP.j1 : Nat → Int → Int → Int → Int → Bool → Option (Int × Int)
 | 0, _, _, _, _, _ => none
 | k + 1, x0, x1, x10, x11, x45 => if x45 = true then (some (0, 2)) else (if ((decide (x0 < 0)) == (decide (x1 < 0))) = true then (if x10 = 9223372036854775808 then (some (0, 2)) else (some (wrap64 (x10), 0))) else (if x11 > 0 then (if (IntKind.u64.wrap (x10 + 1)) > 9223372036854775808 then (some (0, 2)) else (some (wrap64 (IntKind.u64.wrap (-(IntKind.u64.wrap (x10 + 1)))), 0))) else (if x10 > 9223372036854775808 then (some (0, 2)) else (some (wrap64 (IntKind.u64.wrap (-x10)), 0)))))
end
def thrumref01_DivP.f (k : Nat) (a0 : Int) (a1 : Int) (a2 : Int) : Option (Int × Int) := if a2 < 0 then (thrumref01_DivP.j0 k a0 a1 a2 true) else (if a2 > 30 then (thrumref01_DivP.j0 k a0 a1 a2 true) else (thrumref01_DivP.j0 k a0 a1 a2 (a1 == 0)))
theorem thrumref01_DivP.mono_l : ∀ k, (∀ y0 y1 y2 y3, LeO (thrumref01_DivP.j0 k y0 y1 y2 y3) (thrumref01_DivP.j0 (k + 1) y0 y1 y2 y3)) ∧ (∀ y0 y1 y2 y3 y4, LeO (thrumref01_DivP.j1 k y0 y1 y2 y3 y4) (thrumref01_DivP.j1 (k + 1) y0 y1 y2 y3 y4))
 | 0 => ⟨fun _ _ _ _ r h => by simp [thrumref01_DivP.j0] at h, fun _ _ _ _ _ r h => by simp [thrumref01_DivP.j1] at h⟩
 | k + 1 => by
  obtain ⟨ih0, ih1⟩ := thrumref01_DivP.mono_l k
  refine ⟨?_, ?_⟩
  ·
   intro y0 y1 y2 y3
   unfold thrumref01_DivP.j0
   repeat' first
   | (with_reducible exact ih0 _ _ _ _)
   | (with_reducible exact ih1 _ _ _ _ _)
   | (with_reducible exact LeO.refl _)
   | (with_reducible exact LeO.none _)
   | (with_reducible refine LeO.ite ?_ ?_)
   | (with_reducible refine LeO.bind ?_ (fun _ => ?_))
   | exact ih0 _ _ _ _
   | exact ih1 _ _ _ _ _
   | exact LeO.none _
   | refine LeO.ite ?_ ?_
   | refine LeO.bind ?_ (fun _ => ?_)
  ·
   intro y0 y1 y2 y3 y4
   unfold thrumref01_DivP.j1
   repeat' first
   | (with_reducible exact ih0 _ _ _ _)
   | (with_reducible exact ih1 _ _ _ _ _)
   | (with_reducible exact LeO.refl _)
   | (with_reducible exact LeO.none _)
   | (with_reducible refine LeO.ite ?_ ?_)
   | (with_reducible refine LeO.bind ?_ (fun _ => ?_))
   | exact ih0 _ _ _ _
   | exact ih1 _ _ _ _ _
   | exact LeO.none _
   | refine LeO.ite ?_ ?_
   | refine LeO.bind ?_ (fun _ => ?_)
theorem thrumref01_DivP.mono : ∀ a0 a1 a2 k, LeO (thrumref01_DivP.f k a0 a1 a2) (thrumref01_DivP.f (k + 1) a0 a1 a2) := by
 intro a0 a1 a2 k
 obtain ⟨ih0, ih1⟩ := thrumref01_DivP.mono_l k
 unfold thrumref01_DivP.f
 repeat' first
   | (with_reducible exact ih0 _ _ _ _)
   | (with_reducible exact ih1 _ _ _ _ _)
   | (with_reducible exact LeO.refl _)
   | (with_reducible exact LeO.none _)
   | (with_reducible refine LeO.ite ?_ ?_)
   | (with_reducible refine LeO.bind ?_ (fun _ => ?_))
   | exact ih0 _ _ _ _
   | exact ih1 _ _ _ _ _
   | exact LeO.none _
   | refine LeO.ite ?_ ?_
   | refine LeO.bind ?_ (fun _ => ?_)
set_option maxHeartbeats 8000000 in
set_option maxRecDepth 100000 in
theorem thrumref01_DivP.calls (k : Nat) (a0 : Int) (a1 : Int) (a2 : Int) (r1 : Int) (r2 : Int) (w : World) (h : thrumref01_DivP.f k a0 a1 a2 = some (r1, r2)) :
  Calls Try.prog 81 #[.int .i64 a0, .int .i64 a1, .int .i64 a2] w fun e w' => e = .returned (.tuple #[.int .i64 r1, .int .i64 r2]) ∧ Drawn0 w w' := by
 have H : (if a2 < 0 then (thrumref01_DivP.j0 k a0 a1 a2 true) else (if a2 > 30 then (thrumref01_DivP.j0 k a0 a1 a2 true) else (thrumref01_DivP.j0 k a0 a1 a2 (a1 == 0)))) = some (r1, r2) := h
 clear h
 have HC4 := Aside0.mk H
 clear H
 go_enter Try.func81, Try.ntmps81
 go_upto_region 1 with (fail)
 repeat (go_quiet (fail); go_upto_region 1 with (fail))
 go_cut [22] (fun v22 wc => ∃ (kq : Nat) (x22_3 : Bool), v22 = .bool x22_3 ∧ Aside0 (thrumref01_DivP.j0 kq a0 a1 a2 x22_3 = some (r1, r2)) ∧ Aside0 (kq ≤ k) ∧ Drawn0 w wc)
 case first =>
  have H := HC4.out
  clear HC4
  by_cases c5 : a2 < 0
  ·
   rw [if_pos c5] at H
   have c5b0 : decide (a2 < 0) = true := decide_eq_true c5
   clear c5
   (first | rw [c5b0] | (simp only [i64_w, i32_w]; rw [c5b0]) | skip)
   have H' := Aside0.mk H
   clear H
   go_wp2
   repeat (go_quiet (fail); try go_wp2)
   go_meet
   case rel => exact ⟨_, (true), (by first | rfl | (simp; done) | (simp [*]; done)), H', ⟨by first | omega | exact Nat.le_refl _⟩, by repeat (first | exact ddR _ | apply ddS)⟩
  ·
   rw [if_neg c5] at H
   have c5b0 : decide (a2 < 0) = false := decide_eq_false c5
   clear c5
   (first | rw [c5b0] | (simp only [i64_w, i32_w]; rw [c5b0]) | skip)
   by_cases c6 : a2 > 30
   ·
    rw [if_pos c6] at H
    have c6b0 : decide (30 < a2) = true := decide_eq_true c6
    clear c6
    have H' := Aside0.mk H
    clear H
    go_wp2
    repeat (go_quiet (fail); try go_wp2)
    go_meet
    case rel => exact ⟨_, (true), (by first | rfl | (simp; done) | (simp [*]; done)), H', ⟨by first | omega | exact Nat.le_refl _⟩, by repeat (first | exact ddR _ | apply ddS)⟩
   ·
    rw [if_neg c6] at H
    have c6b0 : decide (30 < a2) = false := decide_eq_false c6
    clear c6
    have H' := Aside0.mk H
    clear H
    go_wp2
    repeat (go_quiet (fail); try go_wp2)
    go_meet
    case rel => exact ⟨_, ((a1 == 0)), (by first | rfl | (simp; done) | (simp [*]; done)), H', ⟨by first | omega | exact Nat.le_refl _⟩, by repeat (first | exact ddR _ | apply ddS)⟩
 case rest =>
  clear HC4
  try clear p2
  try clear c5
  try clear c5b0
  try clear c6
  try clear c6b0
  obtain ⟨kq, x22_3, rfl, HA, HJ3, ⟨mc3, rfl⟩⟩ := hcut
  cases kq with
  | zero => exact absurd HA.out (by simp [thrumref01_DivP.j0])
  | succ kj3 =>
   have H := HA.out
   clear HA
   simp only [thrumref01_DivP.j0] at H
   by_cases c7 : x22_3 = true
   ·
    subst c7
    have H1 : (some (0, 1)) = some (r1, r2) := by rw [if_pos rfl] at H; exact H
    clear H
    have H := H1
    clear H1
    simp only [Option.some.injEq, Prod.mk.injEq] at H
    obtain ⟨rfl, rfl⟩ := H
    go_wp2
    repeat (go_quiet (fail); try go_wp2)
    go_ret2
    exact ⟨by first | rfl | (simp; done) | (simp [*]; done), by repeat (first | exact ddR _ | apply ddS)⟩
   ·
    replace c7 := Bool.eq_false_iff.mpr c7
    subst c7
    have H1 : ((thrumref01_size.f a0).bind fun t334 => (if 0 ≤ a2 then ((thrumref01_Times.f t334 (shl .u64 1 a2)).bind fun bt335 => ((thrumref01_size.f a1).bind fun t337 => ((thrumref01_over.f bt335.1 bt335.2 t337).bind fun bt338 => (if bt338.2.2 = true then (thrumref01_DivP.j1 kj3 a0 a1 bt338.1 bt338.2.1 (decide (bt338.1 > 9223372036854775808))) else (thrumref01_DivP.j1 kj3 a0 a1 bt338.1 bt338.2.1 true))))) else (none))) = some (r1, r2) := by rw [if_neg (show ¬ (false = true) by decide)] at H; exact H
    clear H
    have H := H1
    clear H1
    replace H := Option.bind_eq_some_iff.mp H
    obtain ⟨t334, A80, H⟩ := H
    replace H : (if 0 ≤ a2 then ((thrumref01_Times.f t334 (shl .u64 1 a2)).bind fun bt335 => ((thrumref01_size.f a1).bind fun t337 => ((thrumref01_over.f bt335.1 bt335.2 t337).bind fun bt338 => (if bt338.2.2 = true then (thrumref01_DivP.j1 kj3 a0 a1 bt338.1 bt338.2.1 (decide (bt338.1 > 9223372036854775808))) else (thrumref01_DivP.j1 kj3 a0 a1 bt338.1 bt338.2.1 true))))) else (none)) = some (r1, r2) := H
    have A8 := Aside0.mk A80
    clear A80
    by_cases c9 : 0 ≤ a2
    ·
     rw [if_pos c9] at H
     have c9b0 := eq_true c9
     have c9b1 : decide (0 ≤ a2) = true := decide_eq_true c9
     clear c9
     obtain ⟨ji10, hji10⟩ : ∃ j_ : Int, (shl .u64 1 a2) = j_ := ⟨_, rfl⟩
     replace H : ((thrumref01_Times.f t334 (ji10)).bind fun bt335 => ((thrumref01_size.f a1).bind fun t337 => ((thrumref01_over.f bt335.1 bt335.2 t337).bind fun bt338 => (if bt338.2.2 = true then (thrumref01_DivP.j1 kj3 a0 a1 bt338.1 bt338.2.1 (decide (bt338.1 > 9223372036854775808))) else (thrumref01_DivP.j1 kj3 a0 a1 bt338.1 bt338.2.1 true))))) = some (r1, r2) := by first | (rw [hji10] at H; exact H) | (simp only [hji10] at H ⊢; exact H)
     (try rw [hji10] at A8)
     have hji10_ : (IntKind.u64.wrap (1 * 2 ^ min a2.toNat 64)) = ji10 := hji10
     have hji10z : a2 ≤ 64 → (IntKind.u64.wrap (1 * 2 ^ a2.toNat)) = ji10 := shl_small hji10
     have hji10u : (IntKind.u64.wrap (2 ^ min a2.toNat 64)) = ji10 := by have h_ := hji10_; rw [Int.one_mul] at h_; exact h_
     have hji10v : a2 ≤ 64 → (IntKind.u64.wrap (2 ^ a2.toNat)) = ji10 := fun hle_ => by have h_ := hji10z hle_; rw [Int.one_mul] at h_; exact h_
     replace H := Option.bind_eq_some_iff.mp H
     obtain ⟨⟨t335, t336⟩, A110, H⟩ := H
     replace H : ((thrumref01_size.f a1).bind fun t337 => ((thrumref01_over.f t335 t336 t337).bind fun bt338 => (if bt338.2.2 = true then (thrumref01_DivP.j1 kj3 a0 a1 bt338.1 bt338.2.1 (decide (bt338.1 > 9223372036854775808))) else (thrumref01_DivP.j1 kj3 a0 a1 bt338.1 bt338.2.1 true)))) = some (r1, r2) := H
     have A11 := Aside0.mk A110
     clear A110
     replace H := Option.bind_eq_some_iff.mp H
     obtain ⟨t337, A120, H⟩ := H
     replace H : ((thrumref01_over.f t335 t336 t337).bind fun bt338 => (if bt338.2.2 = true then (thrumref01_DivP.j1 kj3 a0 a1 bt338.1 bt338.2.1 (decide (bt338.1 > 9223372036854775808))) else (thrumref01_DivP.j1 kj3 a0 a1 bt338.1 bt338.2.1 true))) = some (r1, r2) := H
     have A12 := Aside0.mk A120
     clear A120
     replace H := Option.bind_eq_some_iff.mp H
     obtain ⟨⟨t338, t339, t340⟩, A130, H⟩ := H
     replace H : (if t340 = true then (thrumref01_DivP.j1 kj3 a0 a1 t338 t339 (decide (t338 > 9223372036854775808))) else (thrumref01_DivP.j1 kj3 a0 a1 t338 t339 true)) = some (r1, r2) := H
     have A13 := Aside0.mk A130
     clear A130
     have HC14 := Aside0.mk H
     clear H
     go_upto_region 5 with (first | (go_at_call 87; (with_reducible refine (thrumref01_size.calls a0 t334 _ A8.out).mono ?_); rintro e w' ⟨rfl, ⟨nd, rfl⟩⟩; (try first | exact ⟨rfl, _, wwN _ _ _⟩ | exact ⟨rfl, _, ww3 _ _ _ _⟩)) | (go_at_call 86; (with_reducible refine (thrumref01_Times.calls t334 ji10 t335 t336 _ A11.out).mono ?_); rintro e w' ⟨rfl, ⟨nd, rfl⟩⟩; (try first | exact ⟨rfl, _, wwN _ _ _⟩ | exact ⟨rfl, _, ww3 _ _ _ _⟩)) | (go_at_call 87; (with_reducible refine (thrumref01_size.calls a1 t337 _ A12.out).mono ?_); rintro e w' ⟨rfl, ⟨nd, rfl⟩⟩; (try first | exact ⟨rfl, _, wwN _ _ _⟩ | exact ⟨rfl, _, ww3 _ _ _ _⟩)) | (go_at_call 88; (with_reducible refine (thrumref01_over.calls t335 t336 t337 t338 t339 t340 _ A13.out).mono ?_); rintro e w' ⟨rfl, ⟨nd, rfl⟩⟩; (try first | exact ⟨rfl, _, wwN _ _ _⟩ | exact ⟨rfl, _, ww3 _ _ _ _⟩)))
     repeat (go_quiet (first | (go_at_call 87; (with_reducible refine (thrumref01_size.calls a0 t334 _ A8.out).mono ?_); rintro e w' ⟨rfl, ⟨nd, rfl⟩⟩; (try first | exact ⟨rfl, _, wwN _ _ _⟩ | exact ⟨rfl, _, ww3 _ _ _ _⟩)) | (go_at_call 86; (with_reducible refine (thrumref01_Times.calls t334 ji10 t335 t336 _ A11.out).mono ?_); rintro e w' ⟨rfl, ⟨nd, rfl⟩⟩; (try first | exact ⟨rfl, _, wwN _ _ _⟩ | exact ⟨rfl, _, ww3 _ _ _ _⟩)) | (go_at_call 87; (with_reducible refine (thrumref01_size.calls a1 t337 _ A12.out).mono ?_); rintro e w' ⟨rfl, ⟨nd, rfl⟩⟩; (try first | exact ⟨rfl, _, wwN _ _ _⟩ | exact ⟨rfl, _, ww3 _ _ _ _⟩)) | (go_at_call 88; (with_reducible refine (thrumref01_over.calls t335 t336 t337 t338 t339 t340 _ A13.out).mono ?_); rintro e w' ⟨rfl, ⟨nd, rfl⟩⟩; (try first | exact ⟨rfl, _, wwN _ _ _⟩ | exact ⟨rfl, _, ww3 _ _ _ _⟩))); go_upto_region 5 with (first | (go_at_call 87; (with_reducible refine (thrumref01_size.calls a0 t334 _ A8.out).mono ?_); rintro e w' ⟨rfl, ⟨nd, rfl⟩⟩; (try first | exact ⟨rfl, _, wwN _ _ _⟩ | exact ⟨rfl, _, ww3 _ _ _ _⟩)) | (go_at_call 86; (with_reducible refine (thrumref01_Times.calls t334 ji10 t335 t336 _ A11.out).mono ?_); rintro e w' ⟨rfl, ⟨nd, rfl⟩⟩; (try first | exact ⟨rfl, _, wwN _ _ _⟩ | exact ⟨rfl, _, ww3 _ _ _ _⟩)) | (go_at_call 87; (with_reducible refine (thrumref01_size.calls a1 t337 _ A12.out).mono ?_); rintro e w' ⟨rfl, ⟨nd, rfl⟩⟩; (try first | exact ⟨rfl, _, wwN _ _ _⟩ | exact ⟨rfl, _, ww3 _ _ _ _⟩)) | (go_at_call 88; (with_reducible refine (thrumref01_over.calls t335 t336 t337 t338 t339 t340 _ A13.out).mono ?_); rintro e w' ⟨rfl, ⟨nd, rfl⟩⟩; (try first | exact ⟨rfl, _, wwN _ _ _⟩ | exact ⟨rfl, _, ww3 _ _ _ _⟩))))
     (try simp only [Act.put, List.setIfInBounds_toArray, List.set_cons_zero, List.set_cons_succ])
     go_cut [45] (fun v45 wc => ∃ (kq : Nat) (x45_13 : Bool), v45 = .bool x45_13 ∧ Aside0 (thrumref01_DivP.j1 kq a0 a1 t338 t339 x45_13 = some (r1, r2)) ∧ Aside0 (kq ≤ kj3) ∧ Drawn0 w wc)
     case first =>
      have H := HC14.out
      clear HC14
      by_cases c15 : t340 = true
      ·
       subst c15
       have H1 : (thrumref01_DivP.j1 kj3 a0 a1 t338 t339 (decide (t338 > 9223372036854775808))) = some (r1, r2) := by rw [if_pos rfl] at H; exact H
       clear H
       have H := H1
       clear H1
       have H' := Aside0.mk H
       clear H
       go_wp2
       repeat (go_quiet (fail); try go_wp2)
       go_meet
       case rel => exact ⟨_, (decide (t338 > 9223372036854775808)), (by first | rfl | (simp; done) | (simp [*]; done)), H', ⟨by have := HJ3.out; first | omega | exact Nat.le_refl _⟩, by repeat (first | exact ddR _ | apply ddS)⟩
      ·
       replace c15 := Bool.eq_false_iff.mpr c15
       subst c15
       have H1 : (thrumref01_DivP.j1 kj3 a0 a1 t338 t339 true) = some (r1, r2) := by rw [if_neg (show ¬ (false = true) by decide)] at H; exact H
       clear H
       have H := H1
       clear H1
       have H' := Aside0.mk H
       clear H
       go_wp2
       repeat (go_quiet (fail); try go_wp2)
       go_meet
       case rel => exact ⟨_, (true), (by first | rfl | (simp; done) | (simp [*]; done)), H', ⟨by have := HJ3.out; first | omega | exact Nat.le_refl _⟩, by repeat (first | exact ddR _ | apply ddS)⟩
     case rest =>
      clear HC14
      try clear c1
      try clear p2
      try clear c3
      try clear c5
      try clear c5b0
      try clear c6
      try clear c6b0
      try clear c7
      try clear c8
      try clear c9
      try clear c9b0
      try clear c9b1
      try clear c15
      try clear p2
      obtain ⟨kq, x45_13, rfl, HA, HJ13, ⟨mc13, rfl⟩⟩ := hcut
      cases kq with
      | zero => exact absurd HA.out (by simp [thrumref01_DivP.j1])
      | succ kj13 =>
       have H := HA.out
       clear HA
       simp only [thrumref01_DivP.j1] at H
       by_cases c16 : x45_13 = true
       ·
        subst c16
        have H1 : (some (0, 2)) = some (r1, r2) := by rw [if_pos rfl] at H; exact H
        clear H
        have H := H1
        clear H1
        simp only [Option.some.injEq, Prod.mk.injEq] at H
        obtain ⟨rfl, rfl⟩ := H
        go_wp2
        repeat (go_quiet (fail); try go_wp2)
        go_ret2
        exact ⟨by first | rfl | (simp; done) | (simp only [← hji10] <;> (first | rfl | simp)) | (simp [*]; done), by repeat (first | exact ddR _ | apply ddS)⟩
       ·
        replace c16 := Bool.eq_false_iff.mpr c16
        subst c16
        have H1 : (if ((decide (a0 < 0)) == (decide (a1 < 0))) = true then (if t338 = 9223372036854775808 then (some (0, 2)) else (some (wrap64 (t338), 0))) else (if t339 > 0 then (if (IntKind.u64.wrap (t338 + 1)) > 9223372036854775808 then (some (0, 2)) else (some (wrap64 (IntKind.u64.wrap (-(IntKind.u64.wrap (t338 + 1)))), 0))) else (if t338 > 9223372036854775808 then (some (0, 2)) else (some (wrap64 (IntKind.u64.wrap (-t338)), 0))))) = some (r1, r2) := by rw [if_neg (show ¬ (false = true) by decide)] at H; exact H
        clear H
        have H := H1
        clear H1
        by_cases c17 : ((decide (a0 < 0)) == (decide (a1 < 0))) = true
        ·
         rw [if_pos c17] at H
         have c17b0 : ((decide (a0 < 0)) == (decide (a1 < 0))) = true := c17
         (try (have c17b1 : decide ((decide (a0 < 0)) = (decide (a1 < 0))) = true := by simpa using c17))
         (try (have c17b2 : ((decide (a0 < 0)) == (decide (a1 < 0))) = true := by simpa using c17))
         clear c17
         by_cases c18 : t338 = 9223372036854775808
         ·
          rw [if_pos c18] at H
          have c18b0 : (t338 == 9223372036854775808) = true := beq_iff_eq.mpr c18
          have c18b1 : (t338 != 9223372036854775808) = false := bne_eq_false_iff_eq.mpr c18
          clear c18
          simp only [Option.some.injEq, Prod.mk.injEq] at H
          obtain ⟨rfl, rfl⟩ := H
          go_wp2
          repeat (go_quiet (fail); try go_wp2)
          go_ret2
          exact ⟨by first | rfl | (simp; done) | (simp only [← hji10] <;> (first | rfl | simp)) | (simp [*]; done), by repeat (first | exact ddR _ | apply ddS)⟩
         ·
          rw [if_neg c18] at H
          have c18b0 : (t338 == 9223372036854775808) = false := beq_eq_false_iff_ne.mpr c18
          have c18b1 : (t338 != 9223372036854775808) = true := bne_iff_ne.mpr c18
          simp only [Option.some.injEq, Prod.mk.injEq] at H
          obtain ⟨rfl, rfl⟩ := H
          go_wp2
          repeat (go_quiet (fail); try go_wp2)
          go_ret2
          exact ⟨by first | rfl | (simp; done) | (simp only [← hji10] <;> (first | rfl | simp)) | (simp [*]; done), by repeat (first | exact ddR _ | apply ddS)⟩
        ·
         rw [if_neg c17] at H
         have c17b0 : ((decide (a0 < 0)) == (decide (a1 < 0))) = false := by simpa using c17
         (try (have c17b1 : decide ((decide (a0 < 0)) = (decide (a1 < 0))) = false := by simpa using c17))
         (try (have c17b2 : ((decide (a0 < 0)) == (decide (a1 < 0))) = false := by simpa using c17))
         (try (have c17b3 : ¬ ((decide (a0 < 0)) = (decide (a1 < 0))) := by simpa using c17))
         clear c17
         by_cases c19 : t339 > 0
         ·
          rw [if_pos c19] at H
          have c19b0 : decide (0 < t339) = true := decide_eq_true c19
          clear c19
          by_cases c20 : (IntKind.u64.wrap (t338 + 1)) > 9223372036854775808
          ·
           rw [if_pos c20] at H
           have c20b0 : decide (9223372036854775808 < (IntKind.u64.wrap (t338 + 1))) = true := decide_eq_true c20
           clear c20
           simp only [Option.some.injEq, Prod.mk.injEq] at H
           obtain ⟨rfl, rfl⟩ := H
           go_wp2
           repeat (go_quiet (fail); try go_wp2)
           go_ret2
           exact ⟨by first | rfl | (simp; done) | (simp only [← hji10] <;> (first | rfl | simp)) | (simp [*]; done), by repeat (first | exact ddR _ | apply ddS)⟩
          ·
           rw [if_neg c20] at H
           have c20b0 : decide (9223372036854775808 < (IntKind.u64.wrap (t338 + 1))) = false := decide_eq_false c20
           clear c20
           simp only [Option.some.injEq, Prod.mk.injEq] at H
           obtain ⟨rfl, rfl⟩ := H
           go_wp2
           repeat (go_quiet (fail); try go_wp2)
           go_ret2
           exact ⟨by first | rfl | (simp; done) | (simp only [← hji10] <;> (first | rfl | simp)) | (simp [*]; done), by repeat (first | exact ddR _ | apply ddS)⟩
         ·
          rw [if_neg c19] at H
          have c19b0 : decide (0 < t339) = false := decide_eq_false c19
          clear c19
          by_cases c21 : t338 > 9223372036854775808
          ·
           rw [if_pos c21] at H
           have c21b0 : decide (9223372036854775808 < t338) = true := decide_eq_true c21
           clear c21
           simp only [Option.some.injEq, Prod.mk.injEq] at H
           obtain ⟨rfl, rfl⟩ := H
           go_wp2
           repeat (go_quiet (fail); try go_wp2)
           go_ret2
           exact ⟨by first | rfl | (simp; done) | (simp only [← hji10] <;> (first | rfl | simp)) | (simp [*]; done), by repeat (first | exact ddR _ | apply ddS)⟩
          ·
           rw [if_neg c21] at H
           have c21b0 : decide (9223372036854775808 < t338) = false := decide_eq_false c21
           clear c21
           simp only [Option.some.injEq, Prod.mk.injEq] at H
           obtain ⟨rfl, rfl⟩ := H
           go_wp2
           repeat (go_quiet (fail); try go_wp2)
           go_ret2
           exact ⟨by first | rfl | (simp; done) | (simp only [← hji10] <;> (first | rfl | simp)) | (simp [*]; done), by repeat (first | exact ddR _ | apply ddS)⟩
    ·
     rw [if_neg c9] at H
     exact absurd H (by simp)

def thrumref01_Div.f (a0 a1 a2 : Int) : Option (Int × Int) := if I64 a0 ∧ I64 a1 then some (divF a0 a1 a2) else none
theorem thrumref01_Div.of (a0 a1 a2 : Int)  (h_ : I64 a0 ∧ I64 a1) : thrumref01_Div.f a0 a1 a2 = some (divF a0 a1 a2) := if_pos h_
theorem thrumref01_DivP.spec {a0 a1 a2 : Int} (h0 : I64 a0) (h1 : I64 a1) : thrumref01_DivP.f 3 a0 a1 a2 = some (divF a0 a1 a2) := by
  unfold thrumref01_DivP.f divF
  rw [show (3 : Nat) = 2 + 1 from rfl]
  by_cases c : a2 < 0 ∨ a2 > 30 ∨ a1 = 0
  · rw [if_pos c]
    by_cases c1 : a2 < 0
    · rw [if_pos c1, thrumref01_DivP.j0, if_pos rfl]
    · rw [if_neg c1]
      by_cases c2 : a2 > 30
      · rw [if_pos c2, thrumref01_DivP.j0, if_pos rfl]
      · rw [if_neg c2, thrumref01_DivP.j0, if_pos (by simp; omega)]
  · rw [if_neg c, if_neg (by omega), if_neg (by omega), thrumref01_DivP.j0, if_neg (by simp; omega)]
    unfold thrumref01_size.f
    rw [if_pos h0, if_pos h1]
    simp only [Option.bind_some]
    rw [if_pos (by omega)]
    have hp : (0 : Int) < 2 ^ a2.toNat := Int.pow_pos (by omega)
    have hp30 : (2 : Int) ^ a2.toNat ≤ 1073741824 := by
      have : (2 : Nat) ^ a2.toNat ≤ 2 ^ 30 := Nat.pow_le_pow_right (by omega) (by omega)
      have e : ((2 ^ a2.toNat : Nat) : Int) = (2 : Int) ^ a2.toNat := by simp
      omega
    have hs : shl .u64 1 a2 = 2 ^ a2.toNat := by
      unfold shl; rw [show min a2.toNat IntKind.u64.bits = a2.toNat from by show min a2.toNat 64 = _; omega, wu]; omega
    rw [hs]
    obtain ⟨P, hP⟩ : ∃ P : Int, P = 2 ^ a2.toNat := ⟨_, rfl⟩
    rw [← hP] at hp hp30 ⊢
    unfold I64 at h0 h1
    unfold thrumref01_Times.f
    rw [if_pos ⟨by unfold U64; omega, by unfold U64; omega⟩]
    simp only [Option.bind_some]
    obtain ⟨X, hX⟩ : ∃ X : Int, X = (a0.natAbs : Int) * P := ⟨_, rfl⟩
    rw [← hX]
    have hX0 : 0 ≤ X := by rw [hX]; exact Int.mul_nonneg (by omega) (by omega)
    have hXu : X ≤ 9223372036854775808 * 1073741824 := by rw [hX]; exact Int.mul_le_mul (by omega) hp30 (by omega) (by omega)
    have haX : a0 * P = if a0 < 0 then -X else X := by
      split
      · rw [hX, show (a0.natAbs : Int) = -a0 by omega]; grind
      · rw [hX, show (a0.natAbs : Int) = a0 by omega]
    have hb : 0 < (a1.natAbs : Int) := by omega
    obtain ⟨b, hb'⟩ : ∃ b : Int, b = (a1.natAbs : Int) := ⟨_, rfl⟩
    rw [← hb'] at hb ⊢
    have hq : divQ (a0 * P) a1 = if (a0 < 0) = (a1 < 0) then X / b else (-X) / b := by
      unfold divQ
      rw [haX]
      by_cases ca : a0 < 0 <;> by_cases cb : a1 < 0 <;> simp only [ca, cb, if_true, if_false]
      · rw [if_neg (by omega), show -a1 = b by omega]; simp
      · rw [if_pos (by omega), show a1 = b by omega]; try simp
      · rw [if_neg (by omega), show -a1 = b by omega]; try simp
      · rw [if_pos (by omega), show a1 = b by omega]; try simp
    rw [hq]
    have hm0 := Int.emod_nonneg X (show b ≠ 0 by omega)
    have hneg := neg_div X hb
    have hqn := Int.ediv_nonneg hX0 (Int.le_of_lt hb)
    unfold thrumref01_over.f
    have hXb : X / 18446744073709551616 * 18446744073709551616 + X % 18446744073709551616 = X := by omega
    rw [if_pos ⟨by unfold U64; omega, by unfold U64; omega, by unfold U64; omega, hb⟩, hXb]
    simp only [Option.bind_some]
    generalize X / b = q at *
    generalize X % b = l at *
    rw [hneg]
    have key : (if decide (q < 18446744073709551616) = true then thrumref01_DivP.j1 2 a0 a1 (q % 18446744073709551616) l (decide (q % 18446744073709551616 > 9223372036854775808)) else thrumref01_DivP.j1 2 a0 a1 (q % 18446744073709551616) l true) = thrumref01_DivP.j1 2 a0 a1 (q % 18446744073709551616) l (decide (q > 9223372036854775808)) := by
      by_cases c3 : q < 18446744073709551616
      · rw [if_pos (by simpa using c3)]; congr 1; rw [decide_eq_decide]; omega
      · rw [if_neg (by simpa using c3), decide_eq_true (by omega)]
    rw [key, show (2 : Nat) = 1 + 1 from rfl, thrumref01_DivP.j1]
    by_cases co : q > 9223372036854775808
    · rw [if_pos (by simpa using co), res_not (by unfold I64; split <;> (try split) <;> omega)]
    · rw [if_neg (by simpa using co), show q % 18446744073709551616 = q by omega]
      by_cases cs : (a0 < 0) = (a1 < 0)
      · rw [if_pos (by simp [cs]), if_pos cs]
        by_cases ci : q = 9223372036854775808
        · rw [if_pos ci, res_not (by unfold I64; omega)]
        · rw [if_neg ci, res_of (by unfold I64; omega), wrap64_of (by unfold I64; omega)]
      · rw [if_neg (by simpa using cs), if_neg cs]
        by_cases cl : l > 0
        · rw [if_pos cl, if_pos cl]
          simp only [wu, wrap64_def]
          by_cases ci : q ≥ 9223372036854775808
          · rw [if_pos (by omega), res_not (by unfold I64; omega)]
          · rw [if_neg (by omega), res_of (by unfold I64; omega)]
            simp only [Option.some.injEq, Prod.mk.injEq, and_true]; omega
        · rw [if_neg cl, if_neg cl, if_neg co, res_of (by unfold I64; omega)]
          simp only [wu, wrap64_def, Option.some.injEq, Prod.mk.injEq, and_true]; omega
theorem thrumref01_Div.calls (a0 : Int) (a1 : Int) (a2 : Int) (r1 : Int) (r2 : Int) (w : World) (h : thrumref01_Div.f a0 a1 a2 = some (r1, r2)) :
    Calls Try.prog 81 #[.int .i64 a0, .int .i64 a1, .int .i64 a2] w fun e w' => e = .returned (.tuple #[.int .i64 r1, .int .i64 r2]) ∧ Drawn0 w w' := by
  unfold thrumref01_Div.f at h
  split at h
  · rename_i hu
    exact thrumref01_DivP.calls 3 a0 a1 a2 r1 r2 w ((thrumref01_DivP.spec hu.1 hu.2).trans h)
  · cases h


/-! ### thrumref01_QuotP: function 66 -/
def thrumref01_QuotP.f (a0 : Int) (a1 : Int) : Option (Int × Int) := (thrumref01_Div.f a0 a1 0).bind fun bt341 => (some (bt341.1, bt341.2))
set_option maxHeartbeats 8000000 in
set_option maxRecDepth 100000 in
theorem thrumref01_QuotP.calls (a0 : Int) (a1 : Int) (r1 : Int) (r2 : Int) (w : World) (h : thrumref01_QuotP.f a0 a1 = some (r1, r2)) :
  Calls Try.prog 66 #[.int .i64 a0, .int .i64 a1] w fun e w' => e = .returned (.tuple #[.int .i64 r1, .int .i64 r2]) ∧ Drawn0 w w' := by
 have H : ((thrumref01_Div.f a0 a1 0).bind fun bt341 => (some (bt341.1, bt341.2))) = some (r1, r2) := h
 clear h
 replace H := Option.bind_eq_some_iff.mp H
 obtain ⟨⟨t341, t342⟩, A30, H⟩ := H
 replace H : (some (t341, t342)) = some (r1, r2) := H
 have A3 := Aside0.mk A30
 clear A30
 simp only [Option.some.injEq, Prod.mk.injEq] at H
 obtain ⟨rfl, rfl⟩ := H
 go_enter Try.func66, Try.ntmps66
 go_wp2_with (first | ((with_reducible refine gate_callee (f := 81) rfl ?_); refine goesL_ (some 8) rfl rfl Try.func81 (by kernel_rfl) rfl #[.int .i64 a0, .int .i64 a1, .int .i64 0] rfl (by (try simp only [List.map_toArray, List.map_cons, List.map_nil]); first | done | rfl | (simp only [List.length_drop, List.length_take]; rfl)) ?_; (with_reducible refine (thrumref01_Div.calls a0 a1 0 t341 t342 _ A3.out).mono ?_); rintro e w' ⟨rfl, ⟨nd, rfl⟩⟩; refine ⟨_, rfl, ?_⟩))
 go_ret2
 exact ⟨by first | rfl | (simp; done) | (simp [*]; done), by repeat (first | exact ddR _ | apply ddS)⟩

def thrumref01_Quot.f (a0 a1 : Int) : Option (Int × Int) := if I64 a0 ∧ I64 a1 then some (divF a0 a1 0) else none
theorem thrumref01_Quot.of (a0 a1 : Int)  (h_ : I64 a0 ∧ I64 a1) : thrumref01_Quot.f a0 a1 = some (divF a0 a1 0) := if_pos h_
theorem thrumref01_Quot.calls (a0 : Int) (a1 : Int) (r1 : Int) (r2 : Int) (w : World) (h : thrumref01_Quot.f a0 a1 = some (r1, r2)) :
    Calls Try.prog 66 #[.int .i64 a0, .int .i64 a1] w fun e w' => e = .returned (.tuple #[.int .i64 r1, .int .i64 r2]) ∧ Drawn0 w w' := by
  unfold thrumref01_Quot.f at h
  split at h
  · rename_i hu
    refine thrumref01_QuotP.calls a0 a1 r1 r2 w (Eq.trans ?_ h)
    unfold thrumref01_QuotP.f thrumref01_Div.f
    rw [if_pos hu]; simp
  · cases h


/-! ### thrumref14_MeanP: function 48 -/
def thrumref14_MeanP.l0 : Nat → Int → List Int → List Int → Int → Int → Option (List Int × Int)
 | 0, _, _, _, _, _ => none
 | k + 1, x0, x8, x23, x24, x25 => if x25 < x24 then (if 0 ≤ x25 then (if x25 < (x23.length : Int) then ((thrumref01_Quot.f (rd x23 x25) x0).bind fun bt348 => (if bt348.2 = 0 then (if x8.length < 17592186044416 then (thrumref14_MeanP.l0 k x0 (x8 ++ [bt348.1]) x23 x24 (wrap64 (x25 + 1))) else (none)) else (some (([] : List Int), bt348.2)))) else (none)) else (none)) else (some (x8, 0))
def thrumref14_MeanP.f (k : Nat) (a0 : Int) (l1 : List (List Int)) : Option (List Int × Int) := if a0 < 1 then (some (([] : List Int), 1)) else ((thrumref02_Sum.f l1).bind fun bt343 => (if bt343.2 = 0 then (thrumref14_MeanP.l0 k a0 ([] : List Int) bt343.1 (bt343.1.length : Int) 0) else (some (([] : List Int), bt343.2))))
theorem thrumref14_MeanP.mono_l : ∀ k, (∀ y0 y1 y2 y3 y4, LeO (thrumref14_MeanP.l0 k y0 y1 y2 y3 y4) (thrumref14_MeanP.l0 (k + 1) y0 y1 y2 y3 y4))
 | 0 => fun _ _ _ _ _ r h => by simp [thrumref14_MeanP.l0] at h
 | k + 1 => by
  have ih0 := thrumref14_MeanP.mono_l k
  ·
   intro y0 y1 y2 y3 y4
   unfold thrumref14_MeanP.l0
   repeat' first
   | (with_reducible exact ih0 _ _ _ _ _)
   | (with_reducible exact LeO.refl _)
   | (with_reducible exact LeO.none _)
   | (with_reducible refine LeO.ite ?_ ?_)
   | (with_reducible refine LeO.bind ?_ (fun _ => ?_))
   | exact ih0 _ _ _ _ _
   | exact LeO.none _
   | refine LeO.ite ?_ ?_
   | refine LeO.bind ?_ (fun _ => ?_)
theorem thrumref14_MeanP.mono : ∀ a0 a1 k, LeO (thrumref14_MeanP.f k a0 a1) (thrumref14_MeanP.f (k + 1) a0 a1) := by
 intro a0 a1 k
 have ih0 := thrumref14_MeanP.mono_l k
 unfold thrumref14_MeanP.f
 repeat' first
   | (with_reducible exact ih0 _ _ _ _ _)
   | (with_reducible exact LeO.refl _)
   | (with_reducible exact LeO.none _)
   | (with_reducible refine LeO.ite ?_ ?_)
   | (with_reducible refine LeO.bind ?_ (fun _ => ?_))
   | exact ih0 _ _ _ _ _
   | exact LeO.none _
   | refine LeO.ite ?_ ?_
   | refine LeO.bind ?_ (fun _ => ?_)
set_option maxHeartbeats 8000000 in
set_option maxRecDepth 100000 in
theorem thrumref14_MeanP.calls (k : Nat) (a0 : Int) (A1 : Option Addr) (c1 : Nat) (l1 : List (List Int)) (r1 : List Int) (r2 : Int) (w : World) (hr1 : Kd.C (Kd.slice 2 (Kd.int .i64)) w A1 l1.length l1) (hc1 : l1.length ≤ c1) (h : thrumref14_MeanP.f k a0 l1 = some (r1, r2)) :
  Calls Try.prog 48 #[.int .i64 a0, .slice A1 l1.length c1] w fun e w' => ∃ v0_ : Value, e = .returned (.tuple #[v0_, .int .i64 r2]) ∧ Kd.R (Kd.int .i64) 2 w' w.heap.size (fun _ => True) v0_ r1 ∧ Below w.heap.size w w' := by
 have HR1 := Aside0.mk hr1
 have HC1 := Aside0.mk hc1
 clear hr1 hc1
 have HB := Aside0.mk (Below.refl w.heap.size w)
 have H : (if a0 < 1 then (some (([] : List Int), 1)) else ((thrumref02_Sum.f l1).bind fun bt343 => (if bt343.2 = 0 then (thrumref14_MeanP.l0 k a0 ([] : List Int) bt343.1 (bt343.1.length : Int) 0) else (some (([] : List Int), bt343.2))))) = some (r1, r2) := h
 clear h
 by_cases c3 : a0 < 1
 ·
  rw [if_pos c3] at H
  have c3b0 : decide (a0 < 1) = true := decide_eq_true c3
  clear c3
  simp only [Option.some.injEq, Prod.mk.injEq] at H
  obtain ⟨rfl, rfl⟩ := H
  go_enter Try.func48, Try.ntmps48
  go_wp2
  go_ret2
  exact ⟨_, by first | rfl | (simp [errW_none, errW_some] <;> rfl) | (simp [*, errW_none, errW_some] <;> rfl), by first | exact Kd.R_nil _ _ _ _ _ | exact Kd.N_nil _ _ _ _ _ | exact Kd.V_nil _ _ _ _ _ | exact Kd.Q_nil _ _ _ _ _ | exact Kd.S_nil _ _ _ _ _, by repeat (first | (with_reducible first | exact HB.out | apply zzA | apply zzN | apply zzD) | exact HB.out)⟩
 ·
  rw [if_neg c3] at H
  have c3b0 : decide (a0 < 1) = false := decide_eq_false c3
  clear c3
  replace H := Option.bind_eq_some_iff.mp H
  obtain ⟨⟨t343, t344⟩, A40, H⟩ := H
  replace H : (if t344 = 0 then (thrumref14_MeanP.l0 k a0 ([] : List Int) t343 (t343.length : Int) 0) else (some (([] : List Int), t344))) = some (r1, r2) := H
  have A4 := Aside0.mk A40
  clear A40
  by_cases c5 : t344 = 0
  ·
   rw [if_pos c5] at H
   have c5b0 : (t344 == 0) = true := beq_iff_eq.mpr c5
   have c5b1 : (t344 != 0) = false := bne_eq_false_iff_eq.mpr c5
   clear c5
   have H' := Aside0.mk H
   clear H
   go_enter Try.func48, Try.ntmps48
   go_wp2_with (first | ((with_reducible refine gate_callee (f := 65) rfl ?_); refine goesL_ (some 17) rfl rfl Try.func65 (by kernel_rfl) rfl #[.slice A1 l1.length c1] rfl (by (try simp only [List.map_toArray, List.map_cons, List.map_nil]); first | done | rfl | (simp only [List.length_drop, List.length_take]; rfl)) ?_; (with_reducible refine (thrumref02_Sum.calls _ _ l1 t343 t344 _ ?side1 ?side2 A4.out).mono ?_); (case side1 => repeat (first | exact HR1.out | (with_reducible refine ccA ?_ _) | (with_reducible refine ccN ?_ _) | (with_reducible refine ccD ?_))); (case side2 => exact HC1.out); rintro e w6 ⟨v345, rfl, ho0, hb⟩; refine ⟨_, rfl, ?_⟩; have n0_ := Aside0.mk (Kd.R_lower ho0 (zzS (by repeat (first | (with_reducible first | exact HB.out | apply zzA | apply zzN | apply zzD) | exact HB.out)))); have n1_ := Aside0.mk (zzT (by repeat (first | (with_reducible first | exact HB.out | apply zzA | apply zzN | apply zzD) | exact HB.out)) hb); clear HB; have HO346 := n0_; have HB := n1_; clear n0_ n1_; (try clear hb); (try clear hb2); (try clear hk); (try clear hi); (try clear ho0); obtain ⟨Ao7, co7, eo7⟩ := Kd.R_slice HO346.out; subst eo7))
   go_loopg [8, 25] k (fun kq v8 v25 w' => ∃ (x8_1 : List Int) (x25_1 : Int), v25 = .int .i64 x25_1 ∧ Aside0 (thrumref14_MeanP.l0 kq a0 x8_1 t343 (t343.length : Int) x25_1 = some (r1, r2)) ∧ Aside0 (kq ≤ k) ∧ Aside0 (Kd.R (Kd.int .i64) 2 w' w.heap.size (fun k_ => some k_ ≠ ((.slice Ao7 t343.length co7) : Value).ownBlock) v8 x8_1) ∧ Aside0 (Kd.R (Kd.int .i64) 2 w' w.heap.size (fun k_ => some k_ ≠ (v8 : Value).ownBlock) (.slice Ao7 t343.length co7) t343) ∧ Aside0 (Below w.heap.size w w'))
   case atStart => exact ⟨(([] : List Int)), (0), (by first | rfl | (simp; done) | (simp [*]; done)), H', ⟨Nat.le_refl _⟩, ⟨by first | exact Kd.R_nil _ _ _ _ _ | exact Kd.N_nil _ _ _ _ _ | exact Kd.V_nil _ _ _ _ _ | exact Kd.Q_nil _ _ _ _ _ | exact Kd.S_nil _ _ _ _ _⟩, ⟨by (with_reducible repeat (first | apply rrA | apply rrN | apply rrD)); exact Kd.R_mono HO346.out (fun _ hk => (by simp [Value.ownBlock]))⟩, ⟨by repeat (first | (with_reducible first | exact HB.out | apply zzA | apply zzN | apply zzD) | exact HB.out)⟩⟩
   case round =>
    clear H'
    try clear c1
    try clear p2
    try clear c3
    try clear c3b0
    try clear c4
    try clear c5
    try clear c5b0
    try clear c5b1
    try clear c6
    obtain ⟨x8_1, x25_1, rfl, HA, HK1, HO_8, HO_23, HB⟩ := hrel
    cases gk with
    | zero => exact absurd HA.out (by simp [thrumref14_MeanP.l0])
    | succ k1 =>
     have H := HA.out
     clear HA
     simp only [thrumref14_MeanP.l0] at H
     by_cases c8 : x25_1 < (t343.length : Int)
     ·
      rw [if_pos c8] at H
      have c8b0 : decide (x25_1 < (t343.length : Int)) = true := decide_eq_true c8
      clear c8
      by_cases c9 : 0 ≤ x25_1
      ·
       rw [if_pos c9] at H
       have c9b0 : decide (0 ≤ x25_1) = true := decide_eq_true c9
       clear c9
       by_cases c10 : x25_1 < (t343.length : Int)
       ·
        rw [if_pos c10] at H
        have c10b0 : decide (x25_1 < (t343.length : Int)) = true := decide_eq_true c10
        clear c10
        replace H := Option.bind_eq_some_iff.mp H
        obtain ⟨⟨t348, t349⟩, A110, H⟩ := H
        replace H : (if t349 = 0 then (if x8_1.length < 17592186044416 then (thrumref14_MeanP.l0 k1 a0 (x8_1 ++ [t348]) t343 (t343.length : Int) (wrap64 (x25_1 + 1))) else (none)) else (some (([] : List Int), t349))) = some (r1, r2) := H
        have A11 := Aside0.mk A110
        clear A110
        by_cases c12 : t349 = 0
        ·
         rw [if_pos c12] at H
         have c12b0 : (t349 == 0) = true := beq_iff_eq.mpr c12
         have c12b1 : (t349 != 0) = false := bne_eq_false_iff_eq.mpr c12
         clear c12
         by_cases c13 : x8_1.length < 17592186044416
         ·
          rw [if_pos c13] at H
          have LMc13 := Aside0.mk c13
          clear c13
          obtain ⟨y350, hy350⟩ : ∃ y_ : List Int, y_ = (x8_1 ++ [t348]) := ⟨_, rfl⟩
          replace H : (thrumref14_MeanP.l0 k1 a0 y350 t343 (t343.length : Int) (wrap64 (x25_1 + 1))) = some (r1, r2) := by first | (rw [hy350]; with_reducible exact H) | (have H2_ := (Option.bind_some _ _).symm.trans H; rw [hy350]; with_reducible exact H2_) | (have H2_ := (Option.bind_some _ _).symm.trans H; with_reducible exact H2_) | with_reducible exact H | (rw [hy350]; exact H) | exact H
          have Ny350 := Aside0.mk hy350
          clear hy350
          have H' := Aside0.mk H
          clear H
          have p347 : 0 ≤ (x25_1 : Int) := of_decide_eq_true (by first | (with_reducible assumption) | assumption)
          have q347 : x25_1 < (t343.length : Int) := of_decide_eq_true (by first | (with_reducible assumption) | assumption)
          obtain ⟨ad347, e347, hx347_0⟩ := Kd.at_int (Kd.R_reads' HO_23.out).2.2 x25_1 p347 q347
          cases e347
          replace p347 := eq_true p347
          replace q347 := eq_true q347
          go_wp2_with (first | ((with_reducible refine gate_callee (f := 66) rfl ?_); refine goesL_ (some 32) rfl rfl Try.func66 (by kernel_rfl) rfl #[.int .i64 (rd t343 x25_1), .int .i64 a0] rfl (by (try simp only [List.map_toArray, List.map_cons, List.map_nil]); first | done | rfl | (simp only [List.length_drop, List.length_take]; rfl)) ?_; (with_reducible refine (thrumref01_Quot.calls (rd t343 x25_1) a0 t348 t349 _ A11.out).mono ?_); rintro e w' ⟨rfl, ⟨nd, rfl⟩⟩; refine ⟨_, rfl, ?_⟩) | ((with_reducible refine gate_builtin (b := .append) (xs := #[.tmp 38, .tmp 40]) rfl ?_); at_builtin; refine Kd.R_append (Kd.int .i64) (w0 := w) w.heap.size rfl (.tmp 38) (.tmp 40) 22 2 (.int .i64 0) 8 rfl Try.underlying22 info2 rfl (by decide) (by omega) u8 x8_1 t348 [.int .i64 t348] (fun k_ => some k_ ≠ (.slice (some ad347) t343.length co7 : Value).ownBlock) (fun _ => False) rfl rfl ?aP (fun _ hk => hk.elim) ?aF ?aO ?aB ?aS ?aL ?_; (case aP => exact rfl); (case aB => exact (by repeat (first | (with_reducible first | exact HB.out | apply zzA | apply zzN | apply zzD) | exact HB.out))); (case aF => exact (fun k_ hk => Kd.fresh' (Kd.R_lt (by (with_reducible repeat (first | apply rrA | apply rrN | apply rrD)); exact HO_23.out)) k_ hk)); (case aO => exact (by (with_reducible repeat (first | apply rrA | apply rrN | apply rrD)); exact HO_8.out)); (case aS => exact (zzS (by repeat (first | (with_reducible first | exact HB.out | apply zzA | apply zzN | apply zzD) | exact HB.out)))); (case aL => have := LMc13.out; omega); intro v351 w14 ho hb hg hat; rw [← Ny350.out] at ho; have n0_ := Aside0.mk (Kd.R_after (ok := (fun _ => True)) (by (with_reducible repeat (first | apply rrA | apply rrN | apply rrD)); exact Kd.R_mono HO_23.out (fun _ hk => ⟨trivial, hk⟩)) hg hat); have n1_ := Aside0.mk (hb); have n2_ := Aside0.mk (ho); clear HO_23; clear HB; clear HO_8; have HO_23 := n0_; have HB := n1_; have HO352 := n2_; clear n0_ n1_ n2_; clear ho hb hg hat))
          go_roundg k1
          case measure => have := HK1.out; omega
          case rel => exact ⟨(y350), (wrap64 (x25_1 + 1)), (by first | rfl | (simp; done) | (simp [*]; done)), H', ⟨by have := HK1.out; omega⟩, ⟨by (with_reducible repeat (first | apply rrA | apply rrN | apply rrD)); exact HO352.out⟩, ⟨by (with_reducible repeat (first | apply rrA | apply rrN | apply rrD)); exact Kd.R_mono HO_23.out (fun _ hk => hk.2)⟩, ⟨by repeat (first | (with_reducible first | exact HB.out | apply zzA | apply zzN | apply zzD) | exact HB.out)⟩⟩
         ·
          rw [if_neg c13] at H
          exact absurd H (by simp)
        ·
         rw [if_neg c12] at H
         have c12b0 : (t349 == 0) = false := beq_eq_false_iff_ne.mpr c12
         have c12b1 : (t349 != 0) = true := bne_iff_ne.mpr c12
         simp only [Option.some.injEq, Prod.mk.injEq] at H
         obtain ⟨rfl, rfl⟩ := H
         have p347 : 0 ≤ (x25_1 : Int) := of_decide_eq_true (by first | (with_reducible assumption) | assumption)
         have q347 : x25_1 < (t343.length : Int) := of_decide_eq_true (by first | (with_reducible assumption) | assumption)
         obtain ⟨ad347, e347, hx347_0⟩ := Kd.at_int (Kd.R_reads' HO_23.out).2.2 x25_1 p347 q347
         cases e347
         replace p347 := eq_true p347
         replace q347 := eq_true q347
         go_wp2_with (first | ((with_reducible refine gate_callee (f := 66) rfl ?_); refine goesL_ (some 32) rfl rfl Try.func66 (by kernel_rfl) rfl #[.int .i64 (rd t343 x25_1), .int .i64 a0] rfl (by (try simp only [List.map_toArray, List.map_cons, List.map_nil]); first | done | rfl | (simp only [List.length_drop, List.length_take]; rfl)) ?_; (with_reducible refine (thrumref01_Quot.calls (rd t343 x25_1) a0 t348 t349 _ A11.out).mono ?_); rintro e w' ⟨rfl, ⟨nd, rfl⟩⟩; refine ⟨_, rfl, ?_⟩))
         go_ret2
         exact ⟨_, by first | rfl | (simp [errW_none, errW_some] <;> rfl) | (simp [*, errW_none, errW_some] <;> rfl), by first | exact Kd.R_nil _ _ _ _ _ | exact Kd.N_nil _ _ _ _ _ | exact Kd.V_nil _ _ _ _ _ | exact Kd.Q_nil _ _ _ _ _ | exact Kd.S_nil _ _ _ _ _, by repeat (first | (with_reducible first | exact HB.out | apply zzA | apply zzN | apply zzD) | exact HB.out)⟩
       ·
        rw [if_neg c10] at H
        exact absurd H (by simp)
      ·
       rw [if_neg c9] at H
       exact absurd H (by simp)
     ·
      rw [if_neg c8] at H
      have c8b0 : decide (x25_1 < (t343.length : Int)) = false := decide_eq_false c8
      clear c8
      simp only [Option.some.injEq, Prod.mk.injEq] at H
      obtain ⟨rfl, rfl⟩ := H
      go_wp2
      go_ret2
      exact ⟨_, by first | rfl | (simp [errW_none, errW_some] <;> rfl) | (simp [*, errW_none, errW_some] <;> rfl), by (with_reducible repeat (first | apply rrA | apply rrN | apply rrD)); exact Kd.R_mono HO_8.out (fun _ hk => trivial), by repeat (first | (with_reducible first | exact HB.out | apply zzA | apply zzN | apply zzD) | exact HB.out)⟩
  ·
   rw [if_neg c5] at H
   have c5b0 : (t344 == 0) = false := beq_eq_false_iff_ne.mpr c5
   have c5b1 : (t344 != 0) = true := bne_iff_ne.mpr c5
   simp only [Option.some.injEq, Prod.mk.injEq] at H
   obtain ⟨rfl, rfl⟩ := H
   go_enter Try.func48, Try.ntmps48
   go_wp2_with (first | ((with_reducible refine gate_callee (f := 65) rfl ?_); refine goesL_ (some 17) rfl rfl Try.func65 (by kernel_rfl) rfl #[.slice A1 l1.length c1] rfl (by (try simp only [List.map_toArray, List.map_cons, List.map_nil]); first | done | rfl | (simp only [List.length_drop, List.length_take]; rfl)) ?_; (with_reducible refine (thrumref02_Sum.calls _ _ l1 t343 t344 _ ?side1 ?side2 A4.out).mono ?_); (case side1 => repeat (first | exact HR1.out | (with_reducible refine ccA ?_ _) | (with_reducible refine ccN ?_ _) | (with_reducible refine ccD ?_))); (case side2 => exact HC1.out); rintro e w15 ⟨v345, rfl, ho0, hb⟩; refine ⟨_, rfl, ?_⟩; have n0_ := Aside0.mk (Kd.R_lower ho0 (zzS (by repeat (first | (with_reducible first | exact HB.out | apply zzA | apply zzN | apply zzD) | exact HB.out)))); have n1_ := Aside0.mk (zzT (by repeat (first | (with_reducible first | exact HB.out | apply zzA | apply zzN | apply zzD) | exact HB.out)) hb); clear HB; have HO346 := n0_; have HB := n1_; clear n0_ n1_; (try clear hb); (try clear hb2); (try clear hk); (try clear hi); (try clear ho0)))
   go_ret2
   exact ⟨_, by first | rfl | (simp [errW_none, errW_some] <;> rfl) | (simp [*, errW_none, errW_some] <;> rfl), by first | exact Kd.R_nil _ _ _ _ _ | exact Kd.N_nil _ _ _ _ _ | exact Kd.V_nil _ _ _ _ _ | exact Kd.Q_nil _ _ _ _ _ | exact Kd.S_nil _ _ _ _ _, by repeat (first | (with_reducible first | exact HB.out | apply zzA | apply zzN | apply zzD) | exact HB.out)⟩

theorem thrumref14_MeanP.loop (x0 : Int) (hx0 : I64 x0) (s : List Int) (hs : V64 s) (hb : s.length ≤ 4096) : ∀ (d i : Nat) (acc : List Int), d + i = s.length → acc.length ≤ i →
    thrumref14_MeanP.l0 (d + 1) x0 acc s (s.length : Int) (i : Int) = some (seqFrom (fun x => divF x x0 0) (s.drop i) acc) := by
  intro d
  induction d with
  | zero =>
    intro i acc hd ha
    rw [thrumref14_MeanP.l0, if_neg (by omega), List.drop_eq_nil_of_le (by omega), seqFrom_nil]
  | succ d ih =>
    intro i acc hd ha
    have hi : i < s.length := by omega
    rw [thrumref14_MeanP.l0, if_pos (by omega), if_pos (by omega), if_pos (by omega), show rd s (i : Int) = s[i] from rd_nat hi, thrumref01_Quot.of _ _ ⟨hs _ (List.getElem_mem hi), hx0⟩, List.drop_eq_getElem_cons hi]
    simp only [Option.bind_some]
    by_cases c : (divF s[i] x0 0).2 = 0
    · rw [if_pos c, if_pos (by omega), seqFrom_ok (g := fun x => divF x x0 0) c, wrap64_of (by unfold I64; omega), show (i : Int) + 1 = ((i + 1 : Nat) : Int) by omega]
      exact ih (i + 1) _ (by omega) (by simp; omega)
    · rw [if_neg c, seqFrom_bad (g := fun x => divF x x0 0) c]
def thrumref14_Mean.f (a0 : Int) (l1 : List (List Int)) : Option (List Int × Int) := if I64 a0 ∧ ∀ v ∈ l1, V64 v then some (meanL a0 l1) else none
theorem thrumref14_Mean.of (a0 : Int) (l1 : List (List Int)) (h : I64 a0 ∧ ∀ v ∈ l1, V64 v) : thrumref14_Mean.f a0 l1 = some (meanL a0 l1) := if_pos h
theorem thrumref14_Mean.calls (a0 : Int) (A1 : Option Addr) (c1 : Nat) (l1 : List (List Int)) (r1 : List Int) (r2 : Int) (w : World) (hr1 : Kd.C (Kd.slice 2 (Kd.int .i64)) w A1 l1.length l1) (hc1 : l1.length ≤ c1) (h : thrumref14_Mean.f a0 l1 = some (r1, r2)) :
    Calls Try.prog 48 #[.int .i64 a0, .slice A1 l1.length c1] w fun e w' => ∃ v0_ : Value, e = .returned (.tuple #[v0_, .int .i64 r2]) ∧ Kd.R (Kd.int .i64) 2 w' w.heap.size (fun _ => True) v0_ r1 ∧ Below w.heap.size w w' := by
  unfold thrumref14_Mean.f at h
  split at h
  case isFalse => cases h
  rename_i hv
  refine thrumref14_MeanP.calls (4097 + 1) a0 A1 c1 l1 r1 r2 w hr1 hc1 (Eq.trans ?_ h)
  unfold thrumref14_MeanP.f meanL
  by_cases c : a0 < 1
  · rw [if_pos c, if_pos c]
  · rw [if_neg c, if_neg c, show thrumref02_Sum.f l1 = some (sumsV l1) from if_pos hv.2]
    simp only [Option.bind_some]
    by_cases d : (sumsV l1).2 = 0
    · rw [if_pos d, if_pos d, ← seqFrom_start]
      have hl := sumsV_lle l1
      have hk := thrumref14_MeanP.loop a0 hv.1 (sumsV l1).1 (sumsV_v64 l1 hv.2) hl (sumsV l1).1.length 0 [] (by omega) (by simp)
      have hm := leO_mono (F := fun k => thrumref14_MeanP.l0 k a0 [] (sumsV l1).1 ((sumsV l1).1.length : Int) 0) (fun k => thrumref14_MeanP.mono_l k _ _ _ _ _) (show (sumsV l1).1.length + 1 ≤ 4098 by omega) hk
      exact hm
    · rw [if_neg d, if_neg d]


end Go.Proofs.Ytalamamjodihaaa.HO
