/- What Go functions do, each as a plain Lean function with the same answers, and the proof of it, in every world: printed by the session's driver over the kit's print, with texts by hand. -/
import Derived.Test.YtfbdalnjijdknaaHLx0
import Derived.Test.YtfbdalnjijdknaaHLx10
import Derived.Test.YtfbdalnjijdknaaHLx15
namespace Go.Proofs.Ytfbdalnjijdknaa.HL
open Go.RowKit Go.Proofs.YtfbdalnjijdknaaW.PrintWords Go.Proofs.YtfbdalnjijdknaaW.PrintLast Go.Proofs.YtfbdalnjijdknaaW.PrintMore
attribute [local go_sem] max2_int min2_int max_two min_two max_three min_three max_four min_four   -- for this text's walks alone
open Go.Proofs.Ytfbdalnjijdknaa.Sp
attribute [local go_sem] Go.Proofs.Ytfbdalnjijdknaa.Sp.u64_not
set_option linter.unusedVariables false
set_option linter.unusedSimpArgs false

/-! ### thrumref01_DivP: function 114 -/
mutual
def thrumref01_DivP.j0 : Nat → Int → Int → Int → Bool → Option (Int × Int)
 | 0, _, _, _, _ => none
 | k + 1, x0, x1, x2, x22 => if x22 = true then (some (0, 1)) else ((thrumref01_size.f x0).bind fun t220 => (if 0 ≤ x2 then ((thrumref01_Times.f t220 (shl .u64 1 x2)).bind fun bt221 => ((thrumref01_size.f x1).bind fun t223 => ((thrumref01_over.f bt221.1 bt221.2 t223).bind fun bt224 => (if bt224.2.2 = true then (thrumref01_DivP.j1 k x0 x1 bt224.1 bt224.2.1 (decide (bt224.1 > 9223372036854775808))) else (thrumref01_DivP.j1 k x0 x1 bt224.1 bt224.2.1 true))))) else (none)))
def thrumref01_DivP.j1 : Nat → Int → Int → Int → Int → Bool → Option (Int × Int)
 | 0, _, _, _, _, _ => none
 | k + 1, x0, x1, x10, x11, x45 => if x45 = true then (some (0, 2)) else (if ((decide (x0 < 0)) == (decide (x1 < 0))) = true then (if x10 = 9223372036854775808 then (some (0, 2)) else (some (wrap64 (x10), 0))) else (if x11 > 0 then (if (IntKind.u64.wrap (x10 + 1)) > 9223372036854775808 then (some (0, 2)) else (some (wrap64 (IntKind.u64.wrap (-(IntKind.u64.wrap (x10 + 1)))), 0))) else (if x10 > 9223372036854775808 then (some (0, 2)) else (some (wrap64 (IntKind.u64.wrap (-x10)), 0)))))
end
def thrumref01_DivP.f (k : Nat) (a0 : Int) (a1 : Int) (a2 : Int) : Option (Int × Int) := if a2 < 0 then (thrumref01_DivP.j0 k a0 a1 a2 true) else (if a2 > 30 then (thrumref01_DivP.j0 k a0 a1 a2 true) else (thrumref01_DivP.j0 k a0 a1 a2 (a1 == 0)))
theorem thrumref01_DivP.mono_l : ∀ k, (∀ y0 y1 y2 y3, LeO (thrumref01_DivP.j0 k y0 y1 y2 y3) (thrumref01_DivP.j0 (k + 1) y0 y1 y2 y3)) ∧ (∀ y0 y1 y2 y3 y4, LeO (thrumref01_DivP.j1 k y0 y1 y2 y3 y4) (thrumref01_DivP.j1 (k + 1) y0 y1 y2 y3 y4))
 | 0 => ⟨fun _ _ _ _ r h => by simp [thrumref01_DivP.j0] at h, fun _ _ _ _ _ r h => by simp [thrumref01_DivP.j1] at h⟩
 | k + 1 => by
  obtain ⟨ih0, ih1⟩ := thrumref01_DivP.mono_l k
  refine ⟨?_, ?_⟩
  ·
   intro y0 y1 y2 y3
   unfold thrumref01_DivP.j0
   repeat' first
   | (with_reducible exact ih0 _ _ _ _)
   | (with_reducible exact ih1 _ _ _ _ _)
   | (with_reducible exact LeO.refl _)
   | (with_reducible exact LeO.none _)
   | (with_reducible refine LeO.ite ?_ ?_)
   | (with_reducible refine LeO.bind ?_ (fun _ => ?_))
   | exact ih0 _ _ _ _
   | exact ih1 _ _ _ _ _
   | exact LeO.none _
   | refine LeO.ite ?_ ?_
   | refine LeO.bind ?_ (fun _ => ?_)
  ·
   intro y0 y1 y2 y3 y4
   unfold thrumref01_DivP.j1
   repeat' first
   | (with_reducible exact ih0 _ _ _ _)
   | (with_reducible exact ih1 _ _ _ _ _)
   | (with_reducible exact LeO.refl _)
   | (with_reducible exact LeO.none _)
   | (with_reducible refine LeO.ite ?_ ?_)
   | (with_reducible refine LeO.bind ?_ (fun _ => ?_))
   | exact ih0 _ _ _ _
   | exact ih1 _ _ _ _ _
   | exact LeO.none _
   | refine LeO.ite ?_ ?_
   | refine LeO.bind ?_ (fun _ => ?_)
theorem thrumref01_DivP.mono : ∀ a0 a1 a2 k, LeO (thrumref01_DivP.f k a0 a1 a2) (thrumref01_DivP.f (k + 1) a0 a1 a2) := by
 intro a0 a1 a2 k
 obtain ⟨ih0, ih1⟩ := thrumref01_DivP.mono_l k
 unfold thrumref01_DivP.f
 repeat' first
   | (with_reducible exact ih0 _ _ _ _)
   | (with_reducible exact ih1 _ _ _ _ _)
   | (with_reducible exact LeO.refl _)
   | (with_reducible exact LeO.none _)
   | (with_reducible refine LeO.ite ?_ ?_)
   | (with_reducible refine LeO.bind ?_ (fun _ => ?_))
   | exact ih0 _ _ _ _
   | exact ih1 _ _ _ _ _
   | exact LeO.none _
   | refine LeO.ite ?_ ?_
   | refine LeO.bind ?_ (fun _ => ?_)
set_option maxHeartbeats 8000000 in
set_option maxRecDepth 100000 in
theorem thrumref01_DivP.calls (k : Nat) (a0 : Int) (a1 : Int) (a2 : Int) (r1 : Int) (r2 : Int) (w : World) (h : thrumref01_DivP.f k a0 a1 a2 = some (r1, r2)) :
  Calls Try.prog 114 #[.int .i64 a0, .int .i64 a1, .int .i64 a2] w fun e w' => e = .returned (.tuple #[.int .i64 r1, .int .i64 r2]) ∧ Drawn0 w w' := by
 have H : (if a2 < 0 then (thrumref01_DivP.j0 k a0 a1 a2 true) else (if a2 > 30 then (thrumref01_DivP.j0 k a0 a1 a2 true) else (thrumref01_DivP.j0 k a0 a1 a2 (a1 == 0)))) = some (r1, r2) := h
 clear h
 have HC4 := Aside0.mk H
 clear H
 go_enter Try.func114, Try.ntmps114
 go_upto_region 1 with (fail)
 repeat (go_quiet (fail); go_upto_region 1 with (fail))
 go_cut [22] (fun v22 wc => ∃ (kq : Nat) (x22_3 : Bool), v22 = .bool x22_3 ∧ Aside0 (thrumref01_DivP.j0 kq a0 a1 a2 x22_3 = some (r1, r2)) ∧ Aside0 (kq ≤ k) ∧ Drawn0 w wc)
 case first =>
  have H := HC4.out
  clear HC4
  by_cases c5 : a2 < 0
  ·
   rw [if_pos c5] at H
   have c5b0 : decide (a2 < 0) = true := decide_eq_true c5
   clear c5
   (first | rw [c5b0] | (simp only [i64_w, i32_w]; rw [c5b0]) | skip)
   have H' := Aside0.mk H
   clear H
   go_wp2
   repeat (go_quiet (fail); try go_wp2)
   go_meet
   case rel => exact ⟨_, (true), (by first | rfl | (simp; done) | (simp [*]; done)), H', ⟨by first | omega | exact Nat.le_refl _⟩, by repeat (first | exact ddR _ | apply ddS)⟩
  ·
   rw [if_neg c5] at H
   have c5b0 : decide (a2 < 0) = false := decide_eq_false c5
   clear c5
   (first | rw [c5b0] | (simp only [i64_w, i32_w]; rw [c5b0]) | skip)
   by_cases c6 : a2 > 30
   ·
    rw [if_pos c6] at H
    have c6b0 : decide (30 < a2) = true := decide_eq_true c6
    clear c6
    have H' := Aside0.mk H
    clear H
    go_wp2
    repeat (go_quiet (fail); try go_wp2)
    go_meet
    case rel => exact ⟨_, (true), (by first | rfl | (simp; done) | (simp [*]; done)), H', ⟨by first | omega | exact Nat.le_refl _⟩, by repeat (first | exact ddR _ | apply ddS)⟩
   ·
    rw [if_neg c6] at H
    have c6b0 : decide (30 < a2) = false := decide_eq_false c6
    clear c6
    have H' := Aside0.mk H
    clear H
    go_wp2
    repeat (go_quiet (fail); try go_wp2)
    go_meet
    case rel => exact ⟨_, ((a1 == 0)), (by first | rfl | (simp; done) | (simp [*]; done)), H', ⟨by first | omega | exact Nat.le_refl _⟩, by repeat (first | exact ddR _ | apply ddS)⟩
 case rest =>
  clear HC4
  try clear c1
  try clear p2
  try clear c5
  try clear c5b0
  try clear c6
  try clear c6b0
  obtain ⟨kq, x22_3, rfl, HA, HJ3, ⟨mc3, rfl⟩⟩ := hcut
  cases kq with
  | zero => exact absurd HA.out (by simp [thrumref01_DivP.j0])
  | succ kj3 =>
   have H := HA.out
   clear HA
   simp only [thrumref01_DivP.j0] at H
   by_cases c7 : x22_3 = true
   ·
    subst c7
    have H1 : (some (0, 1)) = some (r1, r2) := by rw [if_pos rfl] at H; exact H
    clear H
    have H := H1
    clear H1
    simp only [Option.some.injEq, Prod.mk.injEq] at H
    obtain ⟨rfl, rfl⟩ := H
    go_wp2
    repeat (go_quiet (fail); try go_wp2)
    go_ret2
    exact ⟨by first | rfl | (simp; done) | (simp [*]; done), by repeat (first | exact ddR _ | apply ddS)⟩
   ·
    replace c7 := Bool.eq_false_iff.mpr c7
    subst c7
    have H1 : ((thrumref01_size.f a0).bind fun t220 => (if 0 ≤ a2 then ((thrumref01_Times.f t220 (shl .u64 1 a2)).bind fun bt221 => ((thrumref01_size.f a1).bind fun t223 => ((thrumref01_over.f bt221.1 bt221.2 t223).bind fun bt224 => (if bt224.2.2 = true then (thrumref01_DivP.j1 kj3 a0 a1 bt224.1 bt224.2.1 (decide (bt224.1 > 9223372036854775808))) else (thrumref01_DivP.j1 kj3 a0 a1 bt224.1 bt224.2.1 true))))) else (none))) = some (r1, r2) := by rw [if_neg (show ¬ (false = true) by decide)] at H; exact H
    clear H
    have H := H1
    clear H1
    replace H := Option.bind_eq_some_iff.mp H
    obtain ⟨t220, A80, H⟩ := H
    replace H : (if 0 ≤ a2 then ((thrumref01_Times.f t220 (shl .u64 1 a2)).bind fun bt221 => ((thrumref01_size.f a1).bind fun t223 => ((thrumref01_over.f bt221.1 bt221.2 t223).bind fun bt224 => (if bt224.2.2 = true then (thrumref01_DivP.j1 kj3 a0 a1 bt224.1 bt224.2.1 (decide (bt224.1 > 9223372036854775808))) else (thrumref01_DivP.j1 kj3 a0 a1 bt224.1 bt224.2.1 true))))) else (none)) = some (r1, r2) := H
    have A8 := Aside0.mk A80
    clear A80
    by_cases c9 : 0 ≤ a2
    ·
     rw [if_pos c9] at H
     have c9b0 := eq_true c9
     have c9b1 : decide (0 ≤ a2) = true := decide_eq_true c9
     clear c9
     obtain ⟨ji10, hji10⟩ : ∃ j_ : Int, (shl .u64 1 a2) = j_ := ⟨_, rfl⟩
     replace H : ((thrumref01_Times.f t220 (ji10)).bind fun bt221 => ((thrumref01_size.f a1).bind fun t223 => ((thrumref01_over.f bt221.1 bt221.2 t223).bind fun bt224 => (if bt224.2.2 = true then (thrumref01_DivP.j1 kj3 a0 a1 bt224.1 bt224.2.1 (decide (bt224.1 > 9223372036854775808))) else (thrumref01_DivP.j1 kj3 a0 a1 bt224.1 bt224.2.1 true))))) = some (r1, r2) := by first | (rw [hji10] at H; exact H) | (simp only [hji10] at H ⊢; exact H)
     (try rw [hji10] at A8)
     have hji10_ : (IntKind.u64.wrap (1 * 2 ^ min a2.toNat 64)) = ji10 := hji10
     have hji10z : a2 ≤ 64 → (IntKind.u64.wrap (1 * 2 ^ a2.toNat)) = ji10 := shl_small hji10
     have hji10u : (IntKind.u64.wrap (2 ^ min a2.toNat 64)) = ji10 := by have h_ := hji10_; rw [Int.one_mul] at h_; exact h_
     have hji10v : a2 ≤ 64 → (IntKind.u64.wrap (2 ^ a2.toNat)) = ji10 := fun hle_ => by have h_ := hji10z hle_; rw [Int.one_mul] at h_; exact h_
     replace H := Option.bind_eq_some_iff.mp H
     obtain ⟨⟨t221, t222⟩, A110, H⟩ := H
     replace H : ((thrumref01_size.f a1).bind fun t223 => ((thrumref01_over.f t221 t222 t223).bind fun bt224 => (if bt224.2.2 = true then (thrumref01_DivP.j1 kj3 a0 a1 bt224.1 bt224.2.1 (decide (bt224.1 > 9223372036854775808))) else (thrumref01_DivP.j1 kj3 a0 a1 bt224.1 bt224.2.1 true)))) = some (r1, r2) := H
     have A11 := Aside0.mk A110
     clear A110
     replace H := Option.bind_eq_some_iff.mp H
     obtain ⟨t223, A120, H⟩ := H
     replace H : ((thrumref01_over.f t221 t222 t223).bind fun bt224 => (if bt224.2.2 = true then (thrumref01_DivP.j1 kj3 a0 a1 bt224.1 bt224.2.1 (decide (bt224.1 > 9223372036854775808))) else (thrumref01_DivP.j1 kj3 a0 a1 bt224.1 bt224.2.1 true))) = some (r1, r2) := H
     have A12 := Aside0.mk A120
     clear A120
     replace H := Option.bind_eq_some_iff.mp H
     obtain ⟨⟨t224, t225, t226⟩, A130, H⟩ := H
     replace H : (if t226 = true then (thrumref01_DivP.j1 kj3 a0 a1 t224 t225 (decide (t224 > 9223372036854775808))) else (thrumref01_DivP.j1 kj3 a0 a1 t224 t225 true)) = some (r1, r2) := H
     have A13 := Aside0.mk A130
     clear A130
     have HC14 := Aside0.mk H
     clear H
     go_upto_region 5 with (first | (go_at_call 159; (with_reducible refine (thrumref01_size.calls a0 t220 _ A8.out).mono ?_); rintro e w' ⟨rfl, ⟨nd, rfl⟩⟩; (try first | exact ⟨rfl, _, wwN _ _ _⟩ | exact ⟨rfl, _, ww3 _ _ _ _⟩)) | (go_at_call 158; (with_reducible refine (thrumref01_Times.calls t220 ji10 t221 t222 _ A11.out).mono ?_); rintro e w' ⟨rfl, ⟨nd, rfl⟩⟩; (try first | exact ⟨rfl, _, wwN _ _ _⟩ | exact ⟨rfl, _, ww3 _ _ _ _⟩)) | (go_at_call 159; (with_reducible refine (thrumref01_size.calls a1 t223 _ A12.out).mono ?_); rintro e w' ⟨rfl, ⟨nd, rfl⟩⟩; (try first | exact ⟨rfl, _, wwN _ _ _⟩ | exact ⟨rfl, _, ww3 _ _ _ _⟩)) | (go_at_call 160; (with_reducible refine (thrumref01_over.calls t221 t222 t223 t224 t225 t226 _ A13.out).mono ?_); rintro e w' ⟨rfl, ⟨nd, rfl⟩⟩; (try first | exact ⟨rfl, _, wwN _ _ _⟩ | exact ⟨rfl, _, ww3 _ _ _ _⟩)))
     repeat (go_quiet (first | (go_at_call 159; (with_reducible refine (thrumref01_size.calls a0 t220 _ A8.out).mono ?_); rintro e w' ⟨rfl, ⟨nd, rfl⟩⟩; (try first | exact ⟨rfl, _, wwN _ _ _⟩ | exact ⟨rfl, _, ww3 _ _ _ _⟩)) | (go_at_call 158; (with_reducible refine (thrumref01_Times.calls t220 ji10 t221 t222 _ A11.out).mono ?_); rintro e w' ⟨rfl, ⟨nd, rfl⟩⟩; (try first | exact ⟨rfl, _, wwN _ _ _⟩ | exact ⟨rfl, _, ww3 _ _ _ _⟩)) | (go_at_call 159; (with_reducible refine (thrumref01_size.calls a1 t223 _ A12.out).mono ?_); rintro e w' ⟨rfl, ⟨nd, rfl⟩⟩; (try first | exact ⟨rfl, _, wwN _ _ _⟩ | exact ⟨rfl, _, ww3 _ _ _ _⟩)) | (go_at_call 160; (with_reducible refine (thrumref01_over.calls t221 t222 t223 t224 t225 t226 _ A13.out).mono ?_); rintro e w' ⟨rfl, ⟨nd, rfl⟩⟩; (try first | exact ⟨rfl, _, wwN _ _ _⟩ | exact ⟨rfl, _, ww3 _ _ _ _⟩))); go_upto_region 5 with (first | (go_at_call 159; (with_reducible refine (thrumref01_size.calls a0 t220 _ A8.out).mono ?_); rintro e w' ⟨rfl, ⟨nd, rfl⟩⟩; (try first | exact ⟨rfl, _, wwN _ _ _⟩ | exact ⟨rfl, _, ww3 _ _ _ _⟩)) | (go_at_call 158; (with_reducible refine (thrumref01_Times.calls t220 ji10 t221 t222 _ A11.out).mono ?_); rintro e w' ⟨rfl, ⟨nd, rfl⟩⟩; (try first | exact ⟨rfl, _, wwN _ _ _⟩ | exact ⟨rfl, _, ww3 _ _ _ _⟩)) | (go_at_call 159; (with_reducible refine (thrumref01_size.calls a1 t223 _ A12.out).mono ?_); rintro e w' ⟨rfl, ⟨nd, rfl⟩⟩; (try first | exact ⟨rfl, _, wwN _ _ _⟩ | exact ⟨rfl, _, ww3 _ _ _ _⟩)) | (go_at_call 160; (with_reducible refine (thrumref01_over.calls t221 t222 t223 t224 t225 t226 _ A13.out).mono ?_); rintro e w' ⟨rfl, ⟨nd, rfl⟩⟩; (try first | exact ⟨rfl, _, wwN _ _ _⟩ | exact ⟨rfl, _, ww3 _ _ _ _⟩))))
     (try simp only [Act.put, List.setIfInBounds_toArray, List.set_cons_zero, List.set_cons_succ])
     go_cut [45] (fun v45 wc => ∃ (kq : Nat) (x45_13 : Bool), v45 = .bool x45_13 ∧ Aside0 (thrumref01_DivP.j1 kq a0 a1 t224 t225 x45_13 = some (r1, r2)) ∧ Aside0 (kq ≤ kj3) ∧ Drawn0 w wc)
     case first =>
      have H := HC14.out
      clear HC14
      by_cases c15 : t226 = true
      ·
       subst c15
       have H1 : (thrumref01_DivP.j1 kj3 a0 a1 t224 t225 (decide (t224 > 9223372036854775808))) = some (r1, r2) := by rw [if_pos rfl] at H; exact H
       clear H
       have H := H1
       clear H1
       have H' := Aside0.mk H
       clear H
       go_wp2
       repeat (go_quiet (fail); try go_wp2)
       go_meet
       case rel => exact ⟨_, (decide (t224 > 9223372036854775808)), (by first | rfl | (simp; done) | (simp [*]; done)), H', ⟨by have := HJ3.out; first | omega | exact Nat.le_refl _⟩, by repeat (first | exact ddR _ | apply ddS)⟩
      ·
       replace c15 := Bool.eq_false_iff.mpr c15
       subst c15
       have H1 : (thrumref01_DivP.j1 kj3 a0 a1 t224 t225 true) = some (r1, r2) := by rw [if_neg (show ¬ (false = true) by decide)] at H; exact H
       clear H
       have H := H1
       clear H1
       have H' := Aside0.mk H
       clear H
       go_wp2
       repeat (go_quiet (fail); try go_wp2)
       go_meet
       case rel => exact ⟨_, (true), (by first | rfl | (simp; done) | (simp [*]; done)), H', ⟨by have := HJ3.out; first | omega | exact Nat.le_refl _⟩, by repeat (first | exact ddR _ | apply ddS)⟩
     case rest =>
      clear HC14
      try clear c1
      try clear p2
      try clear c3
      try clear c5
      try clear c5b0
      try clear c6
      try clear c6b0
      try clear c7
      try clear c9
      try clear c9b0
      try clear c9b1
      try clear c11
      try clear c15
      try clear p2
      obtain ⟨kq, x45_13, rfl, HA, HJ13, ⟨mc13, rfl⟩⟩ := hcut
      cases kq with
      | zero => exact absurd HA.out (by simp [thrumref01_DivP.j1])
      | succ kj13 =>
       have H := HA.out
       clear HA
       simp only [thrumref01_DivP.j1] at H
       by_cases c16 : x45_13 = true
       ·
        subst c16
        have H1 : (some (0, 2)) = some (r1, r2) := by rw [if_pos rfl] at H; exact H
        clear H
        have H := H1
        clear H1
        simp only [Option.some.injEq, Prod.mk.injEq] at H
        obtain ⟨rfl, rfl⟩ := H
        go_wp2
        repeat (go_quiet (fail); try go_wp2)
        go_ret2
        exact ⟨by first | rfl | (simp; done) | (simp only [← hji10] <;> (first | rfl | simp)) | (simp [*]; done), by repeat (first | exact ddR _ | apply ddS)⟩
       ·
        replace c16 := Bool.eq_false_iff.mpr c16
        subst c16
        have H1 : (if ((decide (a0 < 0)) == (decide (a1 < 0))) = true then (if t224 = 9223372036854775808 then (some (0, 2)) else (some (wrap64 (t224), 0))) else (if t225 > 0 then (if (IntKind.u64.wrap (t224 + 1)) > 9223372036854775808 then (some (0, 2)) else (some (wrap64 (IntKind.u64.wrap (-(IntKind.u64.wrap (t224 + 1)))), 0))) else (if t224 > 9223372036854775808 then (some (0, 2)) else (some (wrap64 (IntKind.u64.wrap (-t224)), 0))))) = some (r1, r2) := by rw [if_neg (show ¬ (false = true) by decide)] at H; exact H
        clear H
        have H := H1
        clear H1
        by_cases c17 : ((decide (a0 < 0)) == (decide (a1 < 0))) = true
        ·
         rw [if_pos c17] at H
         have c17b0 : ((decide (a0 < 0)) == (decide (a1 < 0))) = true := c17
         (try (have c17b1 : decide ((decide (a0 < 0)) = (decide (a1 < 0))) = true := by simpa using c17))
         (try (have c17b2 : ((decide (a0 < 0)) == (decide (a1 < 0))) = true := by simpa using c17))
         clear c17
         by_cases c18 : t224 = 9223372036854775808
         ·
          rw [if_pos c18] at H
          have c18b0 : (t224 == 9223372036854775808) = true := beq_iff_eq.mpr c18
          have c18b1 : (t224 != 9223372036854775808) = false := bne_eq_false_iff_eq.mpr c18
          clear c18
          simp only [Option.some.injEq, Prod.mk.injEq] at H
          obtain ⟨rfl, rfl⟩ := H
          go_wp2
          repeat (go_quiet (fail); try go_wp2)
          go_ret2
          exact ⟨by first | rfl | (simp; done) | (simp only [← hji10] <;> (first | rfl | simp)) | (simp [*]; done), by repeat (first | exact ddR _ | apply ddS)⟩
         ·
          rw [if_neg c18] at H
          have c18b0 : (t224 == 9223372036854775808) = false := beq_eq_false_iff_ne.mpr c18
          have c18b1 : (t224 != 9223372036854775808) = true := bne_iff_ne.mpr c18
          simp only [Option.some.injEq, Prod.mk.injEq] at H
          obtain ⟨rfl, rfl⟩ := H
          go_wp2
          repeat (go_quiet (fail); try go_wp2)
          go_ret2
          exact ⟨by first | rfl | (simp; done) | (simp only [← hji10] <;> (first | rfl | simp)) | (simp [*]; done), by repeat (first | exact ddR _ | apply ddS)⟩
        ·
         rw [if_neg c17] at H
         have c17b0 : ((decide (a0 < 0)) == (decide (a1 < 0))) = false := by simpa using c17
         (try (have c17b1 : decide ((decide (a0 < 0)) = (decide (a1 < 0))) = false := by simpa using c17))
         (try (have c17b2 : ((decide (a0 < 0)) == (decide (a1 < 0))) = false := by simpa using c17))
         (try (have c17b3 : ¬ ((decide (a0 < 0)) = (decide (a1 < 0))) := by simpa using c17))
         clear c17
         by_cases c19 : t225 > 0
         ·
          rw [if_pos c19] at H
          have c19b0 : decide (0 < t225) = true := decide_eq_true c19
          clear c19
          by_cases c20 : (IntKind.u64.wrap (t224 + 1)) > 9223372036854775808
          ·
           rw [if_pos c20] at H
           have c20b0 : decide (9223372036854775808 < (IntKind.u64.wrap (t224 + 1))) = true := decide_eq_true c20
           clear c20
           simp only [Option.some.injEq, Prod.mk.injEq] at H
           obtain ⟨rfl, rfl⟩ := H
           go_wp2
           repeat (go_quiet (fail); try go_wp2)
           go_ret2
           exact ⟨by first | rfl | (simp; done) | (simp only [← hji10] <;> (first | rfl | simp)) | (simp [*]; done), by repeat (first | exact ddR _ | apply ddS)⟩
          ·
           rw [if_neg c20] at H
           have c20b0 : decide (9223372036854775808 < (IntKind.u64.wrap (t224 + 1))) = false := decide_eq_false c20
           clear c20
           simp only [Option.some.injEq, Prod.mk.injEq] at H
           obtain ⟨rfl, rfl⟩ := H
           go_wp2
           repeat (go_quiet (fail); try go_wp2)
           go_ret2
           exact ⟨by first | rfl | (simp; done) | (simp only [← hji10] <;> (first | rfl | simp)) | (simp [*]; done), by repeat (first | exact ddR _ | apply ddS)⟩
         ·
          rw [if_neg c19] at H
          have c19b0 : decide (0 < t225) = false := decide_eq_false c19
          clear c19
          by_cases c21 : t224 > 9223372036854775808
          ·
           rw [if_pos c21] at H
           have c21b0 : decide (9223372036854775808 < t224) = true := decide_eq_true c21
           clear c21
           simp only [Option.some.injEq, Prod.mk.injEq] at H
           obtain ⟨rfl, rfl⟩ := H
           go_wp2
           repeat (go_quiet (fail); try go_wp2)
           go_ret2
           exact ⟨by first | rfl | (simp; done) | (simp only [← hji10] <;> (first | rfl | simp)) | (simp [*]; done), by repeat (first | exact ddR _ | apply ddS)⟩
          ·
           rw [if_neg c21] at H
           have c21b0 : decide (9223372036854775808 < t224) = false := decide_eq_false c21
           clear c21
           simp only [Option.some.injEq, Prod.mk.injEq] at H
           obtain ⟨rfl, rfl⟩ := H
           go_wp2
           repeat (go_quiet (fail); try go_wp2)
           go_ret2
           exact ⟨by first | rfl | (simp; done) | (simp only [← hji10] <;> (first | rfl | simp)) | (simp [*]; done), by repeat (first | exact ddR _ | apply ddS)⟩
    ·
     rw [if_neg c9] at H
     exact absurd H (by simp)

def thrumref01_Div.f (a0 a1 a2 : Int) : Option (Int × Int) := if I64 a0 ∧ I64 a1 then some (divF a0 a1 a2) else none
theorem thrumref01_Div.of (a0 a1 a2 : Int)  (h_ : I64 a0 ∧ I64 a1) : thrumref01_Div.f a0 a1 a2 = some (divF a0 a1 a2) := if_pos h_
theorem thrumref01_DivP.spec {a0 a1 a2 : Int} (h0 : I64 a0) (h1 : I64 a1) : thrumref01_DivP.f 3 a0 a1 a2 = some (divF a0 a1 a2) := by
  unfold thrumref01_DivP.f divF
  rw [show (3 : Nat) = 2 + 1 from rfl]
  by_cases c : a2 < 0 ∨ a2 > 30 ∨ a1 = 0
  · rw [if_pos c]
    by_cases c1 : a2 < 0
    · rw [if_pos c1, thrumref01_DivP.j0, if_pos rfl]
    · rw [if_neg c1]
      by_cases c2 : a2 > 30
      · rw [if_pos c2, thrumref01_DivP.j0, if_pos rfl]
      · rw [if_neg c2, thrumref01_DivP.j0, if_pos (by simp; omega)]
  · rw [if_neg c, if_neg (by omega), if_neg (by omega), thrumref01_DivP.j0, if_neg (by simp; omega)]
    unfold thrumref01_size.f
    rw [if_pos h0, if_pos h1]
    simp only [Option.bind_some]
    rw [if_pos (by omega)]
    have hp : (0 : Int) < 2 ^ a2.toNat := Int.pow_pos (by omega)
    have hp30 : (2 : Int) ^ a2.toNat ≤ 1073741824 := by
      have : (2 : Nat) ^ a2.toNat ≤ 2 ^ 30 := Nat.pow_le_pow_right (by omega) (by omega)
      have e : ((2 ^ a2.toNat : Nat) : Int) = (2 : Int) ^ a2.toNat := by simp
      omega
    have hs : shl .u64 1 a2 = 2 ^ a2.toNat := by
      unfold shl; rw [show min a2.toNat IntKind.u64.bits = a2.toNat from by show min a2.toNat 64 = _; omega, wu]; omega
    rw [hs]
    obtain ⟨P, hP⟩ : ∃ P : Int, P = 2 ^ a2.toNat := ⟨_, rfl⟩
    rw [← hP] at hp hp30 ⊢
    unfold I64 at h0 h1
    unfold thrumref01_Times.f
    rw [if_pos ⟨by unfold U64; omega, by unfold U64; omega⟩]
    simp only [Option.bind_some]
    obtain ⟨X, hX⟩ : ∃ X : Int, X = (a0.natAbs : Int) * P := ⟨_, rfl⟩
    rw [← hX]
    have hX0 : 0 ≤ X := by rw [hX]; exact Int.mul_nonneg (by omega) (by omega)
    have hXu : X ≤ 9223372036854775808 * 1073741824 := by rw [hX]; exact Int.mul_le_mul (by omega) hp30 (by omega) (by omega)
    have haX : a0 * P = if a0 < 0 then -X else X := by
      split
      · rw [hX, show (a0.natAbs : Int) = -a0 by omega]; grind
      · rw [hX, show (a0.natAbs : Int) = a0 by omega]
    have hb : 0 < (a1.natAbs : Int) := by omega
    obtain ⟨b, hb'⟩ : ∃ b : Int, b = (a1.natAbs : Int) := ⟨_, rfl⟩
    rw [← hb'] at hb ⊢
    have hq : divQ (a0 * P) a1 = if (a0 < 0) = (a1 < 0) then X / b else (-X) / b := by
      unfold divQ
      rw [haX]
      by_cases ca : a0 < 0 <;> by_cases cb : a1 < 0 <;> simp only [ca, cb, if_true, if_false]
      · rw [if_neg (by omega), show -a1 = b by omega]; simp
      · rw [if_pos (by omega), show a1 = b by omega]; try simp
      · rw [if_neg (by omega), show -a1 = b by omega]; try simp
      · rw [if_pos (by omega), show a1 = b by omega]; try simp
    rw [hq]
    have hm0 := Int.emod_nonneg X (show b ≠ 0 by omega)
    have hneg := neg_div X hb
    have hqn := Int.ediv_nonneg hX0 (Int.le_of_lt hb)
    unfold thrumref01_over.f
    have hXb : X / 18446744073709551616 * 18446744073709551616 + X % 18446744073709551616 = X := by omega
    rw [if_pos ⟨by unfold U64; omega, by unfold U64; omega, by unfold U64; omega, hb⟩, hXb]
    simp only [Option.bind_some]
    generalize X / b = q at *
    generalize X % b = l at *
    rw [hneg]
    have key : (if decide (q < 18446744073709551616) = true then thrumref01_DivP.j1 2 a0 a1 (q % 18446744073709551616) l (decide (q % 18446744073709551616 > 9223372036854775808)) else thrumref01_DivP.j1 2 a0 a1 (q % 18446744073709551616) l true) = thrumref01_DivP.j1 2 a0 a1 (q % 18446744073709551616) l (decide (q > 9223372036854775808)) := by
      by_cases c3 : q < 18446744073709551616
      · rw [if_pos (by simpa using c3)]; congr 1; rw [decide_eq_decide]; omega
      · rw [if_neg (by simpa using c3), decide_eq_true (by omega)]
    rw [key, show (2 : Nat) = 1 + 1 from rfl, thrumref01_DivP.j1]
    by_cases co : q > 9223372036854775808
    · rw [if_pos (by simpa using co), res_not (by unfold I64; split <;> (try split) <;> omega)]
    · rw [if_neg (by simpa using co), show q % 18446744073709551616 = q by omega]
      by_cases cs : (a0 < 0) = (a1 < 0)
      · rw [if_pos (by simp [cs]), if_pos cs]
        by_cases ci : q = 9223372036854775808
        · rw [if_pos ci, res_not (by unfold I64; omega)]
        · rw [if_neg ci, res_of (by unfold I64; omega), wrap64_of (by unfold I64; omega)]
      · rw [if_neg (by simpa using cs), if_neg cs]
        by_cases cl : l > 0
        · rw [if_pos cl, if_pos cl]
          simp only [wu, wrap64_def]
          by_cases ci : q ≥ 9223372036854775808
          · rw [if_pos (by omega), res_not (by unfold I64; omega)]
          · rw [if_neg (by omega), res_of (by unfold I64; omega)]
            simp only [Option.some.injEq, Prod.mk.injEq, and_true]; omega
        · rw [if_neg cl, if_neg cl, if_neg co, res_of (by unfold I64; omega)]
          simp only [wu, wrap64_def, Option.some.injEq, Prod.mk.injEq, and_true]; omega
theorem thrumref01_Div.calls (a0 : Int) (a1 : Int) (a2 : Int) (r1 : Int) (r2 : Int) (w : World) (h : thrumref01_Div.f a0 a1 a2 = some (r1, r2)) :
    Calls Try.prog 114 #[.int .i64 a0, .int .i64 a1, .int .i64 a2] w fun e w' => e = .returned (.tuple #[.int .i64 r1, .int .i64 r2]) ∧ Drawn0 w w' := by
  unfold thrumref01_Div.f at h
  split at h
  · rename_i hu
    exact thrumref01_DivP.calls 3 a0 a1 a2 r1 r2 w ((thrumref01_DivP.spec hu.1 hu.2).trans h)
  · cases h


/-! ### thrumref01_QuotP: function 126 -/
def thrumref01_QuotP.f (a0 : Int) (a1 : Int) : Option (Int × Int) := (thrumref01_Div.f a0 a1 0).bind fun bt227 => (some (bt227.1, bt227.2))
set_option maxHeartbeats 8000000 in
set_option maxRecDepth 100000 in
theorem thrumref01_QuotP.calls (a0 : Int) (a1 : Int) (r1 : Int) (r2 : Int) (w : World) (h : thrumref01_QuotP.f a0 a1 = some (r1, r2)) :
  Calls Try.prog 126 #[.int .i64 a0, .int .i64 a1] w fun e w' => e = .returned (.tuple #[.int .i64 r1, .int .i64 r2]) ∧ Drawn0 w w' := by
 have H : ((thrumref01_Div.f a0 a1 0).bind fun bt227 => (some (bt227.1, bt227.2))) = some (r1, r2) := h
 clear h
 replace H := Option.bind_eq_some_iff.mp H
 obtain ⟨⟨t227, t228⟩, A30, H⟩ := H
 replace H : (some (t227, t228)) = some (r1, r2) := H
 have A3 := Aside0.mk A30
 clear A30
 simp only [Option.some.injEq, Prod.mk.injEq] at H
 obtain ⟨rfl, rfl⟩ := H
 go_enter Try.func126, Try.ntmps126
 go_wp2_with (first | ((with_reducible refine gate_callee (f := 114) rfl ?_); refine goesL_ (some 8) rfl rfl Try.func114 (by kernel_rfl) rfl #[.int .i64 a0, .int .i64 a1, .int .i64 0] rfl (by (try simp only [List.map_toArray, List.map_cons, List.map_nil]); first | done | rfl | (simp only [List.length_drop, List.length_take]; rfl)) ?_; (with_reducible refine (thrumref01_Div.calls a0 a1 0 t227 t228 _ A3.out).mono ?_); rintro e w' ⟨rfl, ⟨nd, rfl⟩⟩; refine ⟨_, rfl, ?_⟩))
 go_ret2
 exact ⟨by first | rfl | (simp; done) | (simp [*]; done), by repeat (first | exact ddR _ | apply ddS)⟩

def thrumref01_Quot.f (a0 a1 : Int) : Option (Int × Int) := if I64 a0 ∧ I64 a1 then some (divF a0 a1 0) else none
theorem thrumref01_Quot.of (a0 a1 : Int)  (h_ : I64 a0 ∧ I64 a1) : thrumref01_Quot.f a0 a1 = some (divF a0 a1 0) := if_pos h_
theorem thrumref01_Quot.calls (a0 : Int) (a1 : Int) (r1 : Int) (r2 : Int) (w : World) (h : thrumref01_Quot.f a0 a1 = some (r1, r2)) :
    Calls Try.prog 126 #[.int .i64 a0, .int .i64 a1] w fun e w' => e = .returned (.tuple #[.int .i64 r1, .int .i64 r2]) ∧ Drawn0 w w' := by
  unfold thrumref01_Quot.f at h
  split at h
  · rename_i hu
    refine thrumref01_QuotP.calls a0 a1 r1 r2 w (Eq.trans ?_ h)
    unfold thrumref01_QuotP.f thrumref01_Div.f
    rw [if_pos hu]; simp
  · cases h


end Go.Proofs.Ytfbdalnjijdknaa.HL
