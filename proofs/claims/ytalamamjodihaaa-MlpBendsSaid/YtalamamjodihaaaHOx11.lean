/- What Go functions do, each as a plain Lean function with the same answers, and the proof of it, in every world: printed by the session's driver over the kit's print, with texts by hand. -/
import Derived.Test.YtalamamjodihaaaHOx0
import Derived.Test.YtalamamjodihaaaHOx1
import Derived.Test.YtalamamjodihaaaHOx9
import Derived.Test.YtalamamjodihaaaHOx10
namespace Go.Proofs.Ytalamamjodihaaa.HO
open Go.RowKit Go.Proofs.YtalamamjodihaaaW.PrintWords Go.Proofs.YtalamamjodihaaaW.PrintLast Go.Proofs.YtalamamjodihaaaW.PrintMore
attribute [local go_sem] max2_int min2_int max_two min_two max_three min_three max_four min_four   -- for this text's walks alone
open Go.Proofs.Ytalamamjodihaaa.Sp
attribute [local go_sem] Go.Proofs.Ytalamamjodihaaa.Sp.u64_not
set_option linter.unusedVariables false
set_option linter.unusedSimpArgs false

/-! ### thrumref02_DotP: function 56 -/
mutual
def thrumref02_DotP.j0 : Nat → List Int → List Int → Int → Bool → Option (Int × Int)
 | 0, _, _, _, _ => none
 | k + 1, x0, x1, x2, x24 => if x24 = true then (some (0, 1)) else (thrumref02_DotP.l0 k x0 x1 x2 0 (x0.length : Int) 0)
def thrumref02_DotP.l0 : Nat → List Int → List Int → Int → Int → Int → Int → Option (Int × Int)
 | 0, _, _, _, _, _, _ => none
 | k + 1, x0, x1, x2, x9, x26, x27 => if x27 < x26 then (if 0 ≤ x27 then (if x27 < (x0.length : Int) then (if x27 < (x1.length : Int) then ((thrumref01_Mul.f (rd x0 x27) (rd x1 x27) x2).bind fun bt213 => (if bt213.2 = 0 then ((thrumref01_Add.f x9 bt213.1).bind fun bt215 => (if bt215.2 = 0 then (thrumref02_DotP.l0 k x0 x1 x2 bt215.1 x26 (wrap64 (x27 + 1))) else (some (0, bt215.2)))) else (some (0, bt213.2)))) else (none)) else (none)) else (none)) else (some (x9, 0))
end
def thrumref02_DotP.f (k : Nat) (l0 : List Int) (l1 : List Int) (a2 : Int) : Option (Int × Int) := (thrumref02_two.f l0 l1).bind fun t210 => (if t210 = 0 then (if a2 < 0 then (thrumref02_DotP.j0 k l0 l1 a2 true) else (thrumref02_DotP.j0 k l0 l1 a2 (decide (a2 > 30)))) else (some (0, t210)))
theorem thrumref02_DotP.mono_l : ∀ k, (∀ y0 y1 y2 y3, LeO (thrumref02_DotP.j0 k y0 y1 y2 y3) (thrumref02_DotP.j0 (k + 1) y0 y1 y2 y3)) ∧ (∀ y0 y1 y2 y3 y4 y5, LeO (thrumref02_DotP.l0 k y0 y1 y2 y3 y4 y5) (thrumref02_DotP.l0 (k + 1) y0 y1 y2 y3 y4 y5))
 | 0 => ⟨fun _ _ _ _ r h => by simp [thrumref02_DotP.j0] at h, fun _ _ _ _ _ _ r h => by simp [thrumref02_DotP.l0] at h⟩
 | k + 1 => by
  obtain ⟨ih0, ih1⟩ := thrumref02_DotP.mono_l k
  refine ⟨?_, ?_⟩
  ·
   intro y0 y1 y2 y3
   unfold thrumref02_DotP.j0
   repeat' first
   | (with_reducible exact ih0 _ _ _ _)
   | (with_reducible exact ih1 _ _ _ _ _ _)
   | (with_reducible exact LeO.refl _)
   | (with_reducible exact LeO.none _)
   | (with_reducible refine LeO.ite ?_ ?_)
   | (with_reducible refine LeO.bind ?_ (fun _ => ?_))
   | exact ih0 _ _ _ _
   | exact ih1 _ _ _ _ _ _
   | exact LeO.none _
   | refine LeO.ite ?_ ?_
   | refine LeO.bind ?_ (fun _ => ?_)
  ·
   intro y0 y1 y2 y3 y4 y5
   unfold thrumref02_DotP.l0
   repeat' first
   | (with_reducible exact ih0 _ _ _ _)
   | (with_reducible exact ih1 _ _ _ _ _ _)
   | (with_reducible exact LeO.refl _)
   | (with_reducible exact LeO.none _)
   | (with_reducible refine LeO.ite ?_ ?_)
   | (with_reducible refine LeO.bind ?_ (fun _ => ?_))
   | exact ih0 _ _ _ _
   | exact ih1 _ _ _ _ _ _
   | exact LeO.none _
   | refine LeO.ite ?_ ?_
   | refine LeO.bind ?_ (fun _ => ?_)
theorem thrumref02_DotP.mono : ∀ a0 a1 a2 k, LeO (thrumref02_DotP.f k a0 a1 a2) (thrumref02_DotP.f (k + 1) a0 a1 a2) := by
 intro a0 a1 a2 k
 obtain ⟨ih0, ih1⟩ := thrumref02_DotP.mono_l k
 unfold thrumref02_DotP.f
 repeat' first
   | (with_reducible exact ih0 _ _ _ _)
   | (with_reducible exact ih1 _ _ _ _ _ _)
   | (with_reducible exact LeO.refl _)
   | (with_reducible exact LeO.none _)
   | (with_reducible refine LeO.ite ?_ ?_)
   | (with_reducible refine LeO.bind ?_ (fun _ => ?_))
   | exact ih0 _ _ _ _
   | exact ih1 _ _ _ _ _ _
   | exact LeO.none _
   | refine LeO.ite ?_ ?_
   | refine LeO.bind ?_ (fun _ => ?_)
set_option maxHeartbeats 8000000 in
set_option maxRecDepth 100000 in
theorem thrumref02_DotP.calls (k : Nat) (A0 : Option Addr) (c0 : Nat) (l0 : List Int) (A1 : Option Addr) (c1 : Nat) (l1 : List Int) (a2 : Int) (r1 : Int) (r2 : Int) (w : World) (hr0 : Kd.C (Kd.int .i64) w A0 l0.length l0) (hc0 : l0.length ≤ c0) (hr1 : Kd.C (Kd.int .i64) w A1 l1.length l1) (hc1 : l1.length ≤ c1) (h : thrumref02_DotP.f k l0 l1 a2 = some (r1, r2)) :
  Calls Try.prog 56 #[.slice A0 l0.length c0, .slice A1 l1.length c1, .int .i64 a2] w fun e w' => e = .returned (.tuple #[.int .i64 r1, .int .i64 r2]) ∧ Drawn0 w w' := by
 have HR0 := Aside0.mk hr0
 have HC0 := Aside0.mk hc0
 clear hr0 hc0
 have HR1 := Aside0.mk hr1
 have HC1 := Aside0.mk hc1
 clear hr1 hc1
 have H : ((thrumref02_two.f l0 l1).bind fun t210 => (if t210 = 0 then (if a2 < 0 then (thrumref02_DotP.j0 k l0 l1 a2 true) else (thrumref02_DotP.j0 k l0 l1 a2 (decide (a2 > 30)))) else (some (0, t210)))) = some (r1, r2) := h
 clear h
 replace H := Option.bind_eq_some_iff.mp H
 obtain ⟨t210, A40, H⟩ := H
 replace H : (if t210 = 0 then (if a2 < 0 then (thrumref02_DotP.j0 k l0 l1 a2 true) else (thrumref02_DotP.j0 k l0 l1 a2 (decide (a2 > 30)))) else (some (0, t210))) = some (r1, r2) := H
 have A4 := Aside0.mk A40
 clear A40
 by_cases c5 : t210 = 0
 ·
  rw [if_pos c5] at H
  have c5b0 : (t210 == 0) = true := beq_iff_eq.mpr c5
  have c5b1 : (t210 != 0) = false := bne_eq_false_iff_eq.mpr c5
  clear c5
  have HC6 := Aside0.mk H
  clear H
  go_enter Try.func56, Try.ntmps56
  go_upto_region 4 with (first | (go_at_call 73; (with_reducible refine (thrumref02_two.calls _ _ l0 _ _ l1 t210 _ ?side1 ?side2 ?side3 ?side4 A4.out).mono ?_); (case side1 => repeat (first | exact HR0.out | (with_reducible refine ccA ?_ _) | (with_reducible refine ccN ?_ _) | (with_reducible refine ccD ?_))); (case side2 => exact HC0.out); (case side3 => repeat (first | exact HR1.out | (with_reducible refine ccA ?_ _) | (with_reducible refine ccN ?_ _) | (with_reducible refine ccD ?_))); (case side4 => exact HC1.out); rintro e w' ⟨rfl, ⟨nd, rfl⟩⟩; (try first | exact ⟨rfl, _, wwN _ _ _⟩ | exact ⟨rfl, _, ww3 _ _ _ _⟩)))
  repeat (go_quiet (first | (go_at_call 73; (with_reducible refine (thrumref02_two.calls _ _ l0 _ _ l1 t210 _ ?side1 ?side2 ?side3 ?side4 A4.out).mono ?_); (case side1 => repeat (first | exact HR0.out | (with_reducible refine ccA ?_ _) | (with_reducible refine ccN ?_ _) | (with_reducible refine ccD ?_))); (case side2 => exact HC0.out); (case side3 => repeat (first | exact HR1.out | (with_reducible refine ccA ?_ _) | (with_reducible refine ccN ?_ _) | (with_reducible refine ccD ?_))); (case side4 => exact HC1.out); rintro e w' ⟨rfl, ⟨nd, rfl⟩⟩; (try first | exact ⟨rfl, _, wwN _ _ _⟩ | exact ⟨rfl, _, ww3 _ _ _ _⟩))); go_upto_region 4 with (first | (go_at_call 73; (with_reducible refine (thrumref02_two.calls _ _ l0 _ _ l1 t210 _ ?side1 ?side2 ?side3 ?side4 A4.out).mono ?_); (case side1 => repeat (first | exact HR0.out | (with_reducible refine ccA ?_ _) | (with_reducible refine ccN ?_ _) | (with_reducible refine ccD ?_))); (case side2 => exact HC0.out); (case side3 => repeat (first | exact HR1.out | (with_reducible refine ccA ?_ _) | (with_reducible refine ccN ?_ _) | (with_reducible refine ccD ?_))); (case side4 => exact HC1.out); rintro e w' ⟨rfl, ⟨nd, rfl⟩⟩; (try first | exact ⟨rfl, _, wwN _ _ _⟩ | exact ⟨rfl, _, ww3 _ _ _ _⟩))))
  (try simp only [Act.put, List.setIfInBounds_toArray, List.set_cons_zero, List.set_cons_succ])
  go_cut [24] (fun v24 wc => ∃ (kq : Nat) (x24_5 : Bool), v24 = .bool x24_5 ∧ Aside0 (thrumref02_DotP.j0 kq l0 l1 a2 x24_5 = some (r1, r2)) ∧ Aside0 (kq ≤ k) ∧ Drawn0 w wc)
  case first =>
   have H := HC6.out
   clear HC6
   by_cases c7 : a2 < 0
   ·
    rw [if_pos c7] at H
    have c7b0 : decide (a2 < 0) = true := decide_eq_true c7
    clear c7
    (first | rw [c7b0] | (simp only [i64_w, i32_w]; rw [c7b0]) | skip)
    have H' := Aside0.mk H
    clear H
    go_wp2
    repeat (go_quiet (fail); try go_wp2)
    go_meet
    case rel => exact ⟨_, (true), (by first | rfl | (simp; done) | (simp [*]; done)), H', ⟨by first | omega | exact Nat.le_refl _⟩, by repeat (first | exact ddR _ | apply ddS)⟩
   ·
    rw [if_neg c7] at H
    have c7b0 : decide (a2 < 0) = false := decide_eq_false c7
    clear c7
    (first | rw [c7b0] | (simp only [i64_w, i32_w]; rw [c7b0]) | skip)
    have H' := Aside0.mk H
    clear H
    go_wp2
    repeat (go_quiet (fail); try go_wp2)
    go_meet
    case rel => exact ⟨_, (decide (a2 > 30)), (by first | rfl | (simp; done) | (simp [*]; done)), H', ⟨by first | omega | exact Nat.le_refl _⟩, by repeat (first | exact ddR _ | apply ddS)⟩
  case rest =>
   clear HC6
   try clear c1
   try clear p2
   try clear c5
   try clear c5b0
   try clear c5b1
   try clear c7
   try clear c7b0
   obtain ⟨kq, x24_5, rfl, HA, HJ5, ⟨mc5, rfl⟩⟩ := hcut
   cases kq with
   | zero => exact absurd HA.out (by simp [thrumref02_DotP.j0])
   | succ kj5 =>
    have H := HA.out
    clear HA
    simp only [thrumref02_DotP.j0] at H
    by_cases c8 : x24_5 = true
    ·
     subst c8
     have H1 : (some (0, 1)) = some (r1, r2) := by rw [if_pos rfl] at H; exact H
     clear H
     have H := H1
     clear H1
     simp only [Option.some.injEq, Prod.mk.injEq] at H
     obtain ⟨rfl, rfl⟩ := H
     go_wp2
     repeat (go_quiet (fail); try go_wp2)
     go_ret2
     exact ⟨by first | rfl | (simp; done) | (simp [*]; done), by repeat (first | exact ddR _ | apply ddS)⟩
    ·
     replace c8 := Bool.eq_false_iff.mpr c8
     subst c8
     have H1 : (thrumref02_DotP.l0 kj5 l0 l1 a2 0 (l0.length : Int) 0) = some (r1, r2) := by rw [if_neg (show ¬ (false = true) by decide)] at H; exact H
     clear H
     have H := H1
     clear H1
     have H' := Aside0.mk H
     clear H
     go_wp2
     repeat (go_quiet (fail); try go_wp2)
     go_loopg [9, 27] kj5 (fun kq v9 v27 w' => ∃ (x9_2 : Int) (x27_2 : Int), v9 = .int .i64 x9_2 ∧ v27 = .int .i64 x27_2 ∧ Aside0 (thrumref02_DotP.l0 kq l0 l1 a2 x9_2 (l0.length : Int) x27_2 = some (r1, r2)) ∧ Aside0 (kq ≤ kj5) ∧ Drawn0 w w')
     case atStart => exact ⟨(0), (0), (by first | rfl | (simp; done) | (simp [*]; done)), (by first | rfl | (simp; done) | (simp [*]; done)), H', ⟨Nat.le_refl _⟩, by repeat (first | exact ddR _ | apply ddS)⟩
     case round =>
      clear H'
      try clear c1
      try clear p2
      try clear c5
      try clear c5b0
      try clear c5b1
      try clear c7
      try clear c7b0
      try clear c8
      try clear p2
      obtain ⟨x9_2, x27_2, rfl, rfl, HA, HK2, ⟨m2, rfl⟩⟩ := hrel
      cases gk with
      | zero => exact absurd HA.out (by simp [thrumref02_DotP.l0])
      | succ k2 =>
       have H := HA.out
       clear HA
       simp only [thrumref02_DotP.l0] at H
       by_cases c9 : x27_2 < (l0.length : Int)
       ·
        rw [if_pos c9] at H
        have c9b0 : decide (x27_2 < (l0.length : Int)) = true := decide_eq_true c9
        clear c9
        by_cases c10 : 0 ≤ x27_2
        ·
         rw [if_pos c10] at H
         have c10b0 : decide (0 ≤ x27_2) = true := decide_eq_true c10
         clear c10
         by_cases c11 : x27_2 < (l0.length : Int)
         ·
          rw [if_pos c11] at H
          have c11b0 : decide (x27_2 < (l0.length : Int)) = true := decide_eq_true c11
          clear c11
          by_cases c12 : x27_2 < (l1.length : Int)
          ·
           rw [if_pos c12] at H
           have c12b0 : decide (x27_2 < (l1.length : Int)) = true := decide_eq_true c12
           clear c12
           replace H := Option.bind_eq_some_iff.mp H
           obtain ⟨⟨t213, t214⟩, A130, H⟩ := H
           replace H : (if t214 = 0 then ((thrumref01_Add.f x9_2 t213).bind fun bt215 => (if bt215.2 = 0 then (thrumref02_DotP.l0 k2 l0 l1 a2 bt215.1 (l0.length : Int) (wrap64 (x27_2 + 1))) else (some (0, bt215.2)))) else (some (0, t214))) = some (r1, r2) := H
           have A13 := Aside0.mk A130
           clear A130
           by_cases c14 : t214 = 0
           ·
            rw [if_pos c14] at H
            have c14b0 : (t214 == 0) = true := beq_iff_eq.mpr c14
            have c14b1 : (t214 != 0) = false := bne_eq_false_iff_eq.mpr c14
            clear c14
            replace H := Option.bind_eq_some_iff.mp H
            obtain ⟨⟨t215, t216⟩, A150, H⟩ := H
            replace H : (if t216 = 0 then (thrumref02_DotP.l0 k2 l0 l1 a2 t215 (l0.length : Int) (wrap64 (x27_2 + 1))) else (some (0, t216))) = some (r1, r2) := H
            have A15 := Aside0.mk A150
            clear A150
            by_cases c16 : t216 = 0
            ·
             rw [if_pos c16] at H
             have c16b0 : (t216 == 0) = true := beq_iff_eq.mpr c16
             have c16b1 : (t216 != 0) = false := bne_eq_false_iff_eq.mpr c16
             clear c16
             have H' := Aside0.mk H
             clear H
             have p211 : 0 ≤ (x27_2 : Int) := of_decide_eq_true (by first | (with_reducible assumption) | assumption)
             have q211 : x27_2 < (l0.length : Int) := of_decide_eq_true (by first | (with_reducible assumption) | assumption)
             obtain ⟨ad211, e211, hx211_0⟩ := Kd.at_int HR0.out x27_2 p211 q211
             cases e211
             replace p211 := eq_true p211
             replace q211 := eq_true q211
             have p212 : 0 ≤ (x27_2 : Int) := of_decide_eq_true (by first | (with_reducible assumption) | assumption)
             have q212 : x27_2 < (l1.length : Int) := of_decide_eq_true (by first | (with_reducible assumption) | assumption)
             obtain ⟨ad212, e212, hx212_0⟩ := Kd.at_int HR1.out x27_2 p212 q212
             cases e212
             replace p212 := eq_true p212
             replace q212 := eq_true q212
             go_wp2_with (first | (go_at_call 63; (with_reducible refine (thrumref01_Mul.calls (rd l0 x27_2) (rd l1 x27_2) a2 t213 t214 _ A13.out).mono ?_); rintro e w' ⟨rfl, ⟨nd, rfl⟩⟩; (try first | exact ⟨rfl, _, wwN _ _ _⟩ | exact ⟨rfl, _, ww3 _ _ _ _⟩)) | (go_at_call 57; (with_reducible refine (thrumref01_Add.calls x9_2 t213 t215 t216 _ A15.out).mono ?_); rintro e w' ⟨rfl, ⟨nd, rfl⟩⟩; (try first | exact ⟨rfl, _, wwN _ _ _⟩ | exact ⟨rfl, _, ww3 _ _ _ _⟩)))
             repeat (go_quiet (first | (go_at_call 63; (with_reducible refine (thrumref01_Mul.calls (rd l0 x27_2) (rd l1 x27_2) a2 t213 t214 _ A13.out).mono ?_); rintro e w' ⟨rfl, ⟨nd, rfl⟩⟩; (try first | exact ⟨rfl, _, wwN _ _ _⟩ | exact ⟨rfl, _, ww3 _ _ _ _⟩)) | (go_at_call 57; (with_reducible refine (thrumref01_Add.calls x9_2 t213 t215 t216 _ A15.out).mono ?_); rintro e w' ⟨rfl, ⟨nd, rfl⟩⟩; (try first | exact ⟨rfl, _, wwN _ _ _⟩ | exact ⟨rfl, _, ww3 _ _ _ _⟩))); try go_wp2_with (first | (go_at_call 63; (with_reducible refine (thrumref01_Mul.calls (rd l0 x27_2) (rd l1 x27_2) a2 t213 t214 _ A13.out).mono ?_); rintro e w' ⟨rfl, ⟨nd, rfl⟩⟩; (try first | exact ⟨rfl, _, wwN _ _ _⟩ | exact ⟨rfl, _, ww3 _ _ _ _⟩)) | (go_at_call 57; (with_reducible refine (thrumref01_Add.calls x9_2 t213 t215 t216 _ A15.out).mono ?_); rintro e w' ⟨rfl, ⟨nd, rfl⟩⟩; (try first | exact ⟨rfl, _, wwN _ _ _⟩ | exact ⟨rfl, _, ww3 _ _ _ _⟩))))
             go_roundg k2
             case measure => have := HJ5.out; have := HK2.out; omega
             case rel => exact ⟨(t215), (wrap64 (x27_2 + 1)), (by first | rfl | (simp; done) | (simp [*]; done)), (by first | rfl | (simp; done) | (simp [*]; done)), H', ⟨by have := HJ5.out; have := HK2.out; omega⟩, by repeat (first | exact ddR _ | apply ddS)⟩
            ·
             rw [if_neg c16] at H
             have c16b0 : (t216 == 0) = false := beq_eq_false_iff_ne.mpr c16
             have c16b1 : (t216 != 0) = true := bne_iff_ne.mpr c16
             simp only [Option.some.injEq, Prod.mk.injEq] at H
             obtain ⟨rfl, rfl⟩ := H
             have p211 : 0 ≤ (x27_2 : Int) := of_decide_eq_true (by first | (with_reducible assumption) | assumption)
             have q211 : x27_2 < (l0.length : Int) := of_decide_eq_true (by first | (with_reducible assumption) | assumption)
             obtain ⟨ad211, e211, hx211_0⟩ := Kd.at_int HR0.out x27_2 p211 q211
             cases e211
             replace p211 := eq_true p211
             replace q211 := eq_true q211
             have p212 : 0 ≤ (x27_2 : Int) := of_decide_eq_true (by first | (with_reducible assumption) | assumption)
             have q212 : x27_2 < (l1.length : Int) := of_decide_eq_true (by first | (with_reducible assumption) | assumption)
             obtain ⟨ad212, e212, hx212_0⟩ := Kd.at_int HR1.out x27_2 p212 q212
             cases e212
             replace p212 := eq_true p212
             replace q212 := eq_true q212
             go_wp2_with (first | (go_at_call 63; (with_reducible refine (thrumref01_Mul.calls (rd l0 x27_2) (rd l1 x27_2) a2 t213 t214 _ A13.out).mono ?_); rintro e w' ⟨rfl, ⟨nd, rfl⟩⟩; (try first | exact ⟨rfl, _, wwN _ _ _⟩ | exact ⟨rfl, _, ww3 _ _ _ _⟩)) | (go_at_call 57; (with_reducible refine (thrumref01_Add.calls x9_2 t213 t215 t216 _ A15.out).mono ?_); rintro e w' ⟨rfl, ⟨nd, rfl⟩⟩; (try first | exact ⟨rfl, _, wwN _ _ _⟩ | exact ⟨rfl, _, ww3 _ _ _ _⟩)))
             repeat (go_quiet (first | (go_at_call 63; (with_reducible refine (thrumref01_Mul.calls (rd l0 x27_2) (rd l1 x27_2) a2 t213 t214 _ A13.out).mono ?_); rintro e w' ⟨rfl, ⟨nd, rfl⟩⟩; (try first | exact ⟨rfl, _, wwN _ _ _⟩ | exact ⟨rfl, _, ww3 _ _ _ _⟩)) | (go_at_call 57; (with_reducible refine (thrumref01_Add.calls x9_2 t213 t215 t216 _ A15.out).mono ?_); rintro e w' ⟨rfl, ⟨nd, rfl⟩⟩; (try first | exact ⟨rfl, _, wwN _ _ _⟩ | exact ⟨rfl, _, ww3 _ _ _ _⟩))); try go_wp2_with (first | (go_at_call 63; (with_reducible refine (thrumref01_Mul.calls (rd l0 x27_2) (rd l1 x27_2) a2 t213 t214 _ A13.out).mono ?_); rintro e w' ⟨rfl, ⟨nd, rfl⟩⟩; (try first | exact ⟨rfl, _, wwN _ _ _⟩ | exact ⟨rfl, _, ww3 _ _ _ _⟩)) | (go_at_call 57; (with_reducible refine (thrumref01_Add.calls x9_2 t213 t215 t216 _ A15.out).mono ?_); rintro e w' ⟨rfl, ⟨nd, rfl⟩⟩; (try first | exact ⟨rfl, _, wwN _ _ _⟩ | exact ⟨rfl, _, ww3 _ _ _ _⟩))))
             go_ret2
             exact ⟨by first | rfl | (simp; done) | (simp [*]; done), by repeat (first | exact ddR _ | apply ddS)⟩
           ·
            rw [if_neg c14] at H
            have c14b0 : (t214 == 0) = false := beq_eq_false_iff_ne.mpr c14
            have c14b1 : (t214 != 0) = true := bne_iff_ne.mpr c14
            simp only [Option.some.injEq, Prod.mk.injEq] at H
            obtain ⟨rfl, rfl⟩ := H
            have p211 : 0 ≤ (x27_2 : Int) := of_decide_eq_true (by first | (with_reducible assumption) | assumption)
            have q211 : x27_2 < (l0.length : Int) := of_decide_eq_true (by first | (with_reducible assumption) | assumption)
            obtain ⟨ad211, e211, hx211_0⟩ := Kd.at_int HR0.out x27_2 p211 q211
            cases e211
            replace p211 := eq_true p211
            replace q211 := eq_true q211
            have p212 : 0 ≤ (x27_2 : Int) := of_decide_eq_true (by first | (with_reducible assumption) | assumption)
            have q212 : x27_2 < (l1.length : Int) := of_decide_eq_true (by first | (with_reducible assumption) | assumption)
            obtain ⟨ad212, e212, hx212_0⟩ := Kd.at_int HR1.out x27_2 p212 q212
            cases e212
            replace p212 := eq_true p212
            replace q212 := eq_true q212
            go_wp2_with (first | (go_at_call 63; (with_reducible refine (thrumref01_Mul.calls (rd l0 x27_2) (rd l1 x27_2) a2 t213 t214 _ A13.out).mono ?_); rintro e w' ⟨rfl, ⟨nd, rfl⟩⟩; (try first | exact ⟨rfl, _, wwN _ _ _⟩ | exact ⟨rfl, _, ww3 _ _ _ _⟩)))
            repeat (go_quiet (first | (go_at_call 63; (with_reducible refine (thrumref01_Mul.calls (rd l0 x27_2) (rd l1 x27_2) a2 t213 t214 _ A13.out).mono ?_); rintro e w' ⟨rfl, ⟨nd, rfl⟩⟩; (try first | exact ⟨rfl, _, wwN _ _ _⟩ | exact ⟨rfl, _, ww3 _ _ _ _⟩))); try go_wp2_with (first | (go_at_call 63; (with_reducible refine (thrumref01_Mul.calls (rd l0 x27_2) (rd l1 x27_2) a2 t213 t214 _ A13.out).mono ?_); rintro e w' ⟨rfl, ⟨nd, rfl⟩⟩; (try first | exact ⟨rfl, _, wwN _ _ _⟩ | exact ⟨rfl, _, ww3 _ _ _ _⟩))))
            go_ret2
            exact ⟨by first | rfl | (simp; done) | (simp [*]; done), by repeat (first | exact ddR _ | apply ddS)⟩
          ·
           rw [if_neg c12] at H
           exact absurd H (by simp)
         ·
          rw [if_neg c11] at H
          exact absurd H (by simp)
        ·
         rw [if_neg c10] at H
         exact absurd H (by simp)
       ·
        rw [if_neg c9] at H
        have c9b0 : decide (x27_2 < (l0.length : Int)) = false := decide_eq_false c9
        clear c9
        simp only [Option.some.injEq, Prod.mk.injEq] at H
        obtain ⟨rfl, rfl⟩ := H
        go_wp2
        repeat (go_quiet (fail); try go_wp2)
        go_ret2
        exact ⟨by first | rfl | (simp; done) | (simp [*]; done), by repeat (first | exact ddR _ | apply ddS)⟩
 ·
  rw [if_neg c5] at H
  have c5b0 : (t210 == 0) = false := beq_eq_false_iff_ne.mpr c5
  have c5b1 : (t210 != 0) = true := bne_iff_ne.mpr c5
  simp only [Option.some.injEq, Prod.mk.injEq] at H
  obtain ⟨rfl, rfl⟩ := H
  go_enter Try.func56, Try.ntmps56
  go_wp2_with (first | (go_at_call 73; (with_reducible refine (thrumref02_two.calls _ _ l0 _ _ l1 t210 _ ?side1 ?side2 ?side3 ?side4 A4.out).mono ?_); (case side1 => repeat (first | exact HR0.out | (with_reducible refine ccA ?_ _) | (with_reducible refine ccN ?_ _) | (with_reducible refine ccD ?_))); (case side2 => exact HC0.out); (case side3 => repeat (first | exact HR1.out | (with_reducible refine ccA ?_ _) | (with_reducible refine ccN ?_ _) | (with_reducible refine ccD ?_))); (case side4 => exact HC1.out); rintro e w' ⟨rfl, ⟨nd, rfl⟩⟩; (try first | exact ⟨rfl, _, wwN _ _ _⟩ | exact ⟨rfl, _, ww3 _ _ _ _⟩)))
  repeat (go_quiet (first | (go_at_call 73; (with_reducible refine (thrumref02_two.calls _ _ l0 _ _ l1 t210 _ ?side1 ?side2 ?side3 ?side4 A4.out).mono ?_); (case side1 => repeat (first | exact HR0.out | (with_reducible refine ccA ?_ _) | (with_reducible refine ccN ?_ _) | (with_reducible refine ccD ?_))); (case side2 => exact HC0.out); (case side3 => repeat (first | exact HR1.out | (with_reducible refine ccA ?_ _) | (with_reducible refine ccN ?_ _) | (with_reducible refine ccD ?_))); (case side4 => exact HC1.out); rintro e w' ⟨rfl, ⟨nd, rfl⟩⟩; (try first | exact ⟨rfl, _, wwN _ _ _⟩ | exact ⟨rfl, _, ww3 _ _ _ _⟩))); try go_wp2_with (first | (go_at_call 73; (with_reducible refine (thrumref02_two.calls _ _ l0 _ _ l1 t210 _ ?side1 ?side2 ?side3 ?side4 A4.out).mono ?_); (case side1 => repeat (first | exact HR0.out | (with_reducible refine ccA ?_ _) | (with_reducible refine ccN ?_ _) | (with_reducible refine ccD ?_))); (case side2 => exact HC0.out); (case side3 => repeat (first | exact HR1.out | (with_reducible refine ccA ?_ _) | (with_reducible refine ccN ?_ _) | (with_reducible refine ccD ?_))); (case side4 => exact HC1.out); rintro e w' ⟨rfl, ⟨nd, rfl⟩⟩; (try first | exact ⟨rfl, _, wwN _ _ _⟩ | exact ⟨rfl, _, ww3 _ _ _ _⟩))))
  go_ret2
  exact ⟨by first | rfl | (simp; done) | (simp [*]; done), by repeat (first | exact ddR _ | apply ddS)⟩

theorem thrumref02_DotP.loop (x0 x1 : List Int) (x2 : Int) (hl : x0.length = x1.length) (hb : x0.length ≤ 4096) : ∀ (d i : Nat) (s : Int), d + i = x0.length →
    thrumref02_DotP.l0 (d + 1) x0 x1 x2 s (x0.length : Int) (i : Int) = totalGo thrumref01_Add.f (fun i : Nat => thrumref01_Mul.f (rd x0 i) (rd x1 i) x2) d i s := by
  intro d
  induction d with
  | zero =>
    intro i s hd
    rw [thrumref02_DotP.l0, if_neg (by omega)]; rfl
  | succ d ih =>
    intro i s hd
    rw [thrumref02_DotP.l0, if_pos (by omega), if_pos (by omega), if_pos (by omega), if_pos (by omega), totalGo]
    congr 1; funext p
    by_cases c : p.2 = 0
    · rw [if_pos c, if_pos c]
      congr 1; funext q
      by_cases c2 : q.2 = 0
      · rw [if_pos c2, if_pos c2, wrap64_of (by unfold I64; omega), show (i : Int) + 1 = ((i + 1 : Nat) : Int) by omega]
        exact ih (i + 1) _ (by omega)
      · rw [if_neg c2, if_neg c2]
    · rw [if_neg c, if_neg c]
def thrumref02_Dot.f (l0 l1 : List Int) (a2 : Int) : Option (Int × Int) := if V64 l0 ∧ V64 l1 then some (dotV l0 l1 a2) else none
theorem thrumref02_Dot.of (l0 l1 : List Int) (a2 : Int)  (h_ : V64 l0 ∧ V64 l1) : thrumref02_Dot.f l0 l1 a2 = some (dotV l0 l1 a2) := if_pos h_
theorem thrumref02_Dot.calls (A0 : Option Addr) (c0 : Nat) (l0 : List Int) (A1 : Option Addr) (c1 : Nat) (l1 : List Int) (a2 : Int) (r1 : Int) (r2 : Int) (w : World) (hr0 : Kd.C (Kd.int .i64) w A0 l0.length l0) (hc0 : l0.length ≤ c0) (hr1 : Kd.C (Kd.int .i64) w A1 l1.length l1) (hc1 : l1.length ≤ c1) (h : thrumref02_Dot.f l0 l1 a2 = some (r1, r2)) :
    Calls Try.prog 56 #[.slice A0 l0.length c0, .slice A1 l1.length c1, .int .i64 a2] w fun e w' => e = .returned (.tuple #[.int .i64 r1, .int .i64 r2]) ∧ Drawn0 w w' := by
  unfold thrumref02_Dot.f at h
  split at h
  case isFalse => cases h
  rename_i hv
  refine thrumref02_DotP.calls (l0.length + 2) A0 c0 l0 A1 c1 l1 a2 r1 r2 w hr0 hc0 hr1 hc1 (Eq.trans ?_ h)
  unfold thrumref02_DotP.f thrumref02_two.f dotV fracE
  simp only [Option.bind_some]
  by_cases c : pairE l0 l1 = 0
  · rw [if_pos c, if_pos c]
    by_cases c2 : 0 ≤ a2 ∧ a2 ≤ 30
    · rw [if_neg (by omega), thrumref02_DotP.j0, if_neg (by simp; omega), if_pos c2, if_pos rfl]
      refine (thrumref02_DotP.loop l0 l1 a2 (pairE_len c) (pairE_le c) l0.length 0 0 (by omega)).trans ?_
      have hl := pairE_len c
      exact total_spec (fun a b ha hb => thrumref01_Add.of a b ⟨ha, hb⟩) (zip_i64 (fun x y => mulF_i64 x y a2) l0 l1) (ps := List.zipWith (fun x y => mulF x y a2) l0 l1) (by rw [List.length_zipWith]; omega) (fun j h => by rw [zip_get _ _ hl j h]; exact thrumref01_Mul.of _ _ _ ⟨hv.1.rd _, hv.2.rd _⟩)
    · rw [if_neg c2, if_neg (show ¬ (1 : Int) = 0 by decide)]
      by_cases c3 : a2 < 0
      · rw [if_pos c3, thrumref02_DotP.j0, if_pos rfl]
      · rw [if_neg c3, thrumref02_DotP.j0, if_pos (decide_eq_true (by omega))]
  · rw [if_neg c, if_neg c]


/-! ### thrumref14_TellP: function 37 -/
def thrumref14_TellP.f (l0 : List Int) (l1 : List Int) (a2 : Int) : Option (Int × Int) := (thrumref14_Check.f (l1.length : Int) l0 (([(⟨l1, 0⟩ : S26)] : List (S26)))).bind fun t220 => (if t220 = 0 then (if 0 ≤ (l1.length : Int) then (if (l1.length : Int) ≤ (l0.length : Int) then ((thrumref02_Dot.f (l0.take ((l1.length : Int) : Int).toNat) l1 a2).bind fun bt222 => (if bt222.2 = 0 then (if (l1.length : Int) < (l0.length : Int) then ((thrumref01_Add.f bt222.1 (rd l0 (l1.length : Int))).bind fun bt225 => (some (bt225.1, bt225.2))) else (none)) else (some (0, bt222.2)))) else (none)) else (none)) else (some (0, t220)))
set_option maxHeartbeats 8000000 in
set_option maxRecDepth 100000 in
theorem thrumref14_TellP.calls (A0 : Option Addr) (c0 : Nat) (l0 : List Int) (P1_ : Nat → Prop) (A1 : Option Addr) (c1 : Nat) (l1 : List Int) (a2 : Int) (r1 : Int) (r2 : Int) (w : World) (hr0 : Kd.C (Kd.int .i64) w A0 l0.length l0) (hc0 : l0.length ≤ c0) (hs1 : Kd.V (Kd.int .i64) 2 w w.heap.size (fun k_ => P1_ k_) (.slice A1 l1.length c1) l1) (h : thrumref14_TellP.f l0 l1 a2 = some (r1, r2)) :
  Calls Try.prog 37 #[.slice A0 l0.length c0, .slice A1 l1.length c1, .int .i64 a2] w fun e w' => e = .returned (.tuple #[.int .i64 r1, .int .i64 r2]) ∧ Below w.heap.size w w' := by
 have hu26 := Try.underlying26
 have HR0 := Aside0.mk hr0
 have HC0 := Aside0.mk hc0
 clear hr0 hc0
 have HO1 := Aside0.mk (show Kd.V (Kd.int .i64) 2 w w.heap.size (fun k_ => (P1_ k_ ∨ w.heap.size ≤ k_)) (.slice A1 l1.length c1) l1 from Kd.V_mono hs1 (fun k_ hk => .inl hk))
 have HB := Aside0.mk (Below.refl w.heap.size w)
 have H : ((thrumref14_Check.f (l1.length : Int) l0 (([(⟨l1, 0⟩ : S26)] : List (S26)))).bind fun t220 => (if t220 = 0 then (if 0 ≤ (l1.length : Int) then (if (l1.length : Int) ≤ (l0.length : Int) then ((thrumref02_Dot.f (l0.take ((l1.length : Int) : Int).toNat) l1 a2).bind fun bt222 => (if bt222.2 = 0 then (if (l1.length : Int) < (l0.length : Int) then ((thrumref01_Add.f bt222.1 (rd l0 (l1.length : Int))).bind fun bt225 => (some (bt225.1, bt225.2))) else (none)) else (some (0, bt222.2)))) else (none)) else (none)) else (some (0, t220)))) = some (r1, r2) := h
 clear h
 obtain ⟨y217, hy217⟩ : ∃ y_ : List (S26), y_ = (([(⟨l1, 0⟩ : S26)] : List (S26))) := ⟨_, rfl⟩
 replace H : ((thrumref14_Check.f (l1.length : Int) l0 y217).bind fun t220 => (if t220 = 0 then (if 0 ≤ (l1.length : Int) then (if (l1.length : Int) ≤ (l0.length : Int) then ((thrumref02_Dot.f (l0.take ((l1.length : Int) : Int).toNat) l1 a2).bind fun bt222 => (if bt222.2 = 0 then (if (l1.length : Int) < (l0.length : Int) then ((thrumref01_Add.f bt222.1 (rd l0 (l1.length : Int))).bind fun bt225 => (some (bt225.1, bt225.2))) else (none)) else (some (0, bt222.2)))) else (none)) else (none)) else (some (0, t220)))) = some (r1, r2) := by first | (rw [hy217]; with_reducible exact H) | (have H2_ := (Option.bind_some _ _).symm.trans H; rw [hy217]; with_reducible exact H2_) | (have H2_ := (Option.bind_some _ _).symm.trans H; with_reducible exact H2_) | with_reducible exact H | (rw [hy217]; exact H) | exact H
 have Ny217 := Aside0.mk hy217
 clear hy217
 replace H := Option.bind_eq_some_iff.mp H
 obtain ⟨t220, A40, H⟩ := H
 replace H : (if t220 = 0 then (if 0 ≤ (l1.length : Int) then (if (l1.length : Int) ≤ (l0.length : Int) then ((thrumref02_Dot.f (l0.take ((l1.length : Int) : Int).toNat) l1 a2).bind fun bt222 => (if bt222.2 = 0 then (if (l1.length : Int) < (l0.length : Int) then ((thrumref01_Add.f bt222.1 (rd l0 (l1.length : Int))).bind fun bt225 => (some (bt225.1, bt225.2))) else (none)) else (some (0, bt222.2)))) else (none)) else (none)) else (some (0, t220))) = some (r1, r2) := H
 have A4 := Aside0.mk A40
 clear A40
 by_cases c5 : t220 = 0
 ·
  rw [if_pos c5] at H
  have c5b0 : (t220 == 0) = true := beq_iff_eq.mpr c5
  have c5b1 : (t220 != 0) = false := bne_eq_false_iff_eq.mpr c5
  clear c5
  by_cases c6 : 0 ≤ (l1.length : Int)
  ·
   rw [if_pos c6] at H
   have c6b0 := eq_true c6
   have c6b1 : decide (0 ≤ (l1.length : Int)) = true := decide_eq_true c6
   clear c6
   by_cases c7 : (l1.length : Int) ≤ (l0.length : Int)
   ·
    rw [if_pos c7] at H
    have c7b0 := eq_true c7
    have c7b1 : decide ((l1.length : Int) ≤ (l0.length : Int)) = true := decide_eq_true c7
    clear c7
    replace H := Option.bind_eq_some_iff.mp H
    obtain ⟨⟨t222, t223⟩, A80, H⟩ := H
    replace H : (if t223 = 0 then (if (l1.length : Int) < (l0.length : Int) then ((thrumref01_Add.f t222 (rd l0 (l1.length : Int))).bind fun bt225 => (some (bt225.1, bt225.2))) else (none)) else (some (0, t223))) = some (r1, r2) := H
    have A8 := Aside0.mk A80
    clear A80
    by_cases c9 : t223 = 0
    ·
     rw [if_pos c9] at H
     have c9b0 : (t223 == 0) = true := beq_iff_eq.mpr c9
     have c9b1 : (t223 != 0) = false := bne_eq_false_iff_eq.mpr c9
     clear c9
     by_cases c10 : (l1.length : Int) < (l0.length : Int)
     ·
      rw [if_pos c10] at H
      have c10b0 : decide ((l1.length : Int) < (l0.length : Int)) = true := decide_eq_true c10
      have c10b1 : decide (l1.length < l0.length) = true := decide_eq_true (Int.ofNat_lt.mp c10)
      clear c10
      replace H := Option.bind_eq_some_iff.mp H
      obtain ⟨⟨t225, t226⟩, A110, H⟩ := H
      replace H : (some (t225, t226)) = some (r1, r2) := H
      have A11 := Aside0.mk A110
      clear A110
      simp only [Option.some.injEq, Prod.mk.injEq] at H
      obtain ⟨rfl, rfl⟩ := H
      go_enter Try.func37, Try.ntmps37
      go_wp2_with (first | ((with_reducible refine gate_dst (N := 16) rfl ?_); refine Kd.N_lit k26 _ 26 ?hg (N' := 16) ?hd (xs := ([(⟨l1, 0⟩ : S26)] : List (S26))) (inner := [.slice A1 l1.length c1, .int .i64 0]) (ok := (fun k_ => (P1_ k_ ∨ w.heap.size ≤ k_))) (okp := (fun k_ => (P1_ k_ ∨ w.heap.size ≤ k_))) ?hr ?hp (fun _ hk => hk) ((show ∀ k_, w.heap.size ≤ k_ → (fun k_ => (P1_ k_ ∨ w.heap.size ≤ k_)) k_ from fun k_ hk => (.inr (Nat.le_trans (zzS (by repeat (first | (with_reducible first | exact HB.out | apply zzA | apply zzN | apply zzD) | exact HB.out))) hk))) _ (Nat.le_refl _)) (Below.refl _ _) (Nat.le_refl _) (by simp) ?_; (case hd => rfl); (case hg => rfl); (case hr => first | (go_simp; done) | (go_simp; rfl)); (case hp => exact (Reps.c2 (show Kd.FK k26 _ _ (⟨l1, 0⟩ : S26) [.slice A1 l1.length c1, .int .i64 0] from (k26_mkF _ _ (⟨l1, 0⟩ : S26) (Kd.V_reads' (Kd.V_mono (ok' := (fun k_ => (P1_ k_ ∨ w.heap.size ≤ k_))) (HO1.out) (fun k_ hk => hk))).2.1 (Kd.V_F (base := w.heap.size) (e := 2) (Kd.V_mono (ok' := (fun k_ => (P1_ k_ ∨ w.heap.size ≤ k_))) (HO1.out) (fun k_ hk => hk))))) (Reps.none _ _))); intro v218 w12 ho13 hb hg_ hnew_; clear hg_ hnew_; (first | rw [← Ny217.out] at ho13 | (simp only [Int.reduceToNat] at ho13; rw [← Ny217.out] at ho13)); have n0_ := Aside0.mk (Kd.V_elder' (by (with_reducible repeat (first | apply Kd.V_alloc | apply Kd.V_drewN | apply Kd.V_drew)); exact HO1.out) (Kd.N_base ho13) hb); have n1_ := Aside0.mk (Kd.N_lower ho13 (zzS (by repeat (first | (with_reducible first | exact HB.out | apply zzA | apply zzN | apply zzD) | exact HB.out)))); have n2_ := Aside0.mk (zzT (by repeat (first | (with_reducible first | exact HB.out | apply zzA | apply zzN | apply zzD) | exact HB.out)) hb); clear HO1; clear HB; have HO1 := n0_; have HO219 := n1_; have HB := n2_; clear n0_ n1_ n2_; clear hb ho13; obtain ⟨Ao14, co14, eo14⟩ := Kd.N_slice HO219.out; subst eo14) | ((with_reducible refine gate_callee (f := 55) rfl ?_); refine goesL_ (some 17) rfl rfl Try.func55 (by kernel_rfl) rfl #[.int .i64 (l1.length : Int), .slice A0 l0.length c0, .slice Ao14 y217.length co14] rfl (by (try simp only [List.map_toArray, List.map_cons, List.map_nil]); first | done | rfl | (simp only [List.length_drop, List.length_take]; rfl)) ?_; (with_reducible refine (thrumref14_Check.calls (l1.length : Int) _ _ l0 _ _ y217 t220 _ ?side1 ?side2 ?side3 ?side4 A4.out).mono ?_); (case side1 => repeat (first | exact (Kd.C_below HR0.out HB.out) | (with_reducible refine ccA ?_ _) | (with_reducible refine ccN ?_ _) | (with_reducible refine ccD ?_))); (case side2 => exact HC0.out); (case side3 => repeat (first | exact (Kd.N_reads' HO219.out).2.2 | (with_reducible refine ccA ?_ _) | (with_reducible refine ccN ?_ _) | (with_reducible refine ccD ?_))); (case side4 => exact (Kd.N_reads' HO219.out).2.1); rintro e w15 ⟨rfl, hb⟩; refine ⟨_, rfl, ?_⟩; have n0_ := Aside0.mk (Kd.V_below (by (with_reducible repeat (first | apply Kd.V_alloc | apply Kd.V_drewN | apply Kd.V_drew)); exact HO1.out) hb); have n1_ := Aside0.mk (Kd.N_below (by (with_reducible repeat (first | apply Kd.N_alloc | apply Kd.N_drewN | apply Kd.N_drew)); exact HO219.out) hb); have n2_ := Aside0.mk (zzT (by repeat (first | (with_reducible first | exact HB.out | apply zzA | apply zzN | apply zzD) | exact HB.out)) hb); clear HO1; clear HO219; clear HB; have HO1 := n0_; have HO219 := n1_; have HB := n2_; clear n0_ n1_ n2_; (try clear hb); (try clear hb2); (try clear hk); (try clear hi); obtain ⟨i016, hi016, _, hsz16, _⟩ := info_parts info2; obtain ⟨hcut16, hA16, hC16⟩ := print_take_of (P := Try.prog) (Value.int .i64) 0 22 2 .i64 Try.underlying22 hi016 hsz16 A0 c0 l0 (l1.length : Int) (of_decide_eq_true (by first | (with_reducible assumption) | assumption)) (of_decide_eq_true (by first | (with_reducible assumption) | assumption)) HC0.out; have HR221 := Aside0.mk (Kd.C_of_reads (h1 := fun _ => rfl) (hA16 _ (Kd.reads_of_C HR0.out))); have HC221 := Aside0.mk hC16; clear hA16 hC16 hi016 hsz16) | ((with_reducible refine gate_callee (f := 56) rfl ?_); refine goesL_ (some 28) rfl rfl Try.func56 (by kernel_rfl) rfl #[.slice A0 (l0.take ((l1.length : Int) : Int).toNat).length c0, .slice A1 l1.length c1, .int .i64 a2] rfl (by (try simp only [List.map_toArray, List.map_cons, List.map_nil]); first | done | (rw [show (l0.take ((l1.length : Int) : Int).toNat).length = (l1.length : Int).toNat from (by rw [List.length_take]; have h_ : ((l1.length : Int) : Int) ≤ (l0.length : Int) := of_decide_eq_true (by first | (with_reducible assumption) | assumption); omega)] <;> rfl) | rfl | (simp only [List.length_drop, List.length_take]; rfl)) ?_; (with_reducible refine (thrumref02_Dot.calls _ _ (l0.take ((l1.length : Int) : Int).toNat) _ _ l1 a2 t222 t223 _ ?side1 ?side2 ?side3 ?side4 A8.out).mono ?_); (case side1 => repeat (first | exact (Kd.C_below HR221.out HB.out) | (with_reducible refine ccA ?_ _) | (with_reducible refine ccN ?_ _) | (with_reducible refine ccD ?_))); (case side2 => exact HC221.out); (case side3 => repeat (first | exact (Kd.V_reads' HO1.out).2.2 | (with_reducible refine ccA ?_ _) | (with_reducible refine ccN ?_ _) | (with_reducible refine ccD ?_))); (case side4 => exact (Kd.V_reads' HO1.out).2.1); rintro e w' ⟨rfl, ⟨nd, rfl⟩⟩; refine ⟨_, rfl, ?_⟩; have p224 : 0 ≤ ((l1.length : Int) : Int) := of_decide_eq_true (by first | (with_reducible assumption) | assumption); have q224 : (l1.length : Int) < (l0.length : Int) := of_decide_eq_true (by first | (with_reducible assumption) | assumption); obtain ⟨ad224, e224, hx224_0⟩ := Kd.at_int HR0.out (l1.length : Int) p224 q224; cases e224; replace hx224_0 := (HB.out.cell (World.block_lt_of_cell? w _ hx224_0)).trans hx224_0; (try simp only [Go.IntWalk.toNatUp] at hx224_0); replace p224 := eq_true p224; replace q224 := eq_true q224) | ((with_reducible refine gate_callee (f := 57) rfl ?_); refine goesL_ (some 40) rfl rfl Try.func57 (by kernel_rfl) rfl #[.int .i64 t222, .int .i64 (rd l0 (l1.length : Int))] rfl (by (try simp only [List.map_toArray, List.map_cons, List.map_nil]); first | done | rfl | (simp only [List.length_drop, List.length_take]; rfl)) ?_; (with_reducible refine (thrumref01_Add.calls t222 (rd l0 (l1.length : Int)) t225 t226 _ A11.out).mono ?_); rintro e w' ⟨rfl, ⟨nd, rfl⟩⟩; refine ⟨_, rfl, ?_⟩))
      go_ret2
      exact ⟨by first | rfl | (simp [errW_none, errW_some] <;> rfl) | (simp [*, errW_none, errW_some] <;> rfl), by repeat (first | (with_reducible first | exact HB.out | apply zzA | apply zzN | apply zzD) | exact HB.out)⟩
     ·
      rw [if_neg c10] at H
      exact absurd H (by simp)
    ·
     rw [if_neg c9] at H
     have c9b0 : (t223 == 0) = false := beq_eq_false_iff_ne.mpr c9
     have c9b1 : (t223 != 0) = true := bne_iff_ne.mpr c9
     simp only [Option.some.injEq, Prod.mk.injEq] at H
     obtain ⟨rfl, rfl⟩ := H
     go_enter Try.func37, Try.ntmps37
     go_wp2_with (first | ((with_reducible refine gate_dst (N := 16) rfl ?_); refine Kd.N_lit k26 _ 26 ?hg (N' := 16) ?hd (xs := ([(⟨l1, 0⟩ : S26)] : List (S26))) (inner := [.slice A1 l1.length c1, .int .i64 0]) (ok := (fun k_ => (P1_ k_ ∨ w.heap.size ≤ k_))) (okp := (fun k_ => (P1_ k_ ∨ w.heap.size ≤ k_))) ?hr ?hp (fun _ hk => hk) ((show ∀ k_, w.heap.size ≤ k_ → (fun k_ => (P1_ k_ ∨ w.heap.size ≤ k_)) k_ from fun k_ hk => (.inr (Nat.le_trans (zzS (by repeat (first | (with_reducible first | exact HB.out | apply zzA | apply zzN | apply zzD) | exact HB.out))) hk))) _ (Nat.le_refl _)) (Below.refl _ _) (Nat.le_refl _) (by simp) ?_; (case hd => rfl); (case hg => rfl); (case hr => first | (go_simp; done) | (go_simp; rfl)); (case hp => exact (Reps.c2 (show Kd.FK k26 _ _ (⟨l1, 0⟩ : S26) [.slice A1 l1.length c1, .int .i64 0] from (k26_mkF _ _ (⟨l1, 0⟩ : S26) (Kd.V_reads' (Kd.V_mono (ok' := (fun k_ => (P1_ k_ ∨ w.heap.size ≤ k_))) (HO1.out) (fun k_ hk => hk))).2.1 (Kd.V_F (base := w.heap.size) (e := 2) (Kd.V_mono (ok' := (fun k_ => (P1_ k_ ∨ w.heap.size ≤ k_))) (HO1.out) (fun k_ hk => hk))))) (Reps.none _ _))); intro v218 w17 ho18 hb hg_ hnew_; clear hg_ hnew_; (first | rw [← Ny217.out] at ho18 | (simp only [Int.reduceToNat] at ho18; rw [← Ny217.out] at ho18)); have n0_ := Aside0.mk (Kd.V_elder' (by (with_reducible repeat (first | apply Kd.V_alloc | apply Kd.V_drewN | apply Kd.V_drew)); exact HO1.out) (Kd.N_base ho18) hb); have n1_ := Aside0.mk (Kd.N_lower ho18 (zzS (by repeat (first | (with_reducible first | exact HB.out | apply zzA | apply zzN | apply zzD) | exact HB.out)))); have n2_ := Aside0.mk (zzT (by repeat (first | (with_reducible first | exact HB.out | apply zzA | apply zzN | apply zzD) | exact HB.out)) hb); clear HO1; clear HB; have HO1 := n0_; have HO219 := n1_; have HB := n2_; clear n0_ n1_ n2_; clear hb ho18; obtain ⟨Ao19, co19, eo19⟩ := Kd.N_slice HO219.out; subst eo19) | ((with_reducible refine gate_callee (f := 55) rfl ?_); refine goesL_ (some 17) rfl rfl Try.func55 (by kernel_rfl) rfl #[.int .i64 (l1.length : Int), .slice A0 l0.length c0, .slice Ao19 y217.length co19] rfl (by (try simp only [List.map_toArray, List.map_cons, List.map_nil]); first | done | rfl | (simp only [List.length_drop, List.length_take]; rfl)) ?_; (with_reducible refine (thrumref14_Check.calls (l1.length : Int) _ _ l0 _ _ y217 t220 _ ?side1 ?side2 ?side3 ?side4 A4.out).mono ?_); (case side1 => repeat (first | exact (Kd.C_below HR0.out HB.out) | (with_reducible refine ccA ?_ _) | (with_reducible refine ccN ?_ _) | (with_reducible refine ccD ?_))); (case side2 => exact HC0.out); (case side3 => repeat (first | exact (Kd.N_reads' HO219.out).2.2 | (with_reducible refine ccA ?_ _) | (with_reducible refine ccN ?_ _) | (with_reducible refine ccD ?_))); (case side4 => exact (Kd.N_reads' HO219.out).2.1); rintro e w20 ⟨rfl, hb⟩; refine ⟨_, rfl, ?_⟩; have n0_ := Aside0.mk (Kd.V_below (by (with_reducible repeat (first | apply Kd.V_alloc | apply Kd.V_drewN | apply Kd.V_drew)); exact HO1.out) hb); have n1_ := Aside0.mk (Kd.N_below (by (with_reducible repeat (first | apply Kd.N_alloc | apply Kd.N_drewN | apply Kd.N_drew)); exact HO219.out) hb); have n2_ := Aside0.mk (zzT (by repeat (first | (with_reducible first | exact HB.out | apply zzA | apply zzN | apply zzD) | exact HB.out)) hb); clear HO1; clear HO219; clear HB; have HO1 := n0_; have HO219 := n1_; have HB := n2_; clear n0_ n1_ n2_; (try clear hb); (try clear hb2); (try clear hk); (try clear hi); obtain ⟨i021, hi021, _, hsz21, _⟩ := info_parts info2; obtain ⟨hcut21, hA21, hC21⟩ := print_take_of (P := Try.prog) (Value.int .i64) 0 22 2 .i64 Try.underlying22 hi021 hsz21 A0 c0 l0 (l1.length : Int) (of_decide_eq_true (by first | (with_reducible assumption) | assumption)) (of_decide_eq_true (by first | (with_reducible assumption) | assumption)) HC0.out; have HR221 := Aside0.mk (Kd.C_of_reads (h1 := fun _ => rfl) (hA21 _ (Kd.reads_of_C HR0.out))); have HC221 := Aside0.mk hC21; clear hA21 hC21 hi021 hsz21) | ((with_reducible refine gate_callee (f := 56) rfl ?_); refine goesL_ (some 28) rfl rfl Try.func56 (by kernel_rfl) rfl #[.slice A0 (l0.take ((l1.length : Int) : Int).toNat).length c0, .slice A1 l1.length c1, .int .i64 a2] rfl (by (try simp only [List.map_toArray, List.map_cons, List.map_nil]); first | done | (rw [show (l0.take ((l1.length : Int) : Int).toNat).length = (l1.length : Int).toNat from (by rw [List.length_take]; have h_ : ((l1.length : Int) : Int) ≤ (l0.length : Int) := of_decide_eq_true (by first | (with_reducible assumption) | assumption); omega)] <;> rfl) | rfl | (simp only [List.length_drop, List.length_take]; rfl)) ?_; (with_reducible refine (thrumref02_Dot.calls _ _ (l0.take ((l1.length : Int) : Int).toNat) _ _ l1 a2 t222 t223 _ ?side1 ?side2 ?side3 ?side4 A8.out).mono ?_); (case side1 => repeat (first | exact (Kd.C_below HR221.out HB.out) | (with_reducible refine ccA ?_ _) | (with_reducible refine ccN ?_ _) | (with_reducible refine ccD ?_))); (case side2 => exact HC221.out); (case side3 => repeat (first | exact (Kd.V_reads' HO1.out).2.2 | (with_reducible refine ccA ?_ _) | (with_reducible refine ccN ?_ _) | (with_reducible refine ccD ?_))); (case side4 => exact (Kd.V_reads' HO1.out).2.1); rintro e w' ⟨rfl, ⟨nd, rfl⟩⟩; refine ⟨_, rfl, ?_⟩))
     go_ret2
     exact ⟨by first | rfl | (simp [errW_none, errW_some] <;> rfl) | (simp [*, errW_none, errW_some] <;> rfl), by repeat (first | (with_reducible first | exact HB.out | apply zzA | apply zzN | apply zzD) | exact HB.out)⟩
   ·
    rw [if_neg c7] at H
    exact absurd H (by simp)
  ·
   rw [if_neg c6] at H
   exact absurd H (by simp)
 ·
  rw [if_neg c5] at H
  have c5b0 : (t220 == 0) = false := beq_eq_false_iff_ne.mpr c5
  have c5b1 : (t220 != 0) = true := bne_iff_ne.mpr c5
  simp only [Option.some.injEq, Prod.mk.injEq] at H
  obtain ⟨rfl, rfl⟩ := H
  go_enter Try.func37, Try.ntmps37
  go_wp2_with (first | ((with_reducible refine gate_dst (N := 16) rfl ?_); refine Kd.N_lit k26 _ 26 ?hg (N' := 16) ?hd (xs := ([(⟨l1, 0⟩ : S26)] : List (S26))) (inner := [.slice A1 l1.length c1, .int .i64 0]) (ok := (fun k_ => (P1_ k_ ∨ w.heap.size ≤ k_))) (okp := (fun k_ => (P1_ k_ ∨ w.heap.size ≤ k_))) ?hr ?hp (fun _ hk => hk) ((show ∀ k_, w.heap.size ≤ k_ → (fun k_ => (P1_ k_ ∨ w.heap.size ≤ k_)) k_ from fun k_ hk => (.inr (Nat.le_trans (zzS (by repeat (first | (with_reducible first | exact HB.out | apply zzA | apply zzN | apply zzD) | exact HB.out))) hk))) _ (Nat.le_refl _)) (Below.refl _ _) (Nat.le_refl _) (by simp) ?_; (case hd => rfl); (case hg => rfl); (case hr => first | (go_simp; done) | (go_simp; rfl)); (case hp => exact (Reps.c2 (show Kd.FK k26 _ _ (⟨l1, 0⟩ : S26) [.slice A1 l1.length c1, .int .i64 0] from (k26_mkF _ _ (⟨l1, 0⟩ : S26) (Kd.V_reads' (Kd.V_mono (ok' := (fun k_ => (P1_ k_ ∨ w.heap.size ≤ k_))) (HO1.out) (fun k_ hk => hk))).2.1 (Kd.V_F (base := w.heap.size) (e := 2) (Kd.V_mono (ok' := (fun k_ => (P1_ k_ ∨ w.heap.size ≤ k_))) (HO1.out) (fun k_ hk => hk))))) (Reps.none _ _))); intro v218 w22 ho23 hb hg_ hnew_; clear hg_ hnew_; (first | rw [← Ny217.out] at ho23 | (simp only [Int.reduceToNat] at ho23; rw [← Ny217.out] at ho23)); have n0_ := Aside0.mk (Kd.V_elder' (by (with_reducible repeat (first | apply Kd.V_alloc | apply Kd.V_drewN | apply Kd.V_drew)); exact HO1.out) (Kd.N_base ho23) hb); have n1_ := Aside0.mk (Kd.N_lower ho23 (zzS (by repeat (first | (with_reducible first | exact HB.out | apply zzA | apply zzN | apply zzD) | exact HB.out)))); have n2_ := Aside0.mk (zzT (by repeat (first | (with_reducible first | exact HB.out | apply zzA | apply zzN | apply zzD) | exact HB.out)) hb); clear HO1; clear HB; have HO1 := n0_; have HO219 := n1_; have HB := n2_; clear n0_ n1_ n2_; clear hb ho23; obtain ⟨Ao24, co24, eo24⟩ := Kd.N_slice HO219.out; subst eo24) | ((with_reducible refine gate_callee (f := 55) rfl ?_); refine goesL_ (some 17) rfl rfl Try.func55 (by kernel_rfl) rfl #[.int .i64 (l1.length : Int), .slice A0 l0.length c0, .slice Ao24 y217.length co24] rfl (by (try simp only [List.map_toArray, List.map_cons, List.map_nil]); first | done | rfl | (simp only [List.length_drop, List.length_take]; rfl)) ?_; (with_reducible refine (thrumref14_Check.calls (l1.length : Int) _ _ l0 _ _ y217 t220 _ ?side1 ?side2 ?side3 ?side4 A4.out).mono ?_); (case side1 => repeat (first | exact (Kd.C_below HR0.out HB.out) | (with_reducible refine ccA ?_ _) | (with_reducible refine ccN ?_ _) | (with_reducible refine ccD ?_))); (case side2 => exact HC0.out); (case side3 => repeat (first | exact (Kd.N_reads' HO219.out).2.2 | (with_reducible refine ccA ?_ _) | (with_reducible refine ccN ?_ _) | (with_reducible refine ccD ?_))); (case side4 => exact (Kd.N_reads' HO219.out).2.1); rintro e w25 ⟨rfl, hb⟩; refine ⟨_, rfl, ?_⟩; have n0_ := Aside0.mk (Kd.V_below (by (with_reducible repeat (first | apply Kd.V_alloc | apply Kd.V_drewN | apply Kd.V_drew)); exact HO1.out) hb); have n1_ := Aside0.mk (Kd.N_below (by (with_reducible repeat (first | apply Kd.N_alloc | apply Kd.N_drewN | apply Kd.N_drew)); exact HO219.out) hb); have n2_ := Aside0.mk (zzT (by repeat (first | (with_reducible first | exact HB.out | apply zzA | apply zzN | apply zzD) | exact HB.out)) hb); clear HO1; clear HO219; clear HB; have HO1 := n0_; have HO219 := n1_; have HB := n2_; clear n0_ n1_ n2_; (try clear hb); (try clear hb2); (try clear hk); (try clear hi)))
  go_ret2
  exact ⟨by first | rfl | (simp [errW_none, errW_some] <;> rfl) | (simp [*, errW_none, errW_some] <;> rfl), by repeat (first | (with_reducible first | exact HB.out | apply zzA | apply zzN | apply zzD) | exact HB.out)⟩

def thrumref14_Tell.f (l0 l1 : List Int) (a2 : Int) : Option (Int × Int) := if V64 l0 ∧ V64 l1 then some (tellL l0 l1 a2) else none
theorem thrumref14_Tell.of (l0 l1 : List Int) (a2 : Int)  (h_ : V64 l0 ∧ V64 l1) : thrumref14_Tell.f l0 l1 a2 = some (tellL l0 l1 a2) := if_pos h_
theorem thrumref14_TellP.is (l0 l1 : List Int) (a2 : Int) (h0 : V64 l0) (h1 : V64 l1) : thrumref14_TellP.f l0 l1 a2 = some (tellL l0 l1 a2) := by
  unfold thrumref14_TellP.f tellL thrumref14_Check.f
  simp only [Option.bind_some, List.map_cons, List.map_nil, sm]
  by_cases c : checkL l1.length l0 [(l1, 0)] = 0
  · rw [if_pos c, if_pos c]
    obtain ⟨c1, c2, c3, -, -, -⟩ := checkL_len c
    rw [if_pos (by omega), if_pos (by omega), Int.toNat_natCast, thrumref02_Dot.of _ _ _ ⟨fun x hx => h0 x (List.mem_of_mem_take hx), h1⟩]
    simp only [Option.bind_some]
    by_cases d : (dotV (l0.take l1.length) l1 a2).2 = 0
    · rw [if_pos d, if_pos d, if_pos (by omega), thrumref01_Add.of _ _ ⟨dotV_i64 _ _ _, h0.rd _⟩]; rfl
    · rw [if_neg d, if_neg d]
  · rw [if_neg c, if_neg c]
theorem thrumref14_Tell.calls (A0 : Option Addr) (c0 : Nat) (l0 : List Int) (P1_ : Nat → Prop) (A1 : Option Addr) (c1 : Nat) (l1 : List Int) (a2 : Int) (r1 : Int) (r2 : Int) (w : World) (hr0 : Kd.C (Kd.int .i64) w A0 l0.length l0) (hc0 : l0.length ≤ c0) (hs1 : Kd.V (Kd.int .i64) 2 w w.heap.size (fun k_ => P1_ k_) (.slice A1 l1.length c1) l1) (h : thrumref14_Tell.f l0 l1 a2 = some (r1, r2)) :
    Calls Try.prog 37 #[.slice A0 l0.length c0, .slice A1 l1.length c1, .int .i64 a2] w fun e w' => e = .returned (.tuple #[.int .i64 r1, .int .i64 r2]) ∧ Below w.heap.size w w' := by
  unfold thrumref14_Tell.f at h
  split at h
  case isFalse => cases h
  rename_i hv
  exact thrumref14_TellP.calls A0 c0 l0 P1_ A1 c1 l1 a2 r1 r2 w hr0 hc0 hs1 ((thrumref14_TellP.is l0 l1 a2 hv.1 hv.2).trans h)


/-! ### thrumref16_HiddenP: function 15 -/
mutual
def thrumref16_HiddenP.j0 : Nat → List Int → Int → List (List Int) → Bool → Option (List Int × Int)
 | 0, _, _, _, _ => none
 | k + 1, x2, x3, x10, x41 => if x41 = true then (some (([] : List Int), 1)) else (thrumref16_HiddenP.l0 k x2 x3 ([] : List Int) x10 (x10.length : Int) 0)
def thrumref16_HiddenP.l0 : Nat → List Int → Int → List Int → List (List Int) → Int → Int → Option (List Int × Int)
 | 0, _, _, _, _, _, _ => none
 | k + 1, x2, x3, x13, x42, x43, x44 => if x44 < x43 then (if 0 ≤ x44 then (if x44 < (x42.length : Int) then ((thrumref14_Tell.f (rd_L1 x42 x44) x2 x3).bind fun bt236 => (if bt236.2 = 0 then (if x13.length < 17592186044416 then (thrumref16_HiddenP.l0 k x2 x3 (x13 ++ [bt236.1]) x42 x43 (wrap64 (x44 + 1))) else (none)) else (some (([] : List Int), bt236.2)))) else (none)) else (none)) else ((thrumref16_Bend.f x13).bind fun bt241 => (some (bt241.1, bt241.2)))
end
def thrumref16_HiddenP.f (k : Nat) (a0 : Int) (l1 : List Int) (l2 : List Int) (a3 : Int) : Option (List Int × Int) := (thrumref16_Split.f a0 l1).bind fun bt227 => (if bt227.2.2 = 0 then (if 0 < (bt227.1.length : Int) then (if ((rd_L1 bt227.1 0).length : Int) = (wrap64 ((l2.length : Int) + 1)) then (if a3 < 0 then (thrumref16_HiddenP.j0 k l2 a3 bt227.1 true) else (thrumref16_HiddenP.j0 k l2 a3 bt227.1 (decide (a3 > 30)))) else (some (([] : List Int), 4))) else (none)) else (some (([] : List Int), bt227.2.2)))
theorem thrumref16_HiddenP.mono_l : ∀ k, (∀ y0 y1 y2 y3, LeO (thrumref16_HiddenP.j0 k y0 y1 y2 y3) (thrumref16_HiddenP.j0 (k + 1) y0 y1 y2 y3)) ∧ (∀ y0 y1 y2 y3 y4 y5, LeO (thrumref16_HiddenP.l0 k y0 y1 y2 y3 y4 y5) (thrumref16_HiddenP.l0 (k + 1) y0 y1 y2 y3 y4 y5))
 | 0 => ⟨fun _ _ _ _ r h => by simp [thrumref16_HiddenP.j0] at h, fun _ _ _ _ _ _ r h => by simp [thrumref16_HiddenP.l0] at h⟩
 | k + 1 => by
  obtain ⟨ih0, ih1⟩ := thrumref16_HiddenP.mono_l k
  refine ⟨?_, ?_⟩
  ·
   intro y0 y1 y2 y3
   unfold thrumref16_HiddenP.j0
   repeat' first
   | (with_reducible exact ih0 _ _ _ _)
   | (with_reducible exact ih1 _ _ _ _ _ _)
   | (with_reducible exact LeO.refl _)
   | (with_reducible exact LeO.none _)
   | (with_reducible refine LeO.ite ?_ ?_)
   | (with_reducible refine LeO.bind ?_ (fun _ => ?_))
   | exact ih0 _ _ _ _
   | exact ih1 _ _ _ _ _ _
   | exact LeO.none _
   | refine LeO.ite ?_ ?_
   | refine LeO.bind ?_ (fun _ => ?_)
  ·
   intro y0 y1 y2 y3 y4 y5
   unfold thrumref16_HiddenP.l0
   repeat' first
   | (with_reducible exact ih0 _ _ _ _)
   | (with_reducible exact ih1 _ _ _ _ _ _)
   | (with_reducible exact LeO.refl _)
   | (with_reducible exact LeO.none _)
   | (with_reducible refine LeO.ite ?_ ?_)
   | (with_reducible refine LeO.bind ?_ (fun _ => ?_))
   | exact ih0 _ _ _ _
   | exact ih1 _ _ _ _ _ _
   | exact LeO.none _
   | refine LeO.ite ?_ ?_
   | refine LeO.bind ?_ (fun _ => ?_)
theorem thrumref16_HiddenP.mono : ∀ a0 a1 a2 a3 k, LeO (thrumref16_HiddenP.f k a0 a1 a2 a3) (thrumref16_HiddenP.f (k + 1) a0 a1 a2 a3) := by
 intro a0 a1 a2 a3 k
 obtain ⟨ih0, ih1⟩ := thrumref16_HiddenP.mono_l k
 unfold thrumref16_HiddenP.f
 repeat' first
   | (with_reducible exact ih0 _ _ _ _)
   | (with_reducible exact ih1 _ _ _ _ _ _)
   | (with_reducible exact LeO.refl _)
   | (with_reducible exact LeO.none _)
   | (with_reducible refine LeO.ite ?_ ?_)
   | (with_reducible refine LeO.bind ?_ (fun _ => ?_))
   | exact ih0 _ _ _ _
   | exact ih1 _ _ _ _ _ _
   | exact LeO.none _
   | refine LeO.ite ?_ ?_
   | refine LeO.bind ?_ (fun _ => ?_)
set_option maxHeartbeats 8000000 in
set_option maxRecDepth 100000 in
theorem thrumref16_HiddenP.calls (k : Nat) (a0 : Int) (A1 : Option Addr) (c1 : Nat) (l1 : List Int) (A2 : Option Addr) (c2 : Nat) (l2 : List Int) (a3 : Int) (r1 : List Int) (r2 : Int) (w : World) (hr1 : Kd.C (Kd.int .i64) w A1 l1.length l1) (hc1 : l1.length ≤ c1) (hr2 : Kd.C (Kd.int .i64) w A2 l2.length l2) (hc2 : l2.length ≤ c2) (h : thrumref16_HiddenP.f k a0 l1 l2 a3 = some (r1, r2)) :
  Calls Try.prog 15 #[.int .i64 a0, .slice A1 l1.length c1, .slice A2 l2.length c2, .int .i64 a3] w fun e w' => ∃ v0_ : Value, e = .returned (.tuple #[v0_, .int .i64 r2]) ∧ Kd.R (Kd.int .i64) 2 w' w.heap.size (fun _ => True) v0_ r1 ∧ Below w.heap.size w w' := by
 have HR1 := Aside0.mk hr1
 have HC1 := Aside0.mk hc1
 clear hr1 hc1
 have HR2 := Aside0.mk hr2
 have HC2 := Aside0.mk hc2
 clear hr2 hc2
 have HB := Aside0.mk (Below.refl w.heap.size w)
 have H : ((thrumref16_Split.f a0 l1).bind fun bt227 => (if bt227.2.2 = 0 then (if 0 < (bt227.1.length : Int) then (if ((rd_L1 bt227.1 0).length : Int) = (wrap64 ((l2.length : Int) + 1)) then (if a3 < 0 then (thrumref16_HiddenP.j0 k l2 a3 bt227.1 true) else (thrumref16_HiddenP.j0 k l2 a3 bt227.1 (decide (a3 > 30)))) else (some (([] : List Int), 4))) else (none)) else (some (([] : List Int), bt227.2.2)))) = some (r1, r2) := h
 clear h
 replace H := Option.bind_eq_some_iff.mp H
 obtain ⟨⟨t227, t228, t229⟩, A50, H⟩ := H
 replace H : (if t229 = 0 then (if 0 < (t227.length : Int) then (if ((rd_L1 t227 0).length : Int) = (wrap64 ((l2.length : Int) + 1)) then (if a3 < 0 then (thrumref16_HiddenP.j0 k l2 a3 t227 true) else (thrumref16_HiddenP.j0 k l2 a3 t227 (decide (a3 > 30)))) else (some (([] : List Int), 4))) else (none)) else (some (([] : List Int), t229))) = some (r1, r2) := H
 have A5 := Aside0.mk A50
 clear A50
 by_cases c6 : t229 = 0
 ·
  rw [if_pos c6] at H
  have c6b0 : (t229 == 0) = true := beq_iff_eq.mpr c6
  have c6b1 : (t229 != 0) = false := bne_eq_false_iff_eq.mpr c6
  clear c6
  by_cases c7 : 0 < (t227.length : Int)
  ·
   rw [if_pos c7] at H
   have c7b0 : decide (0 < (t227.length : Int)) = true := decide_eq_true c7
   have c7b1 : decide (0 < t227.length) = true := decide_eq_true (by omega)
   clear c7
   by_cases c8 : ((rd_L1 t227 0).length : Int) = (wrap64 ((l2.length : Int) + 1))
   ·
    rw [if_pos c8] at H
    have c8b0 : (((rd_L1 t227 0).length : Int) == (wrap64 ((l2.length : Int) + 1))) = true := beq_iff_eq.mpr c8
    have c8b1 : (((rd_L1 t227 0).length : Int) != (wrap64 ((l2.length : Int) + 1))) = false := bne_eq_false_iff_eq.mpr c8
    clear c8
    have HC9 := Aside0.mk H
    clear H
    go_enter Try.func15, Try.ntmps15
    go_upto_region 6 with (first | ((with_reducible refine gate_callee (f := 18) rfl ?_); refine goesL_ (some 21) rfl rfl Try.func18 (by kernel_rfl) rfl #[.int .i64 a0, .slice A1 l1.length c1] rfl (by (try simp only [List.map_toArray, List.map_cons, List.map_nil]); first | done | rfl | (simp only [List.length_drop, List.length_take]; rfl)) ?_; (with_reducible refine (thrumref16_Split.calls a0 _ _ l1 t227 t228 t229 _ ?side1 ?side2 A5.out).mono ?_); (case side1 => repeat (first | exact HR1.out | (with_reducible refine ccA ?_ _) | (with_reducible refine ccN ?_ _) | (with_reducible refine ccD ?_))); (case side2 => exact HC1.out); rintro e w10 ⟨v230, v232, rfl, ho0, ho1, hb⟩; refine ⟨_, rfl, ?_⟩; have n0_ := Aside0.mk (Kd.S_lower ho0 (zzS (by repeat (first | (with_reducible first | exact HB.out | apply zzA | apply zzN | apply zzD) | exact HB.out)))); have n1_ := Aside0.mk (Kd.R_lower ho1 (zzS (by repeat (first | (with_reducible first | exact HB.out | apply zzA | apply zzN | apply zzD) | exact HB.out)))); have n2_ := Aside0.mk (zzT (by repeat (first | (with_reducible first | exact HB.out | apply zzA | apply zzN | apply zzD) | exact HB.out)) hb); clear HB; have HO231 := n0_; have HO233 := n1_; have HB := n2_; clear n0_ n1_ n2_; (try clear hb); (try clear hb2); (try clear hk); (try clear hi); (try clear ho0); (try clear ho1); obtain ⟨Ao11, co11, eo11⟩ := Kd.S_slice HO231.out; subst eo11; have p234 : 0 ≤ (0 : Int) := (by omega); have q234 : 0 < (t227.length : Int) := of_decide_eq_true (by first | (with_reducible assumption) | assumption); obtain ⟨ad234, A234_0, c234_0, e234, hx234_0, hl234_0, hi234_0⟩ := at_L1 (Kd.S_reads' HO231.out).2.2 0 p234 q234; cases e234; obtain ⟨ce234, hce234, hMe234, hcc234⟩ := Kd.S_get HO231.out [] 0 p234 (by first | exact q234 | exact of_decide_eq_true (by first | (with_reducible assumption) | assumption) | (have e_ := (Kd.S_reads' HO231.out).1; omega)); obtain ⟨ve234_0, rfl, ge234_0⟩ := hMe234; have hv234_0 := hcc234 0 _ rfl; rw [Nat.add_zero, show ((Kd.slice 2 (Kd.int .i64))).sz = 1 from rfl, Nat.mul_one] at hv234_0; replace hv234_0 := Option.some.inj (hv234_0.symm.trans hx234_0); rw [hv234_0] at ge234_0; have HL234_0 := Aside0.mk (show Kd.R (Kd.int .i64) 2 _ _ _ _ (rd_L1 t227 0) from ge234_0); clear hv234_0 ge234_0; clear hcc234 hce234; have qi234 : (0 < t227.length) = True := eq_true (by omega); (try rw [show ((0 : Int)).toNat = 0 from rfl] at hx234_0); (try rw [Addr.add_zero'] at hx234_0); have HR234_0 := Aside0.mk hi234_0; have HC234_0 := Aside0.mk hl234_0; clear hi234_0 hl234_0; replace p234 := eq_true p234; replace q234 := eq_true q234))
    (try simp only [Act.put, List.setIfInBounds_toArray, List.set_cons_zero, List.set_cons_succ])
    go_cut [41] (fun v41 wc => ∃ (kq : Nat) (x41_8 : Bool), v41 = .bool x41_8 ∧ Aside0 (thrumref16_HiddenP.j0 kq l2 a3 t227 x41_8 = some (r1, r2)) ∧ Aside0 (kq ≤ k) ∧ Aside0 (Kd.S (Kd.slice 2 (Kd.int .i64)) 22 wc w.heap.size (fun _ => True) (.slice (some ad234) t227.length co11) t227) ∧ Aside0 (Kd.C (Kd.int .i64) wc A234_0 (rd_L1 t227 0).length (rd_L1 t227 0)) ∧ Aside0 (Below w.heap.size w wc))
    case first =>
     have H := HC9.out
     clear HC9
     by_cases c12 : a3 < 0
     ·
      rw [if_pos c12] at H
      have c12b0 : decide (a3 < 0) = true := decide_eq_true c12
      clear c12
      (first | rw [c12b0] | (simp only [i64_w, i32_w]; rw [c12b0]) | skip)
      have H' := Aside0.mk H
      clear H
      go_wp2
      go_meet
      case rel => exact ⟨_, (true), (by first | rfl | (simp; done) | (simp [*]; done)), H', ⟨by first | omega | exact Nat.le_refl _⟩, ⟨by (with_reducible repeat (first | apply Kd.S_alloc | apply Kd.S_drewN | apply Kd.S_drew)); exact Kd.S_mono HO231.out (fun _ hk => trivial)⟩, ⟨by repeat (first | (with_reducible exact HR234_0.out) | (with_reducible refine ccA ?_ _) | (with_reducible refine ccN ?_ _) | (with_reducible refine ccD ?_) | exact HR234_0.out)⟩, ⟨by repeat (first | (with_reducible first | exact HB.out | apply zzA | apply zzN | apply zzD) | exact HB.out)⟩⟩
     ·
      rw [if_neg c12] at H
      have c12b0 : decide (a3 < 0) = false := decide_eq_false c12
      clear c12
      (first | rw [c12b0] | (simp only [i64_w, i32_w]; rw [c12b0]) | skip)
      have H' := Aside0.mk H
      clear H
      go_wp2
      go_meet
      case rel => exact ⟨_, (decide (a3 > 30)), (by first | rfl | (simp; done) | (simp [*]; done)), H', ⟨by first | omega | exact Nat.le_refl _⟩, ⟨by (with_reducible repeat (first | apply Kd.S_alloc | apply Kd.S_drewN | apply Kd.S_drew)); exact Kd.S_mono HO231.out (fun _ hk => trivial)⟩, ⟨by repeat (first | (with_reducible exact HR234_0.out) | (with_reducible refine ccA ?_ _) | (with_reducible refine ccN ?_ _) | (with_reducible refine ccD ?_) | exact HR234_0.out)⟩, ⟨by repeat (first | (with_reducible first | exact HB.out | apply zzA | apply zzN | apply zzD) | exact HB.out)⟩⟩
    case rest =>
     clear HC9
     try clear c1
     try clear c2
     try clear p2
     try clear q2
     try clear hx2
     try clear qi2
     try clear c6
     try clear c6b0
     try clear c6b1
     try clear p6
     try clear c7
     try clear c7b0
     try clear c7b1
     try clear c8
     try clear c8b0
     try clear c8b1
     try clear c12
     try clear c12b0
     try clear hx234_0
     try clear p234
     try clear q234
     obtain ⟨kq, x41_8, rfl, HA, HJ8, HO_10, HR234_0, HB⟩ := hcut
     cases kq with
     | zero => exact absurd HA.out (by simp [thrumref16_HiddenP.j0])
     | succ kj8 =>
      have H := HA.out
      clear HA
      simp only [thrumref16_HiddenP.j0] at H
      by_cases c13 : x41_8 = true
      ·
       subst c13
       have H1 : (some (([] : List Int), 1)) = some (r1, r2) := by rw [if_pos rfl] at H; exact H
       clear H
       have H := H1
       clear H1
       simp only [Option.some.injEq, Prod.mk.injEq] at H
       obtain ⟨rfl, rfl⟩ := H
       go_wp2
       go_ret2
       exact ⟨_, by first | rfl | (simp [errW_none, errW_some] <;> rfl) | (simp [*, errW_none, errW_some] <;> rfl), by first | exact Kd.R_nil _ _ _ _ _ | exact Kd.N_nil _ _ _ _ _ | exact Kd.V_nil _ _ _ _ _ | exact Kd.Q_nil _ _ _ _ _ | exact Kd.S_nil _ _ _ _ _, by repeat (first | (with_reducible first | exact HB.out | apply zzA | apply zzN | apply zzD) | exact HB.out)⟩
      ·
       replace c13 := Bool.eq_false_iff.mpr c13
       subst c13
       have H1 : (thrumref16_HiddenP.l0 kj8 l2 a3 ([] : List Int) t227 (t227.length : Int) 0) = some (r1, r2) := by rw [if_neg (show ¬ (false = true) by decide)] at H; exact H
       clear H
       have H := H1
       clear H1
       have H' := Aside0.mk H
       clear H
       go_wp2
       go_loopg [13, 44] kj8 (fun kq v13 v44 w' => ∃ (x13_2 : List Int) (x44_2 : Int), v44 = .int .i64 x44_2 ∧ Aside0 (thrumref16_HiddenP.l0 kq l2 a3 x13_2 t227 (t227.length : Int) x44_2 = some (r1, r2)) ∧ Aside0 (kq ≤ kj8) ∧ Aside0 (Kd.R (Kd.int .i64) 2 w' w.heap.size (fun _ => True) v13 x13_2) ∧ Aside0 (Kd.S (Kd.slice 2 (Kd.int .i64)) 22 w' w.heap.size (fun k_ => some k_ ≠ (v13 : Value).ownBlock) (.slice (some ad234) t227.length co11) t227) ∧ Aside0 (Below w.heap.size w w'))
       case atStart => exact ⟨(([] : List Int)), (0), (by first | rfl | (simp; done) | (simp [*]; done)), H', ⟨Nat.le_refl _⟩, ⟨by first | exact Kd.R_nil _ _ _ _ _ | exact Kd.N_nil _ _ _ _ _ | exact Kd.V_nil _ _ _ _ _ | exact Kd.Q_nil _ _ _ _ _ | exact Kd.S_nil _ _ _ _ _⟩, ⟨by (with_reducible repeat (first | apply Kd.S_alloc | apply Kd.S_drewN | apply Kd.S_drew)); exact Kd.S_mono HO_10.out (fun _ hk => (by simp [Value.ownBlock]))⟩, ⟨by repeat (first | (with_reducible first | exact HB.out | apply zzA | apply zzN | apply zzD) | exact HB.out)⟩⟩
       case round =>
        clear H'
        try clear c1
        try clear c2
        try clear p2
        try clear q2
        try clear hx2
        try clear qi2
        try clear c6
        try clear c6b0
        try clear c6b1
        try clear p6
        try clear c7
        try clear c7b0
        try clear c7b1
        try clear c8
        try clear c8b0
        try clear c8b1
        try clear c12
        try clear c12b0
        try clear c13
        try clear hx234_0
        try clear p2
        try clear p234
        try clear p6
        try clear q2
        try clear q234
        obtain ⟨x13_2, x44_2, rfl, HA, HK2, HO_13, HO_42, HB⟩ := hrel
        cases gk with
        | zero => exact absurd HA.out (by simp [thrumref16_HiddenP.l0])
        | succ k2 =>
         have H := HA.out
         clear HA
         simp only [thrumref16_HiddenP.l0] at H
         by_cases c14 : x44_2 < (t227.length : Int)
         ·
          rw [if_pos c14] at H
          have c14b0 : decide (x44_2 < (t227.length : Int)) = true := decide_eq_true c14
          clear c14
          by_cases c15 : 0 ≤ x44_2
          ·
           rw [if_pos c15] at H
           have c15b0 : decide (0 ≤ x44_2) = true := decide_eq_true c15
           clear c15
           by_cases c16 : x44_2 < (t227.length : Int)
           ·
            rw [if_pos c16] at H
            have c16b0 : decide (x44_2 < (t227.length : Int)) = true := decide_eq_true c16
            clear c16
            replace H := Option.bind_eq_some_iff.mp H
            obtain ⟨⟨t236, t237⟩, A170, H⟩ := H
            replace H : (if t237 = 0 then (if x13_2.length < 17592186044416 then (thrumref16_HiddenP.l0 k2 l2 a3 (x13_2 ++ [t236]) t227 (t227.length : Int) (wrap64 (x44_2 + 1))) else (none)) else (some (([] : List Int), t237))) = some (r1, r2) := H
            have A17 := Aside0.mk A170
            clear A170
            by_cases c18 : t237 = 0
            ·
             rw [if_pos c18] at H
             have c18b0 : (t237 == 0) = true := beq_iff_eq.mpr c18
             have c18b1 : (t237 != 0) = false := bne_eq_false_iff_eq.mpr c18
             clear c18
             by_cases c19 : x13_2.length < 17592186044416
             ·
              rw [if_pos c19] at H
              have LMc19 := Aside0.mk c19
              clear c19
              obtain ⟨y238, hy238⟩ : ∃ y_ : List Int, y_ = (x13_2 ++ [t236]) := ⟨_, rfl⟩
              replace H : (thrumref16_HiddenP.l0 k2 l2 a3 y238 t227 (t227.length : Int) (wrap64 (x44_2 + 1))) = some (r1, r2) := by first | (rw [hy238]; with_reducible exact H) | (have H2_ := (Option.bind_some _ _).symm.trans H; rw [hy238]; with_reducible exact H2_) | (have H2_ := (Option.bind_some _ _).symm.trans H; with_reducible exact H2_) | with_reducible exact H | (rw [hy238]; exact H) | exact H
              have Ny238 := Aside0.mk hy238
              clear hy238
              have H' := Aside0.mk H
              clear H
              have p235 : 0 ≤ (x44_2 : Int) := of_decide_eq_true (by first | (with_reducible assumption) | assumption)
              have q235 : x44_2 < (t227.length : Int) := of_decide_eq_true (by first | (with_reducible assumption) | assumption)
              obtain ⟨ad235, A235_0, c235_0, e235, hx235_0, hl235_0, hi235_0⟩ := at_L1 (Kd.S_reads' HO_42.out).2.2 x44_2 p235 q235
              obtain rfl : ad234 = ad235 := (by injection e235)
              obtain ⟨ce235, hce235, hMe235, hcc235⟩ := Kd.S_get HO_42.out [] x44_2 p235 (by first | exact q235 | exact of_decide_eq_true (by first | (with_reducible assumption) | assumption) | (have e_ := (Kd.S_reads' HO_42.out).1; omega))
              obtain ⟨ve235_0, rfl, ge235_0⟩ := hMe235
              have hv235_0 := hcc235 0 _ rfl
              rw [Nat.add_zero, show ((Kd.slice 2 (Kd.int .i64))).sz = 1 from rfl, Nat.mul_one] at hv235_0
              replace hv235_0 := Option.some.inj (hv235_0.symm.trans hx235_0)
              rw [hv235_0] at ge235_0
              have HL235_0 := Aside0.mk (show Kd.R (Kd.int .i64) 2 _ _ _ _ (rd_L1 t227 x44_2) from ge235_0)
              clear hv235_0 ge235_0
              clear hcc235 hce235
              have HR235_0 := Aside0.mk hi235_0
              have HC235_0 := Aside0.mk hl235_0
              clear hi235_0 hl235_0
              replace p235 := eq_true p235
              replace q235 := eq_true q235
              go_wp2_with (first | ((with_reducible refine gate_callee (f := 37) rfl ?_); refine goesL_ (some 52) rfl rfl Try.func37 (by kernel_rfl) rfl #[.slice A235_0 (rd_L1 t227 x44_2).length c235_0, .slice A2 l2.length c2, .int .i64 a3] rfl (by (try simp only [List.map_toArray, List.map_cons, List.map_nil]); first | done | rfl | (simp only [List.length_drop, List.length_take]; rfl)) ?_; (with_reducible refine (thrumref14_Tell.calls _ _ (rd_L1 t227 x44_2) (fun k_ => k_ < w.heap.size) _ _ l2 a3 t236 t237 _ ?side1 ?side2 ?side3 A17.out).mono ?_); (case side1 => repeat (first | exact (by repeat (first | (with_reducible exact HR235_0.out) | (with_reducible refine ccA ?_ _) | (with_reducible refine ccN ?_ _) | (with_reducible refine ccD ?_) | exact HR235_0.out)) | (with_reducible refine ccA ?_ _) | (with_reducible refine ccN ?_ _) | (with_reducible refine ccD ?_))); (case side2 => exact HC235_0.out); (case side3 => exact Kd.V_mk HC2.out (Kd.F_below (Kd.C_F (Kd.heap_int .i64) HR2.out) (by repeat (first | (with_reducible first | exact HB.out | apply zzA | apply zzN | apply zzD) | exact HB.out)))); rintro e w20 ⟨rfl, hb⟩; refine ⟨_, rfl, ?_⟩; have n0_ := Aside0.mk (Kd.R_below (by (with_reducible repeat (first | apply rrA | apply rrN | apply rrD)); exact HO_13.out) hb); have n1_ := Aside0.mk (Kd.S_below (by (with_reducible repeat (first | apply Kd.S_alloc | apply Kd.S_drewN | apply Kd.S_drew)); exact HO_42.out) hb); have n2_ := Aside0.mk (Kd.R_below (by (with_reducible repeat (first | apply rrA | apply rrN | apply rrD)); exact HL235_0.out) hb); have n3_ := Aside0.mk (Kd.C_below (by repeat (first | (with_reducible exact HR235_0.out) | (with_reducible refine ccA ?_ _) | (with_reducible refine ccN ?_ _) | (with_reducible refine ccD ?_) | exact HR235_0.out)) hb); have n4_ := Aside0.mk (zzT (by repeat (first | (with_reducible first | exact HB.out | apply zzA | apply zzN | apply zzD) | exact HB.out)) hb); clear HO_13; clear HO_42; clear HL235_0; clear HR235_0; clear HB; have HO_13 := n0_; have HO_42 := n1_; have HL235_0 := n2_; have HR235_0 := n3_; have HB := n4_; clear n0_ n1_ n2_ n3_ n4_; (try clear hb); (try clear hb2); (try clear hk); (try clear hi)) | ((with_reducible refine gate_builtin (b := .append) (xs := #[.tmp 58, .tmp 60]) rfl ?_); at_builtin; refine Kd.R_append (Kd.int .i64) (w0 := w) w.heap.size rfl (.tmp 58) (.tmp 60) 22 2 (.int .i64 0) 8 rfl Try.underlying22 info2 rfl (by decide) (by omega) u13 x13_2 t236 [.int .i64 t236] (fun _ => True) (fun _ => False) rfl rfl ?aP (fun _ hk => hk.elim) ?aF ?aO ?aB ?aS ?aL ?_; (case aP => exact rfl); (case aB => exact (by repeat (first | (with_reducible first | exact HB.out | apply zzA | apply zzN | apply zzD) | exact HB.out))); (case aF => exact (fun _ _ => trivial)); (case aO => exact (by (with_reducible repeat (first | apply rrA | apply rrN | apply rrD)); exact HO_13.out)); (case aS => exact (zzS (by repeat (first | (with_reducible first | exact HB.out | apply zzA | apply zzN | apply zzD) | exact HB.out)))); (case aL => have := LMc19.out; omega); intro v239 w21 ho hb hg hat; rw [← Ny238.out] at ho; have n0_ := Aside0.mk (Kd.S_after (ok := (fun _ => True)) (by (with_reducible repeat (first | apply Kd.S_alloc | apply Kd.S_drewN | apply Kd.S_drew)); exact Kd.S_mono HO_42.out (fun _ hk => ⟨trivial, hk⟩)) hg hat); have n1_ := Aside0.mk (Kd.R_after (ok := (fun k_ => some k_ ≠ (.slice (some ad234) t227.length co11 : Value).ownBlock)) (by (with_reducible repeat (first | apply rrA | apply rrN | apply rrD)); exact Kd.R_mono HL235_0.out (fun _ hk => ⟨hk.2, hk.1⟩)) hg hat); have n2_ := Aside0.mk (hb); have n3_ := Aside0.mk (ho); clear HO_42; clear HL235_0; clear HB; clear HO_13; have HO_42 := n0_; have HL235_0 := n1_; have HB := n2_; have HO240 := n3_; clear n0_ n1_ n2_ n3_; clear ho hb hg hat))
              go_roundg k2
              case measure => have := HJ8.out; have := HK2.out; omega
              case rel => exact ⟨(y238), (wrap64 (x44_2 + 1)), (by first | rfl | (simp; done) | (simp [*]; done)), H', ⟨by have := HJ8.out; have := HK2.out; omega⟩, ⟨by (with_reducible repeat (first | apply rrA | apply rrN | apply rrD)); exact HO240.out⟩, ⟨by (with_reducible repeat (first | apply Kd.S_alloc | apply Kd.S_drewN | apply Kd.S_drew)); exact Kd.S_mono HO_42.out (fun _ hk => hk.2)⟩, ⟨by repeat (first | (with_reducible first | exact HB.out | apply zzA | apply zzN | apply zzD) | exact HB.out)⟩⟩
             ·
              rw [if_neg c19] at H
              exact absurd H (by simp)
            ·
             rw [if_neg c18] at H
             have c18b0 : (t237 == 0) = false := beq_eq_false_iff_ne.mpr c18
             have c18b1 : (t237 != 0) = true := bne_iff_ne.mpr c18
             simp only [Option.some.injEq, Prod.mk.injEq] at H
             obtain ⟨rfl, rfl⟩ := H
             have p235 : 0 ≤ (x44_2 : Int) := of_decide_eq_true (by first | (with_reducible assumption) | assumption)
             have q235 : x44_2 < (t227.length : Int) := of_decide_eq_true (by first | (with_reducible assumption) | assumption)
             obtain ⟨ad235, A235_0, c235_0, e235, hx235_0, hl235_0, hi235_0⟩ := at_L1 (Kd.S_reads' HO_42.out).2.2 x44_2 p235 q235
             obtain rfl : ad234 = ad235 := (by injection e235)
             obtain ⟨ce235, hce235, hMe235, hcc235⟩ := Kd.S_get HO_42.out [] x44_2 p235 (by first | exact q235 | exact of_decide_eq_true (by first | (with_reducible assumption) | assumption) | (have e_ := (Kd.S_reads' HO_42.out).1; omega))
             obtain ⟨ve235_0, rfl, ge235_0⟩ := hMe235
             have hv235_0 := hcc235 0 _ rfl
             rw [Nat.add_zero, show ((Kd.slice 2 (Kd.int .i64))).sz = 1 from rfl, Nat.mul_one] at hv235_0
             replace hv235_0 := Option.some.inj (hv235_0.symm.trans hx235_0)
             rw [hv235_0] at ge235_0
             have HL235_0 := Aside0.mk (show Kd.R (Kd.int .i64) 2 _ _ _ _ (rd_L1 t227 x44_2) from ge235_0)
             clear hv235_0 ge235_0
             clear hcc235 hce235
             have HR235_0 := Aside0.mk hi235_0
             have HC235_0 := Aside0.mk hl235_0
             clear hi235_0 hl235_0
             replace p235 := eq_true p235
             replace q235 := eq_true q235
             go_wp2_with (first | ((with_reducible refine gate_callee (f := 37) rfl ?_); refine goesL_ (some 52) rfl rfl Try.func37 (by kernel_rfl) rfl #[.slice A235_0 (rd_L1 t227 x44_2).length c235_0, .slice A2 l2.length c2, .int .i64 a3] rfl (by (try simp only [List.map_toArray, List.map_cons, List.map_nil]); first | done | rfl | (simp only [List.length_drop, List.length_take]; rfl)) ?_; (with_reducible refine (thrumref14_Tell.calls _ _ (rd_L1 t227 x44_2) (fun k_ => k_ < w.heap.size) _ _ l2 a3 t236 t237 _ ?side1 ?side2 ?side3 A17.out).mono ?_); (case side1 => repeat (first | exact (by repeat (first | (with_reducible exact HR235_0.out) | (with_reducible refine ccA ?_ _) | (with_reducible refine ccN ?_ _) | (with_reducible refine ccD ?_) | exact HR235_0.out)) | (with_reducible refine ccA ?_ _) | (with_reducible refine ccN ?_ _) | (with_reducible refine ccD ?_))); (case side2 => exact HC235_0.out); (case side3 => exact Kd.V_mk HC2.out (Kd.F_below (Kd.C_F (Kd.heap_int .i64) HR2.out) (by repeat (first | (with_reducible first | exact HB.out | apply zzA | apply zzN | apply zzD) | exact HB.out)))); rintro e w22 ⟨rfl, hb⟩; refine ⟨_, rfl, ?_⟩; have n0_ := Aside0.mk (Kd.R_below (by (with_reducible repeat (first | apply rrA | apply rrN | apply rrD)); exact HO_13.out) hb); have n1_ := Aside0.mk (Kd.S_below (by (with_reducible repeat (first | apply Kd.S_alloc | apply Kd.S_drewN | apply Kd.S_drew)); exact HO_42.out) hb); have n2_ := Aside0.mk (Kd.R_below (by (with_reducible repeat (first | apply rrA | apply rrN | apply rrD)); exact HL235_0.out) hb); have n3_ := Aside0.mk (Kd.C_below (by repeat (first | (with_reducible exact HR235_0.out) | (with_reducible refine ccA ?_ _) | (with_reducible refine ccN ?_ _) | (with_reducible refine ccD ?_) | exact HR235_0.out)) hb); have n4_ := Aside0.mk (zzT (by repeat (first | (with_reducible first | exact HB.out | apply zzA | apply zzN | apply zzD) | exact HB.out)) hb); clear HO_13; clear HO_42; clear HL235_0; clear HR235_0; clear HB; have HO_13 := n0_; have HO_42 := n1_; have HL235_0 := n2_; have HR235_0 := n3_; have HB := n4_; clear n0_ n1_ n2_ n3_ n4_; (try clear hb); (try clear hb2); (try clear hk); (try clear hi)))
             go_ret2
             exact ⟨_, by first | rfl | (simp [errW_none, errW_some] <;> rfl) | (simp [*, errW_none, errW_some] <;> rfl), by first | exact Kd.R_nil _ _ _ _ _ | exact Kd.N_nil _ _ _ _ _ | exact Kd.V_nil _ _ _ _ _ | exact Kd.Q_nil _ _ _ _ _ | exact Kd.S_nil _ _ _ _ _, by repeat (first | (with_reducible first | exact HB.out | apply zzA | apply zzN | apply zzD) | exact HB.out)⟩
           ·
            rw [if_neg c16] at H
            exact absurd H (by simp)
          ·
           rw [if_neg c15] at H
           exact absurd H (by simp)
         ·
          rw [if_neg c14] at H
          have c14b0 : decide (x44_2 < (t227.length : Int)) = false := decide_eq_false c14
          clear c14
          replace H := Option.bind_eq_some_iff.mp H
          obtain ⟨⟨t241, t242⟩, A230, H⟩ := H
          replace H : (some (t241, t242)) = some (r1, r2) := H
          have A23 := Aside0.mk A230
          clear A230
          simp only [Option.some.injEq, Prod.mk.injEq] at H
          obtain ⟨rfl, rfl⟩ := H
          obtain ⟨Ao24, co24, eo24⟩ := Kd.R_slice HO_13.out
          subst eo24
          go_wp2_with (first | ((with_reducible refine gate_callee (f := 22) rfl ?_); refine goesL_ (some 64) rfl rfl Try.func22 (by kernel_rfl) rfl #[.slice Ao24 x13_2.length co24] rfl (by (try simp only [List.map_toArray, List.map_cons, List.map_nil]); first | done | rfl | (simp only [List.length_drop, List.length_take]; rfl)) ?_; (with_reducible refine (thrumref16_Bend.calls _ _ x13_2 t241 t242 _ ?side1 ?side2 A23.out).mono ?_); (case side1 => repeat (first | exact (Kd.R_reads' HO_13.out).2.2 | (with_reducible refine ccA ?_ _) | (with_reducible refine ccN ?_ _) | (with_reducible refine ccD ?_))); (case side2 => exact (Kd.R_reads' HO_13.out).2.1); rintro e w25 ⟨v243, rfl, ho0, hb⟩; refine ⟨_, rfl, ?_⟩; have n0_ := Aside0.mk (Kd.R_elder' (by (with_reducible repeat (first | apply rrA | apply rrN | apply rrD)); exact HO_13.out) (Kd.R_base ho0) hb); have n1_ := Aside0.mk (Kd.S_elder' (by (with_reducible repeat (first | apply Kd.S_alloc | apply Kd.S_drewN | apply Kd.S_drew)); exact HO_42.out) (Kd.R_base ho0) hb); have n2_ := Aside0.mk (Kd.R_lower (Kd.R_new' ho0 (Kd.R_lt (by (with_reducible repeat (first | apply rrA | apply rrN | apply rrD)); exact HO_13.out))) (zzS (by repeat (first | (with_reducible first | exact HB.out | apply zzA | apply zzN | apply zzD) | exact HB.out)))); have n3_ := Aside0.mk (zzT (by repeat (first | (with_reducible first | exact HB.out | apply zzA | apply zzN | apply zzD) | exact HB.out)) hb); clear HO_13; clear HO_42; clear HB; have HO_13 := n0_; have HO_42 := n1_; have HO244 := n2_; have HB := n3_; clear n0_ n1_ n2_ n3_; (try clear hb); (try clear hb2); (try clear hk); (try clear hi); (try clear ho0)))
          go_ret2
          exact ⟨_, by first | rfl | (simp [errW_none, errW_some] <;> rfl) | (simp [*, errW_none, errW_some] <;> rfl), by (with_reducible repeat (first | apply rrA | apply rrN | apply rrD)); exact Kd.R_mono HO244.out (fun _ hk => trivial), by repeat (first | (with_reducible first | exact HB.out | apply zzA | apply zzN | apply zzD) | exact HB.out)⟩
   ·
    rw [if_neg c8] at H
    have c8b0 : (((rd_L1 t227 0).length : Int) == (wrap64 ((l2.length : Int) + 1))) = false := beq_eq_false_iff_ne.mpr c8
    have c8b1 : (((rd_L1 t227 0).length : Int) != (wrap64 ((l2.length : Int) + 1))) = true := bne_iff_ne.mpr c8
    simp only [Option.some.injEq, Prod.mk.injEq] at H
    obtain ⟨rfl, rfl⟩ := H
    go_enter Try.func15, Try.ntmps15
    go_wp2_with (first | ((with_reducible refine gate_callee (f := 18) rfl ?_); refine goesL_ (some 21) rfl rfl Try.func18 (by kernel_rfl) rfl #[.int .i64 a0, .slice A1 l1.length c1] rfl (by (try simp only [List.map_toArray, List.map_cons, List.map_nil]); first | done | rfl | (simp only [List.length_drop, List.length_take]; rfl)) ?_; (with_reducible refine (thrumref16_Split.calls a0 _ _ l1 t227 t228 t229 _ ?side1 ?side2 A5.out).mono ?_); (case side1 => repeat (first | exact HR1.out | (with_reducible refine ccA ?_ _) | (with_reducible refine ccN ?_ _) | (with_reducible refine ccD ?_))); (case side2 => exact HC1.out); rintro e w26 ⟨v230, v232, rfl, ho0, ho1, hb⟩; refine ⟨_, rfl, ?_⟩; have n0_ := Aside0.mk (Kd.S_lower ho0 (zzS (by repeat (first | (with_reducible first | exact HB.out | apply zzA | apply zzN | apply zzD) | exact HB.out)))); have n1_ := Aside0.mk (Kd.R_lower ho1 (zzS (by repeat (first | (with_reducible first | exact HB.out | apply zzA | apply zzN | apply zzD) | exact HB.out)))); have n2_ := Aside0.mk (zzT (by repeat (first | (with_reducible first | exact HB.out | apply zzA | apply zzN | apply zzD) | exact HB.out)) hb); clear HB; have HO231 := n0_; have HO233 := n1_; have HB := n2_; clear n0_ n1_ n2_; (try clear hb); (try clear hb2); (try clear hk); (try clear hi); (try clear ho0); (try clear ho1); obtain ⟨Ao27, co27, eo27⟩ := Kd.S_slice HO231.out; subst eo27; have p234 : 0 ≤ (0 : Int) := (by omega); have q234 : 0 < (t227.length : Int) := of_decide_eq_true (by first | (with_reducible assumption) | assumption); obtain ⟨ad234, A234_0, c234_0, e234, hx234_0, hl234_0, hi234_0⟩ := at_L1 (Kd.S_reads' HO231.out).2.2 0 p234 q234; cases e234; obtain ⟨ce234, hce234, hMe234, hcc234⟩ := Kd.S_get HO231.out [] 0 p234 (by first | exact q234 | exact of_decide_eq_true (by first | (with_reducible assumption) | assumption) | (have e_ := (Kd.S_reads' HO231.out).1; omega)); obtain ⟨ve234_0, rfl, ge234_0⟩ := hMe234; have hv234_0 := hcc234 0 _ rfl; rw [Nat.add_zero, show ((Kd.slice 2 (Kd.int .i64))).sz = 1 from rfl, Nat.mul_one] at hv234_0; replace hv234_0 := Option.some.inj (hv234_0.symm.trans hx234_0); rw [hv234_0] at ge234_0; have HL234_0 := Aside0.mk (show Kd.R (Kd.int .i64) 2 _ _ _ _ (rd_L1 t227 0) from ge234_0); clear hv234_0 ge234_0; clear hcc234 hce234; have qi234 : (0 < t227.length) = True := eq_true (by omega); (try rw [show ((0 : Int)).toNat = 0 from rfl] at hx234_0); (try rw [Addr.add_zero'] at hx234_0); have HR234_0 := Aside0.mk hi234_0; have HC234_0 := Aside0.mk hl234_0; clear hi234_0 hl234_0; replace p234 := eq_true p234; replace q234 := eq_true q234))
    go_ret2
    exact ⟨_, by first | rfl | (simp [errW_none, errW_some] <;> rfl) | (simp [*, errW_none, errW_some] <;> rfl), by first | exact Kd.R_nil _ _ _ _ _ | exact Kd.N_nil _ _ _ _ _ | exact Kd.V_nil _ _ _ _ _ | exact Kd.Q_nil _ _ _ _ _ | exact Kd.S_nil _ _ _ _ _, by repeat (first | (with_reducible first | exact HB.out | apply zzA | apply zzN | apply zzD) | exact HB.out)⟩
  ·
   rw [if_neg c7] at H
   exact absurd H (by simp)
 ·
  rw [if_neg c6] at H
  have c6b0 : (t229 == 0) = false := beq_eq_false_iff_ne.mpr c6
  have c6b1 : (t229 != 0) = true := bne_iff_ne.mpr c6
  simp only [Option.some.injEq, Prod.mk.injEq] at H
  obtain ⟨rfl, rfl⟩ := H
  go_enter Try.func15, Try.ntmps15
  go_wp2_with (first | ((with_reducible refine gate_callee (f := 18) rfl ?_); refine goesL_ (some 21) rfl rfl Try.func18 (by kernel_rfl) rfl #[.int .i64 a0, .slice A1 l1.length c1] rfl (by (try simp only [List.map_toArray, List.map_cons, List.map_nil]); first | done | rfl | (simp only [List.length_drop, List.length_take]; rfl)) ?_; (with_reducible refine (thrumref16_Split.calls a0 _ _ l1 t227 t228 t229 _ ?side1 ?side2 A5.out).mono ?_); (case side1 => repeat (first | exact HR1.out | (with_reducible refine ccA ?_ _) | (with_reducible refine ccN ?_ _) | (with_reducible refine ccD ?_))); (case side2 => exact HC1.out); rintro e w28 ⟨v230, v232, rfl, ho0, ho1, hb⟩; refine ⟨_, rfl, ?_⟩; have n0_ := Aside0.mk (Kd.S_lower ho0 (zzS (by repeat (first | (with_reducible first | exact HB.out | apply zzA | apply zzN | apply zzD) | exact HB.out)))); have n1_ := Aside0.mk (Kd.R_lower ho1 (zzS (by repeat (first | (with_reducible first | exact HB.out | apply zzA | apply zzN | apply zzD) | exact HB.out)))); have n2_ := Aside0.mk (zzT (by repeat (first | (with_reducible first | exact HB.out | apply zzA | apply zzN | apply zzD) | exact HB.out)) hb); clear HB; have HO231 := n0_; have HO233 := n1_; have HB := n2_; clear n0_ n1_ n2_; (try clear hb); (try clear hb2); (try clear hk); (try clear hi); (try clear ho0); (try clear ho1)))
  go_ret2
  exact ⟨_, by first | rfl | (simp [errW_none, errW_some] <;> rfl) | (simp [*, errW_none, errW_some] <;> rfl), by first | exact Kd.R_nil _ _ _ _ _ | exact Kd.N_nil _ _ _ _ _ | exact Kd.V_nil _ _ _ _ _ | exact Kd.Q_nil _ _ _ _ _ | exact Kd.S_nil _ _ _ _ _, by repeat (first | (with_reducible first | exact HB.out | apply zzA | apply zzN | apply zzD) | exact HB.out)⟩

def thrumref16_Hidden.f (a0 : Int) (l1 l2 : List Int) (a3 : Int) : Option (List Int × Int) := if V64 l1 ∧ V64 l2 then some (hidM a0 l1 l2 a3) else none
theorem thrumref16_Hidden.of (a0 : Int) (l1 l2 : List Int) (a3 : Int)  (h_ : V64 l1 ∧ V64 l2) : thrumref16_Hidden.f a0 l1 l2 a3 = some (hidM a0 l1 l2 a3) := if_pos h_
theorem thrumref16_HiddenP.loop (x : List Int) (f : Int) (rows : List (List Int)) (hx : V64 x) (hrv : ∀ r ∈ rows, V64 r) (hb : rows.length ≤ 4096) : ∀ (d i : Nat) (acc : List Int), d + i = rows.length → acc.length = i →
    thrumref16_HiddenP.l0 (d + 1) x f acc rows (rows.length : Int) (i : Int) = some (if (seqV ((rows.drop i).map fun row => tellL row x f)).2 = 0 then bendM (acc ++ (seqV ((rows.drop i).map fun row => tellL row x f)).1) else ([], (seqV ((rows.drop i).map fun row => tellL row x f)).2)) := by
  intro d
  induction d with
  | zero =>
    intro i acc hd ha
    rw [thrumref16_HiddenP.l0, if_neg (by omega), List.drop_eq_nil_of_le (by omega)]
    simp only [List.map_nil, seqV, if_true, List.append_nil, thrumref16_Bend.f, Option.bind_some]
  | succ d ih =>
    intro i acc hd ha
    have hi : i < rows.length := by omega
    have hrd : rd_L1 rows (i : Int) = rows[i] := by unfold rd_L1; rw [Int.toNat_natCast, List.getD_eq_getElem?_getD, List.getElem?_eq_getElem hi, Option.getD_some]
    rw [thrumref16_HiddenP.l0, if_pos (by omega), if_pos (by omega), if_pos (by omega), hrd, thrumref14_Tell.of _ _ _ ⟨hrv _ (List.getElem_mem hi), hx⟩, Option.bind_some, List.drop_eq_getElem_cons hi, List.map_cons]
    obtain ⟨⟨t, e⟩, hp⟩ : ∃ p, tellL rows[i] x f = p := ⟨_, rfl⟩
    rw [hp]
    simp only [seqV]
    by_cases c : e = 0
    · rw [if_pos c, if_pos c, if_pos (by omega), wrap64_of (by unfold I64; omega), show (i : Int) + 1 = ((i + 1 : Nat) : Int) by omega, ih (i + 1) _ (by omega) (by rw [List.length_append, List.length_singleton]; omega)]
      obtain ⟨⟨ys, e2⟩, hq⟩ : ∃ p, seqV ((rows.drop (i + 1)).map fun row => tellL row x f) = p := ⟨_, rfl⟩
      rw [hq]
      simp only []
      by_cases c2 : e2 = 0
      · rw [if_pos c2, if_pos c2, if_pos rfl, List.append_assoc]; rfl
      · rw [if_neg c2, if_neg c2, if_neg c2]
    · rw [if_neg c, if_neg c, if_neg c]
theorem lenm_wrap {m n : Nat} (h0 : 2 ≤ m) (h1 : m ≤ 17) (hn : n ≤ 9223372036854775807) : ((m : Int) = wrap64 ((n : Int) + 1)) ↔ ((n : Int) = (m : Int) - 1) := by
  by_cases c : n ≤ 9223372036854775806
  · rw [wrap64_of (by unfold I64; omega)]; omega
  · have e : n = 9223372036854775807 := by omega
    rw [e, show wrap64 (((9223372036854775807 : Nat) : Int) + 1) = -9223372036854775808 by decide +kernel]
    omega
theorem thrumref16_HiddenP.is (a0 : Int) (w x : List Int) (f : Int) (hw : V64 w) (hx : V64 x) (hn : x.length ≤ 9223372036854775807) : thrumref16_HiddenP.f ((splitM a0 w).1.length + 1 + 1) a0 w x f = some (hidM a0 w x f) := by
  unfold thrumref16_HiddenP.f hidM
  rw [thrumref16_Split.f, Option.bind_some]
  by_cases s : (splitM a0 w).2.2 = 0
  · rw [if_pos s, if_pos s]
    obtain ⟨k, m, rfl, hk1, hk8, hm2, hm17, hkm, hlm, hsp⟩ := splitM_good s
    rw [hlm, hsp]
    dsimp only
    have hrl := rowsM_len k m w
    have hhd : (rd_L1 (rowsM k m w) 0).length = m := by
      have h0 : 0 < (rowsM k m w).length := by rw [hrl]; omega
      unfold rd_L1
      rw [show (0 : Int).toNat = 0 from rfl, List.getD_eq_getElem?_getD, List.getElem?_eq_getElem h0, Option.getD_some]
      simp only [rowsM, List.getElem_map, List.getElem_range, Go.Proofs.Ytalamamjodihaaa.Sp.rowAt]
      rw [List.length_take, List.length_drop]
      have : k * m ≥ 1 * m := Nat.mul_le_mul_right m hk1
      omega
    have hrv := rowsM_v64 (k := k) (m := m) hw
    rw [if_pos (by rw [hrl]; omega), hhd]
    unfold hiddenM
    by_cases c : (x.length : Int) = (m : Int) - 1
    · rw [if_pos ((lenm_wrap hm2 hm17 hn).2 c), if_neg (not_not_intro c)]
      by_cases c1 : f < 0
      · rw [if_pos c1, thrumref16_HiddenP.j0, if_pos rfl, if_pos (.inl c1)]
      · rw [if_neg c1]
        by_cases c2 : f > 30
        · rw [decide_eq_true c2, thrumref16_HiddenP.j0, if_pos rfl, if_pos (.inr c2)]
        · rw [decide_eq_false c2, thrumref16_HiddenP.j0, if_neg (by decide), if_neg (show ¬ (f < 0 ∨ f > 30) by omega)]
          have h := thrumref16_HiddenP.loop x f (rowsM k m w) hx hrv (by rw [hrl]; omega) (rowsM k m w).length 0 [] (by omega) rfl
          rw [List.nil_append, List.drop_zero] at h
          exact h
    · rw [if_neg (fun h => c ((lenm_wrap hm2 hm17 hn).1 h)), if_pos c]
  · rw [if_neg s, if_neg s]
theorem thrumref16_Hidden.calls (a0 : Int) (A1 : Option Addr) (c1 : Nat) (l1 : List Int) (A2 : Option Addr) (c2 : Nat) (l2 : List Int) (a3 : Int) (r1 : List Int) (r2 : Int) (w : World) (hr1 : Kd.C (Kd.int .i64) w A1 l1.length l1) (hc1 : l1.length ≤ c1) (hr2 : Kd.C (Kd.int .i64) w A2 l2.length l2) (hc2 : l2.length ≤ c2) (h : thrumref16_Hidden.f a0 l1 l2 a3 = some (r1, r2)) :
    Calls Try.prog 15 #[.int .i64 a0, .slice A1 l1.length c1, .slice A2 l2.length c2, .int .i64 a3] w fun e w' => ∃ v0_ : Value, e = .returned (.tuple #[v0_, .int .i64 r2]) ∧ Kd.R (Kd.int .i64) 2 w' w.heap.size (fun _ => True) v0_ r1 ∧ Below w.heap.size w w' := by
  unfold thrumref16_Hidden.f at h
  split at h
  case isFalse => cases h
  rename_i hv
  exact thrumref16_HiddenP.calls ((splitM a0 l1).1.length + 1 + 1) a0 A1 c1 l1 A2 c2 l2 a3 r1 r2 w hr1 hc1 hr2 hc2 ((thrumref16_HiddenP.is a0 l1 l2 a3 hv.1 hv.2 (Kd.C_max hr2)).trans h)


/-! ### thrumref16_TellP: function 14 -/
def thrumref16_TellP.f (a0 : Int) (l1 : List Int) (l2 : List Int) (a3 : Int) : Option (Int × Int) := (thrumref16_Hidden.f a0 l1 l2 a3).bind fun bt245 => (if bt245.2 = 0 then ((thrumref16_Split.f a0 l1).bind fun bt249 => ((thrumref14_Tell.f bt249.2.1 bt245.1 a3).bind fun bt256 => (some (bt256.1, bt256.2)))) else (some (0, bt245.2)))
set_option maxHeartbeats 8000000 in
set_option maxRecDepth 100000 in
theorem thrumref16_TellP.calls (a0 : Int) (A1 : Option Addr) (c1 : Nat) (l1 : List Int) (A2 : Option Addr) (c2 : Nat) (l2 : List Int) (a3 : Int) (r1 : Int) (r2 : Int) (w : World) (hr1 : Kd.C (Kd.int .i64) w A1 l1.length l1) (hc1 : l1.length ≤ c1) (hr2 : Kd.C (Kd.int .i64) w A2 l2.length l2) (hc2 : l2.length ≤ c2) (h : thrumref16_TellP.f a0 l1 l2 a3 = some (r1, r2)) :
  Calls Try.prog 14 #[.int .i64 a0, .slice A1 l1.length c1, .slice A2 l2.length c2, .int .i64 a3] w fun e w' => e = .returned (.tuple #[.int .i64 r1, .int .i64 r2]) ∧ Below w.heap.size w w' := by
 have HR1 := Aside0.mk hr1
 have HC1 := Aside0.mk hc1
 clear hr1 hc1
 have HR2 := Aside0.mk hr2
 have HC2 := Aside0.mk hc2
 clear hr2 hc2
 have HB := Aside0.mk (Below.refl w.heap.size w)
 have H : ((thrumref16_Hidden.f a0 l1 l2 a3).bind fun bt245 => (if bt245.2 = 0 then ((thrumref16_Split.f a0 l1).bind fun bt249 => ((thrumref14_Tell.f bt249.2.1 bt245.1 a3).bind fun bt256 => (some (bt256.1, bt256.2)))) else (some (0, bt245.2)))) = some (r1, r2) := h
 clear h
 replace H := Option.bind_eq_some_iff.mp H
 obtain ⟨⟨t245, t246⟩, A50, H⟩ := H
 replace H : (if t246 = 0 then ((thrumref16_Split.f a0 l1).bind fun bt249 => ((thrumref14_Tell.f bt249.2.1 t245 a3).bind fun bt256 => (some (bt256.1, bt256.2)))) else (some (0, t246))) = some (r1, r2) := H
 have A5 := Aside0.mk A50
 clear A50
 by_cases c6 : t246 = 0
 ·
  rw [if_pos c6] at H
  have c6b0 : (t246 == 0) = true := beq_iff_eq.mpr c6
  have c6b1 : (t246 != 0) = false := bne_eq_false_iff_eq.mpr c6
  clear c6
  replace H := Option.bind_eq_some_iff.mp H
  obtain ⟨⟨t249, t250, t251⟩, A70, H⟩ := H
  replace H : ((thrumref14_Tell.f t250 t245 a3).bind fun bt256 => (some (bt256.1, bt256.2))) = some (r1, r2) := H
  have A7 := Aside0.mk A70
  clear A70
  replace H := Option.bind_eq_some_iff.mp H
  obtain ⟨⟨t256, t257⟩, A80, H⟩ := H
  replace H : (some (t256, t257)) = some (r1, r2) := H
  have A8 := Aside0.mk A80
  clear A80
  simp only [Option.some.injEq, Prod.mk.injEq] at H
  obtain ⟨rfl, rfl⟩ := H
  go_enter Try.func14, Try.ntmps14
  go_wp2_with (first | ((with_reducible refine gate_callee (f := 15) rfl ?_); refine goesL_ (some 20) rfl rfl Try.func15 (by kernel_rfl) rfl #[.int .i64 a0, .slice A1 l1.length c1, .slice A2 l2.length c2, .int .i64 a3] rfl (by (try simp only [List.map_toArray, List.map_cons, List.map_nil]); first | done | rfl | (simp only [List.length_drop, List.length_take]; rfl)) ?_; (with_reducible refine (thrumref16_Hidden.calls a0 _ _ l1 _ _ l2 a3 t245 t246 _ ?side1 ?side2 ?side3 ?side4 A5.out).mono ?_); (case side1 => repeat (first | exact HR1.out | (with_reducible refine ccA ?_ _) | (with_reducible refine ccN ?_ _) | (with_reducible refine ccD ?_))); (case side2 => exact HC1.out); (case side3 => repeat (first | exact HR2.out | (with_reducible refine ccA ?_ _) | (with_reducible refine ccN ?_ _) | (with_reducible refine ccD ?_))); (case side4 => exact HC2.out); rintro e w9 ⟨v247, rfl, ho0, hb⟩; refine ⟨_, rfl, ?_⟩; have n0_ := Aside0.mk (Kd.R_lower ho0 (zzS (by repeat (first | (with_reducible first | exact HB.out | apply zzA | apply zzN | apply zzD) | exact HB.out)))); have n1_ := Aside0.mk (zzT (by repeat (first | (with_reducible first | exact HB.out | apply zzA | apply zzN | apply zzD) | exact HB.out)) hb); clear HB; have HO248 := n0_; have HB := n1_; clear n0_ n1_; (try clear hb); (try clear hb2); (try clear hk); (try clear hi); (try clear ho0)) | ((with_reducible refine gate_callee (f := 18) rfl ?_); refine goesL_ (some 29) rfl rfl Try.func18 (by kernel_rfl) rfl #[.int .i64 a0, .slice A1 l1.length c1] rfl (by (try simp only [List.map_toArray, List.map_cons, List.map_nil]); first | done | rfl | (simp only [List.length_drop, List.length_take]; rfl)) ?_; (with_reducible refine (thrumref16_Split.calls a0 _ _ l1 t249 t250 t251 _ ?side1 ?side2 A7.out).mono ?_); (case side1 => repeat (first | exact (Kd.C_below HR1.out HB.out) | (with_reducible refine ccA ?_ _) | (with_reducible refine ccN ?_ _) | (with_reducible refine ccD ?_))); (case side2 => exact HC1.out); rintro e w10 ⟨v252, v254, rfl, ho0, ho1, hb⟩; refine ⟨_, rfl, ?_⟩; have n0_ := Aside0.mk (Kd.R_elder' (by (with_reducible repeat (first | apply rrA | apply rrN | apply rrD)); exact HO248.out) (Kd.R_base ho1) hb); have n1_ := Aside0.mk (Kd.S_lower (Kd.S_new' ho0 (Kd.R_lt (by (with_reducible repeat (first | apply rrA | apply rrN | apply rrD)); exact HO248.out))) (zzS (by repeat (first | (with_reducible first | exact HB.out | apply zzA | apply zzN | apply zzD) | exact HB.out)))); have n2_ := Aside0.mk (Kd.R_lower (Kd.R_new' ho1 (Kd.R_lt (by (with_reducible repeat (first | apply rrA | apply rrN | apply rrD)); exact HO248.out))) (zzS (by repeat (first | (with_reducible first | exact HB.out | apply zzA | apply zzN | apply zzD) | exact HB.out)))); have n3_ := Aside0.mk (zzT (by repeat (first | (with_reducible first | exact HB.out | apply zzA | apply zzN | apply zzD) | exact HB.out)) hb); clear HO248; clear HB; have HO248 := n0_; have HO253 := n1_; have HO255 := n2_; have HB := n3_; clear n0_ n1_ n2_ n3_; (try clear hb); (try clear hb2); (try clear hk); (try clear hi); (try clear ho0); (try clear ho1); obtain ⟨Ao11, co11, eo11⟩ := Kd.R_slice HO255.out; subst eo11; obtain ⟨Ao12, co12, eo12⟩ := Kd.R_slice HO248.out; subst eo12) | ((with_reducible refine gate_callee (f := 37) rfl ?_); refine goesL_ (some 36) rfl rfl Try.func37 (by kernel_rfl) rfl #[.slice Ao11 t250.length co11, .slice Ao12 t245.length co12, .int .i64 a3] rfl (by (try simp only [List.map_toArray, List.map_cons, List.map_nil]); first | done | rfl | (simp only [List.length_drop, List.length_take]; rfl)) ?_; (with_reducible refine (thrumref14_Tell.calls _ _ t250 (fun k_ => some k_ = (.slice Ao12 t245.length co12 : Value).ownBlock) _ _ t245 a3 t256 t257 _ ?side1 ?side2 ?side3 A8.out).mono ?_); (case side1 => repeat (first | exact (Kd.R_reads' HO255.out).2.2 | (with_reducible refine ccA ?_ _) | (with_reducible refine ccN ?_ _) | (with_reducible refine ccD ?_))); (case side2 => exact (Kd.R_reads' HO255.out).2.1); (case side3 => exact Kd.R_V (Kd.R_tight rfl (Kd.R_apart' (HO248.out) (Kd.S_typed HO253.out) (by decide)))); rintro e w13 ⟨rfl, hb⟩; refine ⟨_, rfl, ?_⟩; have n0_ := Aside0.mk (Kd.R_below (by (with_reducible repeat (first | apply rrA | apply rrN | apply rrD)); exact HO248.out) hb); have n1_ := Aside0.mk (Kd.S_below (by (with_reducible repeat (first | apply Kd.S_alloc | apply Kd.S_drewN | apply Kd.S_drew)); exact HO253.out) hb); have n2_ := Aside0.mk (Kd.R_below (by (with_reducible repeat (first | apply rrA | apply rrN | apply rrD)); exact HO255.out) hb); have n3_ := Aside0.mk (zzT (by repeat (first | (with_reducible first | exact HB.out | apply zzA | apply zzN | apply zzD) | exact HB.out)) hb); clear HO248; clear HO253; clear HO255; clear HB; have HO248 := n0_; have HO253 := n1_; have HO255 := n2_; have HB := n3_; clear n0_ n1_ n2_ n3_; (try clear hb); (try clear hb2); (try clear hk); (try clear hi)))
  go_ret2
  exact ⟨by first | rfl | (simp [errW_none, errW_some] <;> rfl) | (simp [*, errW_none, errW_some] <;> rfl), by repeat (first | (with_reducible first | exact HB.out | apply zzA | apply zzN | apply zzD) | exact HB.out)⟩
 ·
  rw [if_neg c6] at H
  have c6b0 : (t246 == 0) = false := beq_eq_false_iff_ne.mpr c6
  have c6b1 : (t246 != 0) = true := bne_iff_ne.mpr c6
  simp only [Option.some.injEq, Prod.mk.injEq] at H
  obtain ⟨rfl, rfl⟩ := H
  go_enter Try.func14, Try.ntmps14
  go_wp2_with (first | ((with_reducible refine gate_callee (f := 15) rfl ?_); refine goesL_ (some 20) rfl rfl Try.func15 (by kernel_rfl) rfl #[.int .i64 a0, .slice A1 l1.length c1, .slice A2 l2.length c2, .int .i64 a3] rfl (by (try simp only [List.map_toArray, List.map_cons, List.map_nil]); first | done | rfl | (simp only [List.length_drop, List.length_take]; rfl)) ?_; (with_reducible refine (thrumref16_Hidden.calls a0 _ _ l1 _ _ l2 a3 t245 t246 _ ?side1 ?side2 ?side3 ?side4 A5.out).mono ?_); (case side1 => repeat (first | exact HR1.out | (with_reducible refine ccA ?_ _) | (with_reducible refine ccN ?_ _) | (with_reducible refine ccD ?_))); (case side2 => exact HC1.out); (case side3 => repeat (first | exact HR2.out | (with_reducible refine ccA ?_ _) | (with_reducible refine ccN ?_ _) | (with_reducible refine ccD ?_))); (case side4 => exact HC2.out); rintro e w14 ⟨v247, rfl, ho0, hb⟩; refine ⟨_, rfl, ?_⟩; have n0_ := Aside0.mk (Kd.R_lower ho0 (zzS (by repeat (first | (with_reducible first | exact HB.out | apply zzA | apply zzN | apply zzD) | exact HB.out)))); have n1_ := Aside0.mk (zzT (by repeat (first | (with_reducible first | exact HB.out | apply zzA | apply zzN | apply zzD) | exact HB.out)) hb); clear HB; have HO248 := n0_; have HB := n1_; clear n0_ n1_; (try clear hb); (try clear hb2); (try clear hk); (try clear hi); (try clear ho0)))
  go_ret2
  exact ⟨by first | rfl | (simp [errW_none, errW_some] <;> rfl) | (simp [*, errW_none, errW_some] <;> rfl), by repeat (first | (with_reducible first | exact HB.out | apply zzA | apply zzN | apply zzD) | exact HB.out)⟩

def thrumref16_Tell.f (a0 : Int) (l1 l2 : List Int) (a3 : Int) : Option (Int × Int) := if V64 l1 ∧ V64 l2 then some (tellM a0 l1 l2 a3) else none
theorem thrumref16_Tell.of (a0 : Int) (l1 l2 : List Int) (a3 : Int)  (h_ : V64 l1 ∧ V64 l2) : thrumref16_Tell.f a0 l1 l2 a3 = some (tellM a0 l1 l2 a3) := if_pos h_
theorem thrumref16_TellP.is (a0 : Int) (w x : List Int) (f : Int) (hw : V64 w) (hx : V64 x) : thrumref16_TellP.f a0 w x f = some (tellM a0 w x f) := by
  unfold thrumref16_TellP.f tellM
  rw [thrumref16_Hidden.of _ _ _ _ ⟨hw, hx⟩, Option.bind_some]
  by_cases s : (splitM a0 w).2.2 = 0
  · rw [if_pos s]
    obtain ⟨k, m, rfl, hk1, hk8, hm2, hm17, hkm, hlm, hsp⟩ := splitM_good s
    have hid : hidM k w x f = hiddenM (rowsM k m w) ((m : Int) - 1) x f := by unfold hidM; rw [if_pos s, hlm, hsp]
    rw [hid, hlm, hsp]
    unfold ptellM
    by_cases c : (hiddenM (rowsM k m w) ((m : Int) - 1) x f).2 = 0
    · rw [if_pos c, if_pos c, thrumref16_Split.f, Option.bind_some, hsp]
      dsimp only
      rw [thrumref14_Tell.of _ _ _ ⟨v64_drop hw _, hiddenM_v64 _ _ _ _⟩, Option.bind_some]
    · rw [if_neg c, if_neg c]
  · have hid : hidM a0 w x f = ([], (splitM a0 w).2.2) := by unfold hidM; rw [if_neg s]
    rw [hid, if_neg s, if_neg s]
theorem thrumref16_Tell.calls (a0 : Int) (A1 : Option Addr) (c1 : Nat) (l1 : List Int) (A2 : Option Addr) (c2 : Nat) (l2 : List Int) (a3 : Int) (r1 : Int) (r2 : Int) (w : World) (hr1 : Kd.C (Kd.int .i64) w A1 l1.length l1) (hc1 : l1.length ≤ c1) (hr2 : Kd.C (Kd.int .i64) w A2 l2.length l2) (hc2 : l2.length ≤ c2) (h : thrumref16_Tell.f a0 l1 l2 a3 = some (r1, r2)) :
    Calls Try.prog 14 #[.int .i64 a0, .slice A1 l1.length c1, .slice A2 l2.length c2, .int .i64 a3] w fun e w' => e = .returned (.tuple #[.int .i64 r1, .int .i64 r2]) ∧ Below w.heap.size w w' := by
  unfold thrumref16_Tell.f at h
  split at h
  case isFalse => cases h
  rename_i hv
  exact thrumref16_TellP.calls a0 A1 c1 l1 A2 c2 l2 a3 r1 r2 w hr1 hc1 hr2 hc2 ((thrumref16_TellP.is a0 l1 l2 a3 hv.1 hv.2).trans h)


end Go.Proofs.Ytalamamjodihaaa.HO
