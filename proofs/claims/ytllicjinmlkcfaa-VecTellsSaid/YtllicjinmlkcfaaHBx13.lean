/- What Go functions do, each as a plain Lean function with the same answers, and the proof of it, in every world: printed by the session's driver over the kit's print, with texts by hand. -/
import Derived.Test.YtllicjinmlkcfaaHBx0
import Derived.Test.YtllicjinmlkcfaaHBx11
import Derived.Test.YtllicjinmlkcfaaHBx12
namespace Go.Proofs.Ytllicjinmlkcfaa.HB
open Go.RowKit Go.Proofs.YtllicjinmlkcfaaW.PrintWords Go.Proofs.YtllicjinmlkcfaaW.PrintLast Go.Proofs.YtllicjinmlkcfaaW.PrintMore
attribute [local go_sem] max2_int min2_int max_two min_two max_three min_three max_four min_four   -- for this text's walks alone
open Go.Proofs.Ytllicjinmlkcfaa.Sp
attribute [local go_sem] Go.Proofs.Ytllicjinmlkcfaa.Sp.u64_not
set_option linter.unusedVariables false
set_option linter.unusedSimpArgs false

/-! ### thrumref02_DotP: function 67 -/
mutual
def thrumref02_DotP.j0 : Nat → List Int → List Int → Int → Bool → Option (Int × Int)
  | 0, _, _, _, _ => none
  | k + 1, x0, x1, x2, x24 => if x24 = true then (some (0, 1)) else (thrumref02_DotP.l0 k x0 x1 x2 0 (x0.length : Int) 0)
def thrumref02_DotP.l0 : Nat → List Int → List Int → Int → Int → Int → Int → Option (Int × Int)
  | 0, _, _, _, _, _, _ => none
  | k + 1, x0, x1, x2, x9, x26, x27 => if x27 < x26 then (if 0 ≤ x27 then (if x27 < (x0.length : Int) then (if x27 < (x1.length : Int) then ((thrumref01_Mul.f (rd x0 x27) (rd x1 x27) x2).bind fun bt239 => (if bt239.2 = 0 then ((thrumref01_Add.f x9 bt239.1).bind fun bt241 => (if bt241.2 = 0 then (thrumref02_DotP.l0 k x0 x1 x2 bt241.1 x26 (wrap64 (x27 + 1))) else (some (0, bt241.2)))) else (some (0, bt239.2)))) else (none)) else (none)) else (none)) else (some (x9, 0))
end
def thrumref02_DotP.f (k : Nat) (l0 : List Int) (l1 : List Int) (a2 : Int) : Option (Int × Int) := (thrumref02_two.f l0 l1).bind fun t236 => (if t236 = 0 then (if a2 < 0 then (thrumref02_DotP.j0 k l0 l1 a2 true) else (thrumref02_DotP.j0 k l0 l1 a2 (decide (a2 > 30)))) else (some (0, t236)))
theorem thrumref02_DotP.mono_l : ∀ k, (∀ y0 y1 y2 y3, LeO (thrumref02_DotP.j0 k y0 y1 y2 y3) (thrumref02_DotP.j0 (k + 1) y0 y1 y2 y3)) ∧ (∀ y0 y1 y2 y3 y4 y5, LeO (thrumref02_DotP.l0 k y0 y1 y2 y3 y4 y5) (thrumref02_DotP.l0 (k + 1) y0 y1 y2 y3 y4 y5))
  | 0 => ⟨fun _ _ _ _ r h => by simp [thrumref02_DotP.j0] at h, fun _ _ _ _ _ _ r h => by simp [thrumref02_DotP.l0] at h⟩
  | k + 1 => by
    obtain ⟨ih0, ih1⟩ := thrumref02_DotP.mono_l k
    refine ⟨?_, ?_⟩
    · intro y0 y1 y2 y3
      unfold thrumref02_DotP.j0
      repeat' first
      | (with_reducible exact ih0 _ _ _ _)
      | (with_reducible exact ih1 _ _ _ _ _ _)
      | (with_reducible exact LeO.refl _)
      | (with_reducible exact LeO.none _)
      | (with_reducible refine LeO.ite ?_ ?_)
      | (with_reducible refine LeO.bind ?_ (fun _ => ?_))
      | exact ih0 _ _ _ _
      | exact ih1 _ _ _ _ _ _
      | exact LeO.none _
      | refine LeO.ite ?_ ?_
      | refine LeO.bind ?_ (fun _ => ?_)
    · intro y0 y1 y2 y3 y4 y5
      unfold thrumref02_DotP.l0
      repeat' first
      | (with_reducible exact ih0 _ _ _ _)
      | (with_reducible exact ih1 _ _ _ _ _ _)
      | (with_reducible exact LeO.refl _)
      | (with_reducible exact LeO.none _)
      | (with_reducible refine LeO.ite ?_ ?_)
      | (with_reducible refine LeO.bind ?_ (fun _ => ?_))
      | exact ih0 _ _ _ _
      | exact ih1 _ _ _ _ _ _
      | exact LeO.none _
      | refine LeO.ite ?_ ?_
      | refine LeO.bind ?_ (fun _ => ?_)
theorem thrumref02_DotP.mono : ∀ a0 a1 a2 k, LeO (thrumref02_DotP.f k a0 a1 a2) (thrumref02_DotP.f (k + 1) a0 a1 a2) := by
  intro a0 a1 a2 k
  obtain ⟨ih0, ih1⟩ := thrumref02_DotP.mono_l k
  unfold thrumref02_DotP.f
  repeat' first
      | (with_reducible exact ih0 _ _ _ _)
      | (with_reducible exact ih1 _ _ _ _ _ _)
      | (with_reducible exact LeO.refl _)
      | (with_reducible exact LeO.none _)
      | (with_reducible refine LeO.ite ?_ ?_)
      | (with_reducible refine LeO.bind ?_ (fun _ => ?_))
      | exact ih0 _ _ _ _
      | exact ih1 _ _ _ _ _ _
      | exact LeO.none _
      | refine LeO.ite ?_ ?_
      | refine LeO.bind ?_ (fun _ => ?_)
set_option maxHeartbeats 8000000 in
set_option maxRecDepth 100000 in
theorem thrumref02_DotP.calls (k : Nat) (A0 : Option Addr) (c0 : Nat) (l0 : List Int) (A1 : Option Addr) (c1 : Nat) (l1 : List Int) (a2 : Int) (r1 : Int) (r2 : Int) (w : World) (hr0 : Kd.C (Kd.int .i64) w A0 l0.length l0) (hc0 : l0.length ≤ c0) (hr1 : Kd.C (Kd.int .i64) w A1 l1.length l1) (hc1 : l1.length ≤ c1) (h : thrumref02_DotP.f k l0 l1 a2 = some (r1, r2)) :
    Calls Try.prog 67 #[.slice A0 l0.length c0, .slice A1 l1.length c1, .int .i64 a2] w fun e w' => e = .returned (.tuple #[.int .i64 r1, .int .i64 r2]) ∧ Drawn0 w w' := by
  have HR0 := Aside0.mk hr0
  have HC0 := Aside0.mk hc0
  clear hr0 hc0
  have HR1 := Aside0.mk hr1
  have HC1 := Aside0.mk hc1
  clear hr1 hc1
  have H : ((thrumref02_two.f l0 l1).bind fun t236 => (if t236 = 0 then (if a2 < 0 then (thrumref02_DotP.j0 k l0 l1 a2 true) else (thrumref02_DotP.j0 k l0 l1 a2 (decide (a2 > 30)))) else (some (0, t236)))) = some (r1, r2) := h
  clear h
  replace H := Option.bind_eq_some_iff.mp H
  obtain ⟨t236, A40, H⟩ := H
  replace H : (if t236 = 0 then (if a2 < 0 then (thrumref02_DotP.j0 k l0 l1 a2 true) else (thrumref02_DotP.j0 k l0 l1 a2 (decide (a2 > 30)))) else (some (0, t236))) = some (r1, r2) := H
  have A4 := Aside0.mk A40
  clear A40
  by_cases c5 : t236 = 0
  · rw [if_pos c5] at H
    have c5b0 : (t236 == 0) = true := beq_iff_eq.mpr c5
    have c5b1 : (t236 != 0) = false := bne_eq_false_iff_eq.mpr c5
    clear c5
    have HC6 := Aside0.mk H
    clear H
    go_enter Try.func67, Try.ntmps67
    go_upto_region 4 with (first | (go_at_call 120; (with_reducible refine (thrumref02_two.calls _ _ l0 _ _ l1 t236 _ ?side1 ?side2 ?side3 ?side4 A4.out).mono ?_); (case side1 => repeat (first | exact HR0.out | (with_reducible refine Kd.C_alloc ?_ _) | (with_reducible refine Kd.C_drewN ?_ _) | (with_reducible refine Kd.C_drew ?_))); (case side2 => exact HC0.out); (case side3 => repeat (first | exact HR1.out | (with_reducible refine Kd.C_alloc ?_ _) | (with_reducible refine Kd.C_drewN ?_ _) | (with_reducible refine Kd.C_drew ?_))); (case side4 => exact HC1.out); rintro e w' ⟨rfl, ⟨nd, rfl⟩⟩; (try first | exact ⟨rfl, _, World.drewN_drewN _ _ _⟩ | exact ⟨rfl, _, Eq.trans (World.drewN_drewN _ _ _) (congrArg (World.drewN _) (Nat.add_assoc _ _ _))⟩)))
    repeat (go_quiet (first | (go_at_call 120; (with_reducible refine (thrumref02_two.calls _ _ l0 _ _ l1 t236 _ ?side1 ?side2 ?side3 ?side4 A4.out).mono ?_); (case side1 => repeat (first | exact HR0.out | (with_reducible refine Kd.C_alloc ?_ _) | (with_reducible refine Kd.C_drewN ?_ _) | (with_reducible refine Kd.C_drew ?_))); (case side2 => exact HC0.out); (case side3 => repeat (first | exact HR1.out | (with_reducible refine Kd.C_alloc ?_ _) | (with_reducible refine Kd.C_drewN ?_ _) | (with_reducible refine Kd.C_drew ?_))); (case side4 => exact HC1.out); rintro e w' ⟨rfl, ⟨nd, rfl⟩⟩; (try first | exact ⟨rfl, _, World.drewN_drewN _ _ _⟩ | exact ⟨rfl, _, Eq.trans (World.drewN_drewN _ _ _) (congrArg (World.drewN _) (Nat.add_assoc _ _ _))⟩))); go_upto_region 4 with (first | (go_at_call 120; (with_reducible refine (thrumref02_two.calls _ _ l0 _ _ l1 t236 _ ?side1 ?side2 ?side3 ?side4 A4.out).mono ?_); (case side1 => repeat (first | exact HR0.out | (with_reducible refine Kd.C_alloc ?_ _) | (with_reducible refine Kd.C_drewN ?_ _) | (with_reducible refine Kd.C_drew ?_))); (case side2 => exact HC0.out); (case side3 => repeat (first | exact HR1.out | (with_reducible refine Kd.C_alloc ?_ _) | (with_reducible refine Kd.C_drewN ?_ _) | (with_reducible refine Kd.C_drew ?_))); (case side4 => exact HC1.out); rintro e w' ⟨rfl, ⟨nd, rfl⟩⟩; (try first | exact ⟨rfl, _, World.drewN_drewN _ _ _⟩ | exact ⟨rfl, _, Eq.trans (World.drewN_drewN _ _ _) (congrArg (World.drewN _) (Nat.add_assoc _ _ _))⟩))))
    (try simp only [Act.put, List.setIfInBounds_toArray, List.set_cons_zero, List.set_cons_succ])
    go_cut [24] (fun v24 wc => ∃ (kq : Nat) (x24_5 : Bool), v24 = .bool x24_5 ∧ Aside0 (thrumref02_DotP.j0 kq l0 l1 a2 x24_5 = some (r1, r2)) ∧ Aside0 (kq ≤ k) ∧ Drawn0 w wc)
    case first =>
      have H := HC6.out
      clear HC6
      by_cases c7 : a2 < 0
      · rw [if_pos c7] at H
        have c7b0 : decide (a2 < 0) = true := decide_eq_true c7
        clear c7
        (first | rw [c7b0] | (simp only [i64_w, i32_w]; rw [c7b0]) | skip)
        have H' := Aside0.mk H
        clear H
        go_wp2
        repeat (go_quiet (fail); try go_wp2)
        go_meet
        case rel => exact ⟨_, (true), (by first | rfl | (simp; done) | (simp [*]; done)), H', ⟨by first | omega | exact Nat.le_refl _⟩, by repeat (first | exact Drawn0.refl _ | apply Drawn0.step)⟩
      · rw [if_neg c7] at H
        have c7b0 : decide (a2 < 0) = false := decide_eq_false c7
        clear c7
        (first | rw [c7b0] | (simp only [i64_w, i32_w]; rw [c7b0]) | skip)
        have H' := Aside0.mk H
        clear H
        go_wp2
        repeat (go_quiet (fail); try go_wp2)
        go_meet
        case rel => exact ⟨_, (decide (a2 > 30)), (by first | rfl | (simp; done) | (simp [*]; done)), H', ⟨by first | omega | exact Nat.le_refl _⟩, by repeat (first | exact Drawn0.refl _ | apply Drawn0.step)⟩
    case rest =>
      clear HC6
      try clear c1
      try clear p2
      try clear c5
      try clear c5b0
      try clear c5b1
      try clear c6
      try clear c7
      try clear c7b0
      obtain ⟨kq, x24_5, rfl, HA, HJ5, ⟨mc5, rfl⟩⟩ := hcut
      cases kq with
      | zero => exact absurd HA.out (by simp [thrumref02_DotP.j0])
      | succ kj5 =>
        have H := HA.out
        clear HA
        simp only [thrumref02_DotP.j0] at H
        by_cases c8 : x24_5 = true
        · subst c8
          have H1 : (some (0, 1)) = some (r1, r2) := by rw [if_pos rfl] at H; exact H
          clear H
          have H := H1
          clear H1
          simp only [Option.some.injEq, Prod.mk.injEq] at H
          obtain ⟨rfl, rfl⟩ := H
          go_wp2
          repeat (go_quiet (fail); try go_wp2)
          go_ret2
          exact ⟨by first | rfl | (simp; done) | (simp [*]; done), by repeat (first | exact Drawn0.refl _ | apply Drawn0.step)⟩
        · replace c8 := Bool.eq_false_iff.mpr c8
          subst c8
          have H1 : (thrumref02_DotP.l0 kj5 l0 l1 a2 0 (l0.length : Int) 0) = some (r1, r2) := by rw [if_neg (show ¬ (false = true) by decide)] at H; exact H
          clear H
          have H := H1
          clear H1
          have H' := Aside0.mk H
          clear H
          go_wp2
          repeat (go_quiet (fail); try go_wp2)
          go_loopg [9, 27] kj5 (fun kq v9 v27 w' => ∃ (x9_2 : Int) (x27_2 : Int), v9 = .int .i64 x9_2 ∧ v27 = .int .i64 x27_2 ∧ Aside0 (thrumref02_DotP.l0 kq l0 l1 a2 x9_2 (l0.length : Int) x27_2 = some (r1, r2)) ∧ Aside0 (kq ≤ kj5) ∧ Drawn0 w w')
          case atStart => exact ⟨(0), (0), (by first | rfl | (simp; done) | (simp [*]; done)), (by first | rfl | (simp; done) | (simp [*]; done)), H', ⟨Nat.le_refl _⟩, by repeat (first | exact Drawn0.refl _ | apply Drawn0.step)⟩
          case round =>
            clear H'
            try clear c1
            try clear p2
            try clear c5
            try clear c5b0
            try clear c5b1
            try clear c6
            try clear c7
            try clear c7b0
            try clear c8
            try clear p2
            obtain ⟨x9_2, x27_2, rfl, rfl, HA, HK2, ⟨m2, rfl⟩⟩ := hrel
            cases gk with
            | zero => exact absurd HA.out (by simp [thrumref02_DotP.l0])
            | succ k2 =>
              have H := HA.out
              clear HA
              simp only [thrumref02_DotP.l0] at H
              by_cases c9 : x27_2 < (l0.length : Int)
              · rw [if_pos c9] at H
                have c9b0 : decide (x27_2 < (l0.length : Int)) = true := decide_eq_true c9
                clear c9
                by_cases c10 : 0 ≤ x27_2
                · rw [if_pos c10] at H
                  have c10b0 : decide (0 ≤ x27_2) = true := decide_eq_true c10
                  clear c10
                  by_cases c11 : x27_2 < (l0.length : Int)
                  · rw [if_pos c11] at H
                    have c11b0 : decide (x27_2 < (l0.length : Int)) = true := decide_eq_true c11
                    clear c11
                    by_cases c12 : x27_2 < (l1.length : Int)
                    · rw [if_pos c12] at H
                      have c12b0 : decide (x27_2 < (l1.length : Int)) = true := decide_eq_true c12
                      clear c12
                      replace H := Option.bind_eq_some_iff.mp H
                      obtain ⟨⟨t239, t240⟩, A130, H⟩ := H
                      replace H : (if t240 = 0 then ((thrumref01_Add.f x9_2 t239).bind fun bt241 => (if bt241.2 = 0 then (thrumref02_DotP.l0 k2 l0 l1 a2 bt241.1 (l0.length : Int) (wrap64 (x27_2 + 1))) else (some (0, bt241.2)))) else (some (0, t240))) = some (r1, r2) := H
                      have A13 := Aside0.mk A130
                      clear A130
                      by_cases c14 : t240 = 0
                      · rw [if_pos c14] at H
                        have c14b0 : (t240 == 0) = true := beq_iff_eq.mpr c14
                        have c14b1 : (t240 != 0) = false := bne_eq_false_iff_eq.mpr c14
                        clear c14
                        replace H := Option.bind_eq_some_iff.mp H
                        obtain ⟨⟨t241, t242⟩, A150, H⟩ := H
                        replace H : (if t242 = 0 then (thrumref02_DotP.l0 k2 l0 l1 a2 t241 (l0.length : Int) (wrap64 (x27_2 + 1))) else (some (0, t242))) = some (r1, r2) := H
                        have A15 := Aside0.mk A150
                        clear A150
                        by_cases c16 : t242 = 0
                        · rw [if_pos c16] at H
                          have c16b0 : (t242 == 0) = true := beq_iff_eq.mpr c16
                          have c16b1 : (t242 != 0) = false := bne_eq_false_iff_eq.mpr c16
                          clear c16
                          have H' := Aside0.mk H
                          clear H
                          have p237 : 0 ≤ (x27_2 : Int) := of_decide_eq_true (by first | (with_reducible assumption) | assumption)
                          have q237 : x27_2 < (l0.length : Int) := of_decide_eq_true (by first | (with_reducible assumption) | assumption)
                          obtain ⟨ad237, e237, hx237_0⟩ := Kd.at_int HR0.out x27_2 p237 q237
                          cases e237
                          replace p237 := eq_true p237
                          replace q237 := eq_true q237
                          have p238 : 0 ≤ (x27_2 : Int) := of_decide_eq_true (by first | (with_reducible assumption) | assumption)
                          have q238 : x27_2 < (l1.length : Int) := of_decide_eq_true (by first | (with_reducible assumption) | assumption)
                          obtain ⟨ad238, e238, hx238_0⟩ := Kd.at_int HR1.out x27_2 p238 q238
                          cases e238
                          replace p238 := eq_true p238
                          replace q238 := eq_true q238
                          go_wp2_with (first | (go_at_call 38; (with_reducible refine (thrumref01_Mul.calls (rd l0 x27_2) (rd l1 x27_2) a2 t239 t240 _ A13.out).mono ?_); rintro e w' ⟨rfl, ⟨nd, rfl⟩⟩; (try first | exact ⟨rfl, _, World.drewN_drewN _ _ _⟩ | exact ⟨rfl, _, Eq.trans (World.drewN_drewN _ _ _) (congrArg (World.drewN _) (Nat.add_assoc _ _ _))⟩)) | (go_at_call 73; (with_reducible refine (thrumref01_Add.calls x9_2 t239 t241 t242 _ A15.out).mono ?_); rintro e w' ⟨rfl, ⟨nd, rfl⟩⟩; (try first | exact ⟨rfl, _, World.drewN_drewN _ _ _⟩ | exact ⟨rfl, _, Eq.trans (World.drewN_drewN _ _ _) (congrArg (World.drewN _) (Nat.add_assoc _ _ _))⟩)))
                          repeat (go_quiet (first | (go_at_call 38; (with_reducible refine (thrumref01_Mul.calls (rd l0 x27_2) (rd l1 x27_2) a2 t239 t240 _ A13.out).mono ?_); rintro e w' ⟨rfl, ⟨nd, rfl⟩⟩; (try first | exact ⟨rfl, _, World.drewN_drewN _ _ _⟩ | exact ⟨rfl, _, Eq.trans (World.drewN_drewN _ _ _) (congrArg (World.drewN _) (Nat.add_assoc _ _ _))⟩)) | (go_at_call 73; (with_reducible refine (thrumref01_Add.calls x9_2 t239 t241 t242 _ A15.out).mono ?_); rintro e w' ⟨rfl, ⟨nd, rfl⟩⟩; (try first | exact ⟨rfl, _, World.drewN_drewN _ _ _⟩ | exact ⟨rfl, _, Eq.trans (World.drewN_drewN _ _ _) (congrArg (World.drewN _) (Nat.add_assoc _ _ _))⟩))); try go_wp2_with (first | (go_at_call 38; (with_reducible refine (thrumref01_Mul.calls (rd l0 x27_2) (rd l1 x27_2) a2 t239 t240 _ A13.out).mono ?_); rintro e w' ⟨rfl, ⟨nd, rfl⟩⟩; (try first | exact ⟨rfl, _, World.drewN_drewN _ _ _⟩ | exact ⟨rfl, _, Eq.trans (World.drewN_drewN _ _ _) (congrArg (World.drewN _) (Nat.add_assoc _ _ _))⟩)) | (go_at_call 73; (with_reducible refine (thrumref01_Add.calls x9_2 t239 t241 t242 _ A15.out).mono ?_); rintro e w' ⟨rfl, ⟨nd, rfl⟩⟩; (try first | exact ⟨rfl, _, World.drewN_drewN _ _ _⟩ | exact ⟨rfl, _, Eq.trans (World.drewN_drewN _ _ _) (congrArg (World.drewN _) (Nat.add_assoc _ _ _))⟩))))
                          go_roundg k2
                          case measure => have := HJ5.out; have := HK2.out; omega
                          case rel => exact ⟨(t241), (wrap64 (x27_2 + 1)), (by first | rfl | (simp; done) | (simp [*]; done)), (by first | rfl | (simp; done) | (simp [*]; done)), H', ⟨by have := HJ5.out; have := HK2.out; omega⟩, by repeat (first | exact Drawn0.refl _ | apply Drawn0.step)⟩
                        · rw [if_neg c16] at H
                          have c16b0 : (t242 == 0) = false := beq_eq_false_iff_ne.mpr c16
                          have c16b1 : (t242 != 0) = true := bne_iff_ne.mpr c16
                          simp only [Option.some.injEq, Prod.mk.injEq] at H
                          obtain ⟨rfl, rfl⟩ := H
                          have p237 : 0 ≤ (x27_2 : Int) := of_decide_eq_true (by first | (with_reducible assumption) | assumption)
                          have q237 : x27_2 < (l0.length : Int) := of_decide_eq_true (by first | (with_reducible assumption) | assumption)
                          obtain ⟨ad237, e237, hx237_0⟩ := Kd.at_int HR0.out x27_2 p237 q237
                          cases e237
                          replace p237 := eq_true p237
                          replace q237 := eq_true q237
                          have p238 : 0 ≤ (x27_2 : Int) := of_decide_eq_true (by first | (with_reducible assumption) | assumption)
                          have q238 : x27_2 < (l1.length : Int) := of_decide_eq_true (by first | (with_reducible assumption) | assumption)
                          obtain ⟨ad238, e238, hx238_0⟩ := Kd.at_int HR1.out x27_2 p238 q238
                          cases e238
                          replace p238 := eq_true p238
                          replace q238 := eq_true q238
                          go_wp2_with (first | (go_at_call 38; (with_reducible refine (thrumref01_Mul.calls (rd l0 x27_2) (rd l1 x27_2) a2 t239 t240 _ A13.out).mono ?_); rintro e w' ⟨rfl, ⟨nd, rfl⟩⟩; (try first | exact ⟨rfl, _, World.drewN_drewN _ _ _⟩ | exact ⟨rfl, _, Eq.trans (World.drewN_drewN _ _ _) (congrArg (World.drewN _) (Nat.add_assoc _ _ _))⟩)) | (go_at_call 73; (with_reducible refine (thrumref01_Add.calls x9_2 t239 t241 t242 _ A15.out).mono ?_); rintro e w' ⟨rfl, ⟨nd, rfl⟩⟩; (try first | exact ⟨rfl, _, World.drewN_drewN _ _ _⟩ | exact ⟨rfl, _, Eq.trans (World.drewN_drewN _ _ _) (congrArg (World.drewN _) (Nat.add_assoc _ _ _))⟩)))
                          repeat (go_quiet (first | (go_at_call 38; (with_reducible refine (thrumref01_Mul.calls (rd l0 x27_2) (rd l1 x27_2) a2 t239 t240 _ A13.out).mono ?_); rintro e w' ⟨rfl, ⟨nd, rfl⟩⟩; (try first | exact ⟨rfl, _, World.drewN_drewN _ _ _⟩ | exact ⟨rfl, _, Eq.trans (World.drewN_drewN _ _ _) (congrArg (World.drewN _) (Nat.add_assoc _ _ _))⟩)) | (go_at_call 73; (with_reducible refine (thrumref01_Add.calls x9_2 t239 t241 t242 _ A15.out).mono ?_); rintro e w' ⟨rfl, ⟨nd, rfl⟩⟩; (try first | exact ⟨rfl, _, World.drewN_drewN _ _ _⟩ | exact ⟨rfl, _, Eq.trans (World.drewN_drewN _ _ _) (congrArg (World.drewN _) (Nat.add_assoc _ _ _))⟩))); try go_wp2_with (first | (go_at_call 38; (with_reducible refine (thrumref01_Mul.calls (rd l0 x27_2) (rd l1 x27_2) a2 t239 t240 _ A13.out).mono ?_); rintro e w' ⟨rfl, ⟨nd, rfl⟩⟩; (try first | exact ⟨rfl, _, World.drewN_drewN _ _ _⟩ | exact ⟨rfl, _, Eq.trans (World.drewN_drewN _ _ _) (congrArg (World.drewN _) (Nat.add_assoc _ _ _))⟩)) | (go_at_call 73; (with_reducible refine (thrumref01_Add.calls x9_2 t239 t241 t242 _ A15.out).mono ?_); rintro e w' ⟨rfl, ⟨nd, rfl⟩⟩; (try first | exact ⟨rfl, _, World.drewN_drewN _ _ _⟩ | exact ⟨rfl, _, Eq.trans (World.drewN_drewN _ _ _) (congrArg (World.drewN _) (Nat.add_assoc _ _ _))⟩))))
                          go_ret2
                          exact ⟨by first | rfl | (simp; done) | (simp [*]; done), by repeat (first | exact Drawn0.refl _ | apply Drawn0.step)⟩
                      · rw [if_neg c14] at H
                        have c14b0 : (t240 == 0) = false := beq_eq_false_iff_ne.mpr c14
                        have c14b1 : (t240 != 0) = true := bne_iff_ne.mpr c14
                        simp only [Option.some.injEq, Prod.mk.injEq] at H
                        obtain ⟨rfl, rfl⟩ := H
                        have p237 : 0 ≤ (x27_2 : Int) := of_decide_eq_true (by first | (with_reducible assumption) | assumption)
                        have q237 : x27_2 < (l0.length : Int) := of_decide_eq_true (by first | (with_reducible assumption) | assumption)
                        obtain ⟨ad237, e237, hx237_0⟩ := Kd.at_int HR0.out x27_2 p237 q237
                        cases e237
                        replace p237 := eq_true p237
                        replace q237 := eq_true q237
                        have p238 : 0 ≤ (x27_2 : Int) := of_decide_eq_true (by first | (with_reducible assumption) | assumption)
                        have q238 : x27_2 < (l1.length : Int) := of_decide_eq_true (by first | (with_reducible assumption) | assumption)
                        obtain ⟨ad238, e238, hx238_0⟩ := Kd.at_int HR1.out x27_2 p238 q238
                        cases e238
                        replace p238 := eq_true p238
                        replace q238 := eq_true q238
                        go_wp2_with (first | (go_at_call 38; (with_reducible refine (thrumref01_Mul.calls (rd l0 x27_2) (rd l1 x27_2) a2 t239 t240 _ A13.out).mono ?_); rintro e w' ⟨rfl, ⟨nd, rfl⟩⟩; (try first | exact ⟨rfl, _, World.drewN_drewN _ _ _⟩ | exact ⟨rfl, _, Eq.trans (World.drewN_drewN _ _ _) (congrArg (World.drewN _) (Nat.add_assoc _ _ _))⟩)))
                        repeat (go_quiet (first | (go_at_call 38; (with_reducible refine (thrumref01_Mul.calls (rd l0 x27_2) (rd l1 x27_2) a2 t239 t240 _ A13.out).mono ?_); rintro e w' ⟨rfl, ⟨nd, rfl⟩⟩; (try first | exact ⟨rfl, _, World.drewN_drewN _ _ _⟩ | exact ⟨rfl, _, Eq.trans (World.drewN_drewN _ _ _) (congrArg (World.drewN _) (Nat.add_assoc _ _ _))⟩))); try go_wp2_with (first | (go_at_call 38; (with_reducible refine (thrumref01_Mul.calls (rd l0 x27_2) (rd l1 x27_2) a2 t239 t240 _ A13.out).mono ?_); rintro e w' ⟨rfl, ⟨nd, rfl⟩⟩; (try first | exact ⟨rfl, _, World.drewN_drewN _ _ _⟩ | exact ⟨rfl, _, Eq.trans (World.drewN_drewN _ _ _) (congrArg (World.drewN _) (Nat.add_assoc _ _ _))⟩))))
                        go_ret2
                        exact ⟨by first | rfl | (simp; done) | (simp [*]; done), by repeat (first | exact Drawn0.refl _ | apply Drawn0.step)⟩
                    · rw [if_neg c12] at H
                      exact absurd H (by simp)
                  · rw [if_neg c11] at H
                    exact absurd H (by simp)
                · rw [if_neg c10] at H
                  exact absurd H (by simp)
              · rw [if_neg c9] at H
                have c9b0 : decide (x27_2 < (l0.length : Int)) = false := decide_eq_false c9
                clear c9
                simp only [Option.some.injEq, Prod.mk.injEq] at H
                obtain ⟨rfl, rfl⟩ := H
                go_wp2
                repeat (go_quiet (fail); try go_wp2)
                go_ret2
                exact ⟨by first | rfl | (simp; done) | (simp [*]; done), by repeat (first | exact Drawn0.refl _ | apply Drawn0.step)⟩
  · rw [if_neg c5] at H
    have c5b0 : (t236 == 0) = false := beq_eq_false_iff_ne.mpr c5
    have c5b1 : (t236 != 0) = true := bne_iff_ne.mpr c5
    simp only [Option.some.injEq, Prod.mk.injEq] at H
    obtain ⟨rfl, rfl⟩ := H
    go_enter Try.func67, Try.ntmps67
    go_wp2_with (first | (go_at_call 120; (with_reducible refine (thrumref02_two.calls _ _ l0 _ _ l1 t236 _ ?side1 ?side2 ?side3 ?side4 A4.out).mono ?_); (case side1 => repeat (first | exact HR0.out | (with_reducible refine Kd.C_alloc ?_ _) | (with_reducible refine Kd.C_drewN ?_ _) | (with_reducible refine Kd.C_drew ?_))); (case side2 => exact HC0.out); (case side3 => repeat (first | exact HR1.out | (with_reducible refine Kd.C_alloc ?_ _) | (with_reducible refine Kd.C_drewN ?_ _) | (with_reducible refine Kd.C_drew ?_))); (case side4 => exact HC1.out); rintro e w' ⟨rfl, ⟨nd, rfl⟩⟩; (try first | exact ⟨rfl, _, World.drewN_drewN _ _ _⟩ | exact ⟨rfl, _, Eq.trans (World.drewN_drewN _ _ _) (congrArg (World.drewN _) (Nat.add_assoc _ _ _))⟩)))
    repeat (go_quiet (first | (go_at_call 120; (with_reducible refine (thrumref02_two.calls _ _ l0 _ _ l1 t236 _ ?side1 ?side2 ?side3 ?side4 A4.out).mono ?_); (case side1 => repeat (first | exact HR0.out | (with_reducible refine Kd.C_alloc ?_ _) | (with_reducible refine Kd.C_drewN ?_ _) | (with_reducible refine Kd.C_drew ?_))); (case side2 => exact HC0.out); (case side3 => repeat (first | exact HR1.out | (with_reducible refine Kd.C_alloc ?_ _) | (with_reducible refine Kd.C_drewN ?_ _) | (with_reducible refine Kd.C_drew ?_))); (case side4 => exact HC1.out); rintro e w' ⟨rfl, ⟨nd, rfl⟩⟩; (try first | exact ⟨rfl, _, World.drewN_drewN _ _ _⟩ | exact ⟨rfl, _, Eq.trans (World.drewN_drewN _ _ _) (congrArg (World.drewN _) (Nat.add_assoc _ _ _))⟩))); try go_wp2_with (first | (go_at_call 120; (with_reducible refine (thrumref02_two.calls _ _ l0 _ _ l1 t236 _ ?side1 ?side2 ?side3 ?side4 A4.out).mono ?_); (case side1 => repeat (first | exact HR0.out | (with_reducible refine Kd.C_alloc ?_ _) | (with_reducible refine Kd.C_drewN ?_ _) | (with_reducible refine Kd.C_drew ?_))); (case side2 => exact HC0.out); (case side3 => repeat (first | exact HR1.out | (with_reducible refine Kd.C_alloc ?_ _) | (with_reducible refine Kd.C_drewN ?_ _) | (with_reducible refine Kd.C_drew ?_))); (case side4 => exact HC1.out); rintro e w' ⟨rfl, ⟨nd, rfl⟩⟩; (try first | exact ⟨rfl, _, World.drewN_drewN _ _ _⟩ | exact ⟨rfl, _, Eq.trans (World.drewN_drewN _ _ _) (congrArg (World.drewN _) (Nat.add_assoc _ _ _))⟩))))
    go_ret2
    exact ⟨by first | rfl | (simp; done) | (simp [*]; done), by repeat (first | exact Drawn0.refl _ | apply Drawn0.step)⟩

theorem thrumref02_DotP.loop (x0 x1 : List Int) (x2 : Int) (hl : x0.length = x1.length) (hb : x0.length ≤ 4096) : ∀ (d i : Nat) (s : Int), d + i = x0.length →
    thrumref02_DotP.l0 (d + 1) x0 x1 x2 s (x0.length : Int) (i : Int) = totalGo thrumref01_Add.f (fun i : Nat => thrumref01_Mul.f (rd x0 i) (rd x1 i) x2) d i s := by
  intro d
  induction d with
  | zero =>
    intro i s hd
    rw [thrumref02_DotP.l0, if_neg (by omega)]; rfl
  | succ d ih =>
    intro i s hd
    rw [thrumref02_DotP.l0, if_pos (by omega), if_pos (by omega), if_pos (by omega), if_pos (by omega), totalGo]
    congr 1; funext p
    by_cases c : p.2 = 0
    · rw [if_pos c, if_pos c]
      congr 1; funext q
      by_cases c2 : q.2 = 0
      · rw [if_pos c2, if_pos c2, wrap64_of (by unfold I64; omega), show (i : Int) + 1 = ((i + 1 : Nat) : Int) by omega]
        exact ih (i + 1) _ (by omega)
      · rw [if_neg c2, if_neg c2]
    · rw [if_neg c, if_neg c]
def thrumref02_Dot.f (l0 l1 : List Int) (a2 : Int) : Option (Int × Int) := if V64 l0 ∧ V64 l1 then some (dotV l0 l1 a2) else none
theorem thrumref02_Dot.of (l0 l1 : List Int) (a2 : Int)  (h_ : V64 l0 ∧ V64 l1) : thrumref02_Dot.f l0 l1 a2 = some (dotV l0 l1 a2) := if_pos h_
theorem thrumref02_Dot.calls (A0 : Option Addr) (c0 : Nat) (l0 : List Int) (A1 : Option Addr) (c1 : Nat) (l1 : List Int) (a2 : Int) (r1 : Int) (r2 : Int) (w : World) (hr0 : Kd.C (Kd.int .i64) w A0 l0.length l0) (hc0 : l0.length ≤ c0) (hr1 : Kd.C (Kd.int .i64) w A1 l1.length l1) (hc1 : l1.length ≤ c1) (h : thrumref02_Dot.f l0 l1 a2 = some (r1, r2)) :
    Calls Try.prog 67 #[.slice A0 l0.length c0, .slice A1 l1.length c1, .int .i64 a2] w fun e w' => e = .returned (.tuple #[.int .i64 r1, .int .i64 r2]) ∧ Drawn0 w w' := by
  unfold thrumref02_Dot.f at h
  split at h
  case isFalse => cases h
  rename_i hv
  refine thrumref02_DotP.calls (l0.length + 2) A0 c0 l0 A1 c1 l1 a2 r1 r2 w hr0 hc0 hr1 hc1 (Eq.trans ?_ h)
  unfold thrumref02_DotP.f thrumref02_two.f dotV fracE
  simp only [Option.bind_some]
  by_cases c : pairE l0 l1 = 0
  · rw [if_pos c, if_pos c]
    by_cases c2 : 0 ≤ a2 ∧ a2 ≤ 30
    · rw [if_neg (by omega), thrumref02_DotP.j0, if_neg (by simp; omega), if_pos c2, if_pos rfl]
      refine (thrumref02_DotP.loop l0 l1 a2 (pairE_len c) (pairE_le c) l0.length 0 0 (by omega)).trans ?_
      have hl := pairE_len c
      exact total_spec (fun a b ha hb => thrumref01_Add.of a b ⟨ha, hb⟩) (zip_i64 (fun x y => mulF_i64 x y a2) l0 l1) (ps := List.zipWith (fun x y => mulF x y a2) l0 l1) (by rw [List.length_zipWith]; omega) (fun j h => by rw [zip_get _ _ hl j h]; exact thrumref01_Mul.of _ _ _ ⟨hv.1.rd _, hv.2.rd _⟩)
    · rw [if_neg c2, if_neg (show ¬ (1 : Int) = 0 by decide)]
      by_cases c3 : a2 < 0
      · rw [if_pos c3, thrumref02_DotP.j0, if_pos rfl]
      · rw [if_neg c3, thrumref02_DotP.j0, if_pos (decide_eq_true (by omega))]
  · rw [if_neg c, if_neg c]


end Go.Proofs.Ytllicjinmlkcfaa.HB
