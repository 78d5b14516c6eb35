/- What Go functions do, each as a plain Lean function with the same answers, and the proof of it, in every world: printed by the session's driver over the kit's print, with texts by hand. -/
import Derived.Test.YtllicjinmlkcfaaHCx0
namespace Go.Proofs.Ytllicjinmlkcfaa.HC
open Go.RowKit Go.Proofs.YtllicjinmlkcfaaW.PrintWords Go.Proofs.YtllicjinmlkcfaaW.PrintLast Go.Proofs.YtllicjinmlkcfaaW.PrintMore
attribute [local go_sem] max2_int min2_int max_two min_two max_three min_three max_four min_four   -- for this text's walks alone
open Go.Proofs.Ytllicjinmlkcfaa.Sp
attribute [local go_sem] Go.Proofs.Ytllicjinmlkcfaa.Sp.u64_not
set_option linter.unusedVariables false
set_option linter.unusedSimpArgs false

/-! ### thrumref11_fit: function 125 -/
mutual
def thrumref11_fit.l0 : Nat → List (List Bool) → List (List Bool) → Int → Int → Option (Int)
  | 0, _, _, _, _ => none
  | k + 1, x0, x7, x8, x9 => if x9 < x8 then (if 0 ≤ x9 then (if x9 < (x7.length : Int) then (if ((rd_L3 x7 x9).length : Int) > 4096 then (some 3) else (thrumref11_fit.l0 k x0 x7 x8 (wrap64 (x9 + 1)))) else (none)) else (none)) else (thrumref11_fit.l1 k x0 x0 (x0.length : Int) 0)
def thrumref11_fit.l1 : Nat → List (List Bool) → List (List Bool) → Int → Int → Option (Int)
  | 0, _, _, _, _ => none
  | k + 1, x0, x17, x18, x19 => if x19 < x18 then (if 0 ≤ x19 then (if x19 < (x17.length : Int) then (if 0 < (x0.length : Int) then (if ((rd_L3 x17 x19).length : Int) = ((rd_L3 x0 0).length : Int) then (thrumref11_fit.l1 k x0 x17 x18 (wrap64 (x19 + 1))) else (some 4)) else (none)) else (none)) else (none)) else (some 0)
end
def thrumref11_fit.f (k : Nat) (l0 : List (List Bool)) : Option (Int) := thrumref11_fit.l0 k l0 l0 (l0.length : Int) 0
theorem thrumref11_fit.mono_l : ∀ k, (∀ y0 y1 y2 y3, LeO (thrumref11_fit.l0 k y0 y1 y2 y3) (thrumref11_fit.l0 (k + 1) y0 y1 y2 y3)) ∧ (∀ y0 y1 y2 y3, LeO (thrumref11_fit.l1 k y0 y1 y2 y3) (thrumref11_fit.l1 (k + 1) y0 y1 y2 y3))
  | 0 => ⟨fun _ _ _ _ r h => by simp [thrumref11_fit.l0] at h, fun _ _ _ _ r h => by simp [thrumref11_fit.l1] at h⟩
  | k + 1 => by
    obtain ⟨ih0, ih1⟩ := thrumref11_fit.mono_l k
    refine ⟨?_, ?_⟩
    · intro y0 y1 y2 y3
      unfold thrumref11_fit.l0
      repeat' first
      | (with_reducible exact ih0 _ _ _ _)
      | (with_reducible exact ih1 _ _ _ _)
      | (with_reducible exact LeO.refl _)
      | (with_reducible exact LeO.none _)
      | (with_reducible refine LeO.ite ?_ ?_)
      | (with_reducible refine LeO.bind ?_ (fun _ => ?_))
      | exact ih0 _ _ _ _
      | exact ih1 _ _ _ _
      | exact LeO.none _
      | refine LeO.ite ?_ ?_
      | refine LeO.bind ?_ (fun _ => ?_)
    · intro y0 y1 y2 y3
      unfold thrumref11_fit.l1
      repeat' first
      | (with_reducible exact ih0 _ _ _ _)
      | (with_reducible exact ih1 _ _ _ _)
      | (with_reducible exact LeO.refl _)
      | (with_reducible exact LeO.none _)
      | (with_reducible refine LeO.ite ?_ ?_)
      | (with_reducible refine LeO.bind ?_ (fun _ => ?_))
      | exact ih0 _ _ _ _
      | exact ih1 _ _ _ _
      | exact LeO.none _
      | refine LeO.ite ?_ ?_
      | refine LeO.bind ?_ (fun _ => ?_)
theorem thrumref11_fit.mono : ∀ a0 k, LeO (thrumref11_fit.f k a0) (thrumref11_fit.f (k + 1) a0) := by
  intro a0 k
  obtain ⟨ih0, ih1⟩ := thrumref11_fit.mono_l k
  unfold thrumref11_fit.f
  repeat' first
      | (with_reducible exact ih0 _ _ _ _)
      | (with_reducible exact ih1 _ _ _ _)
      | (with_reducible exact LeO.refl _)
      | (with_reducible exact LeO.none _)
      | (with_reducible refine LeO.ite ?_ ?_)
      | (with_reducible refine LeO.bind ?_ (fun _ => ?_))
      | exact ih0 _ _ _ _
      | exact ih1 _ _ _ _
      | exact LeO.none _
      | refine LeO.ite ?_ ?_
      | refine LeO.bind ?_ (fun _ => ?_)
set_option maxHeartbeats 8000000 in
set_option maxRecDepth 100000 in
theorem thrumref11_fit.calls (k : Nat) (A0 : Option Addr) (c0 : Nat) (l0 : List (List Bool)) (r : Int) (w : World) (hr0 : Kd.C (Kd.slice 4 Kd.bool) w A0 l0.length l0) (hc0 : l0.length ≤ c0) (h : thrumref11_fit.f k l0 = some r) :
    Calls Try.prog 125 #[.slice A0 l0.length c0] w fun e w' => e = .returned (.int .i64 r) ∧ Drawn0 w w' := by
  have HR0 := Aside0.mk hr0
  have HC0 := Aside0.mk hc0
  clear hr0 hc0
  have H : (thrumref11_fit.l0 k l0 l0 (l0.length : Int) 0) = some r := h
  clear h
  have H' := Aside0.mk H
  clear H
  go_enter Try.func125, Try.ntmps125
  go_wp2
  go_loopg [9] k (fun kq v9 w' => ∃ (x9_1 : Int), v9 = .int .i64 x9_1 ∧ Aside0 (thrumref11_fit.l0 kq l0 l0 (l0.length : Int) x9_1 = some r) ∧ Aside0 (kq ≤ k) ∧ Drawn0 w w')
  case atStart => exact ⟨(0), (by first | rfl | (simp; done) | (simp [*]; done)), H', ⟨Nat.le_refl _⟩, by repeat (first | exact Drawn0.refl _ | apply Drawn0.step)⟩
  case round =>
    clear H'
    try clear c1
    obtain ⟨x9_1, rfl, HA, HK1, ⟨m1, rfl⟩⟩ := hrel
    cases gk with
    | zero => exact absurd HA.out (by simp [thrumref11_fit.l0])
    | succ k1 =>
      have H := HA.out
      clear HA
      simp only [thrumref11_fit.l0] at H
      by_cases c2 : x9_1 < (l0.length : Int)
      · rw [if_pos c2] at H
        have c2b0 : decide (x9_1 < (l0.length : Int)) = true := decide_eq_true c2
        clear c2
        by_cases c3 : 0 ≤ x9_1
        · rw [if_pos c3] at H
          have c3b0 : decide (0 ≤ x9_1) = true := decide_eq_true c3
          clear c3
          by_cases c4 : x9_1 < (l0.length : Int)
          · rw [if_pos c4] at H
            have c4b0 : decide (x9_1 < (l0.length : Int)) = true := decide_eq_true c4
            clear c4
            by_cases c5 : ((rd_L3 l0 x9_1).length : Int) > 4096
            · rw [if_pos c5] at H
              have c5b0 : decide (4096 < ((rd_L3 l0 x9_1).length : Int)) = true := decide_eq_true c5
              have c5b1 : decide (4096 < (rd_L3 l0 x9_1).length) = true := decide_eq_true (by omega)
              clear c5
              obtain rfl := Option.some.inj H
              have p484 : 0 ≤ (x9_1 : Int) := of_decide_eq_true (by first | (with_reducible assumption) | assumption)
              have q484 : x9_1 < (l0.length : Int) := of_decide_eq_true (by first | (with_reducible assumption) | assumption)
              obtain ⟨ad484, A484_0, c484_0, e484, hx484_0, hl484_0, hi484_0⟩ := at_L3 HR0.out x9_1 p484 q484
              cases e484
              have HR484_0 := Aside0.mk hi484_0
              have HC484_0 := Aside0.mk hl484_0
              clear hi484_0 hl484_0
              replace p484 := eq_true p484
              replace q484 := eq_true q484
              go_wp2
              go_ret
              exact ⟨by first | rfl | (simp; done) | (simp [*]; done), by repeat (first | exact Drawn0.refl _ | apply Drawn0.step)⟩
            · rw [if_neg c5] at H
              have c5b0 : decide (4096 < ((rd_L3 l0 x9_1).length : Int)) = false := decide_eq_false c5
              have c5b1 : decide (4096 < (rd_L3 l0 x9_1).length) = false := decide_eq_false (by omega)
              clear c5
              have H' := Aside0.mk H
              clear H
              have p484 : 0 ≤ (x9_1 : Int) := of_decide_eq_true (by first | (with_reducible assumption) | assumption)
              have q484 : x9_1 < (l0.length : Int) := of_decide_eq_true (by first | (with_reducible assumption) | assumption)
              obtain ⟨ad484, A484_0, c484_0, e484, hx484_0, hl484_0, hi484_0⟩ := at_L3 HR0.out x9_1 p484 q484
              cases e484
              have HR484_0 := Aside0.mk hi484_0
              have HC484_0 := Aside0.mk hl484_0
              clear hi484_0 hl484_0
              replace p484 := eq_true p484
              replace q484 := eq_true q484
              go_wp2
              go_roundg k1
              case measure => have := HK1.out; omega
              case rel => exact ⟨(wrap64 (x9_1 + 1)), (by first | rfl | (simp; done) | (simp [*]; done)), H', ⟨by have := HK1.out; omega⟩, by repeat (first | exact Drawn0.refl _ | apply Drawn0.step)⟩
          · rw [if_neg c4] at H
            exact absurd H (by simp)
        · rw [if_neg c3] at H
          exact absurd H (by simp)
      · rw [if_neg c2] at H
        have c2b0 : decide (x9_1 < (l0.length : Int)) = false := decide_eq_false c2
        clear c2
        have H' := Aside0.mk H
        clear H
        go_wp2
        go_loopg [19] k1 (fun kq v19 w' => ∃ (x19_2 : Int), v19 = .int .i64 x19_2 ∧ Aside0 (thrumref11_fit.l1 kq l0 l0 (l0.length : Int) x19_2 = some r) ∧ Aside0 (kq ≤ k1) ∧ Drawn0 w w')
        case atStart => exact ⟨(0), (by first | rfl | (simp; done) | (simp [*]; done)), H', ⟨Nat.le_refl _⟩, by repeat (first | exact Drawn0.refl _ | apply Drawn0.step)⟩
        case round =>
          clear H'
          try clear c1
          try clear c2
          try clear c2b0
          try clear p2
          try clear c3
          try clear c3b0
          try clear c4
          try clear c4b0
          try clear p4
          try clear q4
          try clear hx4
          try clear c5
          try clear c5b0
          try clear c5b1
          try clear hx484_0
          try clear p484
          try clear q484
          obtain ⟨x19_2, rfl, HA, HK2, ⟨m2, rfl⟩⟩ := hrel
          cases gk with
          | zero => exact absurd HA.out (by simp [thrumref11_fit.l1])
          | succ k2 =>
            have H := HA.out
            clear HA
            simp only [thrumref11_fit.l1] at H
            by_cases c6 : x19_2 < (l0.length : Int)
            · rw [if_pos c6] at H
              have c6b0 : decide (x19_2 < (l0.length : Int)) = true := decide_eq_true c6
              clear c6
              by_cases c7 : 0 ≤ x19_2
              · rw [if_pos c7] at H
                have c7b0 : decide (0 ≤ x19_2) = true := decide_eq_true c7
                clear c7
                by_cases c8 : x19_2 < (l0.length : Int)
                · rw [if_pos c8] at H
                  have c8b0 : decide (x19_2 < (l0.length : Int)) = true := decide_eq_true c8
                  clear c8
                  by_cases c9 : 0 < (l0.length : Int)
                  · rw [if_pos c9] at H
                    have c9b0 : decide (0 < (l0.length : Int)) = true := decide_eq_true c9
                    have c9b1 : decide (0 < l0.length) = true := decide_eq_true (by omega)
                    clear c9
                    by_cases c10 : ((rd_L3 l0 x19_2).length : Int) = ((rd_L3 l0 0).length : Int)
                    · rw [if_pos c10] at H
                      have c10b0 : (((rd_L3 l0 x19_2).length : Int) == ((rd_L3 l0 0).length : Int)) = true := beq_iff_eq.mpr c10
                      have c10b1 : (((rd_L3 l0 x19_2).length : Int) != ((rd_L3 l0 0).length : Int)) = false := bne_eq_false_iff_eq.mpr c10
                      have c10b2 : ((rd_L3 l0 x19_2).length == (rd_L3 l0 0).length) = true := by first | simpa using c10 | (simp at c10 ⊢; omega)
                      clear c10
                      have H' := Aside0.mk H
                      clear H
                      have p485 : 0 ≤ (x19_2 : Int) := of_decide_eq_true (by first | (with_reducible assumption) | assumption)
                      have q485 : x19_2 < (l0.length : Int) := of_decide_eq_true (by first | (with_reducible assumption) | assumption)
                      obtain ⟨ad485, A485_0, c485_0, e485, hx485_0, hl485_0, hi485_0⟩ := at_L3 HR0.out x19_2 p485 q485
                      cases e485
                      have HR485_0 := Aside0.mk hi485_0
                      have HC485_0 := Aside0.mk hl485_0
                      clear hi485_0 hl485_0
                      replace p485 := eq_true p485
                      replace q485 := eq_true q485
                      have p486 : 0 ≤ (0 : Int) := (by omega)
                      have q486 : 0 < (l0.length : Int) := of_decide_eq_true (by first | (with_reducible assumption) | assumption)
                      obtain ⟨ad486, A486_0, c486_0, e486, hx486_0, hl486_0, hi486_0⟩ := at_L3 HR0.out 0 p486 q486
                      obtain rfl : ad485 = ad486 := (by injection e486)
                      have qi486 : (0 < l0.length) = True := eq_true (by omega)
                      (try rw [show ((0 : Int)).toNat = 0 from rfl] at hx486_0)
                      (try rw [Addr.add_zero'] at hx486_0)
                      have HR486_0 := Aside0.mk hi486_0
                      have HC486_0 := Aside0.mk hl486_0
                      clear hi486_0 hl486_0
                      replace p486 := eq_true p486
                      replace q486 := eq_true q486
                      go_wp2
                      go_roundg k2
                      case measure => have := HK1.out; have := HK2.out; omega
                      case rel => exact ⟨(wrap64 (x19_2 + 1)), (by first | rfl | (simp; done) | (simp [*]; done)), H', ⟨by have := HK1.out; have := HK2.out; omega⟩, by repeat (first | exact Drawn0.refl _ | apply Drawn0.step)⟩
                    · rw [if_neg c10] at H
                      have c10b0 : (((rd_L3 l0 x19_2).length : Int) == ((rd_L3 l0 0).length : Int)) = false := beq_eq_false_iff_ne.mpr c10
                      have c10b1 : (((rd_L3 l0 x19_2).length : Int) != ((rd_L3 l0 0).length : Int)) = true := bne_iff_ne.mpr c10
                      have c10b2 : ((rd_L3 l0 x19_2).length == (rd_L3 l0 0).length) = false := by first | simpa using c10 | (simp at c10 ⊢; omega)
                      obtain rfl := Option.some.inj H
                      have p485 : 0 ≤ (x19_2 : Int) := of_decide_eq_true (by first | (with_reducible assumption) | assumption)
                      have q485 : x19_2 < (l0.length : Int) := of_decide_eq_true (by first | (with_reducible assumption) | assumption)
                      obtain ⟨ad485, A485_0, c485_0, e485, hx485_0, hl485_0, hi485_0⟩ := at_L3 HR0.out x19_2 p485 q485
                      cases e485
                      have HR485_0 := Aside0.mk hi485_0
                      have HC485_0 := Aside0.mk hl485_0
                      clear hi485_0 hl485_0
                      replace p485 := eq_true p485
                      replace q485 := eq_true q485
                      have p486 : 0 ≤ (0 : Int) := (by omega)
                      have q486 : 0 < (l0.length : Int) := of_decide_eq_true (by first | (with_reducible assumption) | assumption)
                      obtain ⟨ad486, A486_0, c486_0, e486, hx486_0, hl486_0, hi486_0⟩ := at_L3 HR0.out 0 p486 q486
                      obtain rfl : ad485 = ad486 := (by injection e486)
                      have qi486 : (0 < l0.length) = True := eq_true (by omega)
                      (try rw [show ((0 : Int)).toNat = 0 from rfl] at hx486_0)
                      (try rw [Addr.add_zero'] at hx486_0)
                      have HR486_0 := Aside0.mk hi486_0
                      have HC486_0 := Aside0.mk hl486_0
                      clear hi486_0 hl486_0
                      replace p486 := eq_true p486
                      replace q486 := eq_true q486
                      go_wp2
                      go_ret
                      exact ⟨by first | rfl | (simp; done) | (simp [*]; done), by repeat (first | exact Drawn0.refl _ | apply Drawn0.step)⟩
                  · rw [if_neg c9] at H
                    exact absurd H (by simp)
                · rw [if_neg c8] at H
                  exact absurd H (by simp)
              · rw [if_neg c7] at H
                exact absurd H (by simp)
            · rw [if_neg c6] at H
              have c6b0 : decide (x19_2 < (l0.length : Int)) = false := decide_eq_false c6
              clear c6
              obtain rfl := Option.some.inj H
              go_wp2
              go_ret
              exact ⟨by first | rfl | (simp; done) | (simp [*]; done), by repeat (first | exact Drawn0.refl _ | apply Drawn0.step)⟩

end Go.Proofs.Ytllicjinmlkcfaa.HC
