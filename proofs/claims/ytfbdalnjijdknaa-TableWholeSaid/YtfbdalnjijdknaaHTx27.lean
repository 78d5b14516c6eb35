/- What Go functions do, each as a plain Lean function with the same answers, and the proof of it, in every world: printed by the session's driver over the kit's print, with texts by hand. -/
import Derived.Test.YtfbdalnjijdknaaHTx0
import Derived.Test.YtfbdalnjijdknaaHTx3
import Derived.Test.YtfbdalnjijdknaaHTx11
import Derived.Test.YtfbdalnjijdknaaHTx12
import Derived.Test.YtfbdalnjijdknaaHTx19
namespace Go.Proofs.Ytfbdalnjijdknaa.HT
open Go.RowKit Go.Proofs.YtfbdalnjijdknaaW.PrintWords Go.Proofs.YtfbdalnjijdknaaW.PrintLast Go.Proofs.YtfbdalnjijdknaaW.PrintMore
attribute [local go_sem] max2_int min2_int max_two min_two max_three min_three max_four min_four   -- for this text's walks alone
open Go.Proofs.Ytfbdalnjijdknaa.Sp
attribute [local go_sem] Go.Proofs.Ytfbdalnjijdknaa.Sp.u64_not
set_option linter.unusedVariables false
set_option linter.unusedSimpArgs false

/-! ### thrumlaw13_TableWhole: function 7 -/
mutual
def thrumlaw13_TableWhole.j0 : Nat → Int → List Int → Bool → List Int → Int → Bool → Option (Bool)
  | 0, _, _, _, _, _, _ => none
  | k + 1, x0, x1, x5, x6, x8, x59 => if x59 = true then (some false) else (thrumlaw13_TableWhole.l0 k x0 x1 x5 x6 x8 0 x6 (x6.length : Int) 0)
def thrumlaw13_TableWhole.l0 : Nat → Int → List Int → Bool → List Int → Int → Int → List Int → Int → Int → Option (Bool)
  | 0, _, _, _, _, _, _, _, _, _ => none
  | k + 1, x0, x1, x5, x6, x8, x10, x60, x61, x62 => if x62 < x61 then (if 0 ≤ x62 then (if x62 < (x60.length : Int) then (if (rd x60 x62) < 0 then (thrumlaw13_TableWhole.j2 k x0 x1 x5 x6 x8 (wrap64 (x10 + (rd x60 x62))) x62 (rd x60 x62) x60 x61 x62 true) else (if x62 < (x1.length : Int) then (if 0 ≤ x8 then (if x8 < (x1.length : Int) then (if (rd x1 x62) > (rd x1 x8) then (thrumlaw13_TableWhole.j2 k x0 x1 x5 x6 x8 (wrap64 (x10 + (rd x60 x62))) x62 (rd x60 x62) x60 x61 x62 true) else (if x8 < (x6.length : Int) then (if (rd x60 x62) > (rd x6 x8) then (thrumlaw13_TableWhole.j2 k x0 x1 x5 x6 x8 (wrap64 (x10 + (rd x60 x62))) x62 (rd x60 x62) x60 x61 x62 true) else (if (rd x1 x62) = (rd x1 x8) then (thrumlaw13_TableWhole.j2 k x0 x1 x5 x6 x8 (wrap64 (x10 + (rd x60 x62))) x62 (rd x60 x62) x60 x61 x62 (decide (x62 < x8))) else (thrumlaw13_TableWhole.j2 k x0 x1 x5 x6 x8 (wrap64 (x10 + (rd x60 x62))) x62 (rd x60 x62) x60 x61 x62 false))) else (none))) else (none)) else (none)) else (none))) else (none)) else (none)) else (if 0 ≤ x0 then (if x5 = true then (if x10 ≤ (shl .i64 1 x0) then (if (wrap64 ((shl .i64 1 x0) - x10)) < (x1.length : Int) then (if 0 ≤ x8 then (if x8 < (x6.length : Int) then (if (x1.length : Int) = 0 then (none) else (some (decide ((rd x6 x8) ≥ (wrap64 (Int.tdiv (shl .i64 1 x0) (x1.length : Int))))))) else (none)) else (none)) else (some false)) else (some false)) else (some false)) else (none))
def thrumlaw13_TableWhole.j2 : Nat → Int → List Int → Bool → List Int → Int → Int → Int → Int → List Int → Int → Int → Bool → Option (Bool)
  | 0, _, _, _, _, _, _, _, _, _, _, _, _ => none
  | k + 1, x0, x1, x5, x6, x8, x10, x11, x12, x60, x61, x62, x106 => if x106 = true then (some false) else (thrumlaw13_TableWhole.l1 k x0 x1 x5 x6 x8 x10 x11 x12 x60 x61 x62 x11 0)
def thrumlaw13_TableWhole.l1 : Nat → Int → List Int → Bool → List Int → Int → Int → Int → Int → List Int → Int → Int → Int → Int → Option (Bool)
  | 0, _, _, _, _, _, _, _, _, _, _, _, _, _ => none
  | k + 1, x0, x1, x5, x6, x8, x10, x11, x12, x60, x61, x62, x107, x108 => if x108 < x107 then (if 0 ≤ x11 then (if x11 < (x1.length : Int) then (if 0 ≤ x108 then (if x108 < (x1.length : Int) then (if (rd x1 x11) ≥ (rd x1 x108) then (if x108 < (x6.length : Int) then (if x12 < (rd x6 x108) then (some false) else (if (rd x1 x11) ≤ (rd x1 x108) then (if x12 > (rd x6 x108) then (some false) else (thrumlaw13_TableWhole.l1 k x0 x1 x5 x6 x8 x10 x11 x12 x60 x61 x62 x107 (wrap64 (x108 + 1)))) else (thrumlaw13_TableWhole.l1 k x0 x1 x5 x6 x8 x10 x11 x12 x60 x61 x62 x107 (wrap64 (x108 + 1))))) else (none)) else (if (rd x1 x11) ≤ (rd x1 x108) then (if x108 < (x6.length : Int) then (if x12 > (rd x6 x108) then (some false) else (thrumlaw13_TableWhole.l1 k x0 x1 x5 x6 x8 x10 x11 x12 x60 x61 x62 x107 (wrap64 (x108 + 1)))) else (none)) else (thrumlaw13_TableWhole.l1 k x0 x1 x5 x6 x8 x10 x11 x12 x60 x61 x62 x107 (wrap64 (x108 + 1))))) else (none)) else (none)) else (none)) else (none)) else (thrumlaw13_TableWhole.l0 k x0 x1 x5 x6 x8 x10 x60 x61 (wrap64 (x62 + 1)))
end
def thrumlaw13_TableWhole.f (k : Nat) (a0 : Int) (l1 : List Int) : Option (Bool) := (thrumlaw13_live.f).bind fun t220 => (if t220 = true then ((thrumlaw13_few.f l1).bind fun t221 => (if t221 = true then ((table_Soft.f a0 l1).bind fun bt222 => (if bt222.2 = 0 then ((table_Best.f l1).bind fun bt226 => (if bt226.2 = 0 then (if (bt222.1.length : Int) = (l1.length : Int) then (if bt226.1 < 0 then (thrumlaw13_TableWhole.j0 k a0 l1 t220 bt222.1 bt226.1 true) else (thrumlaw13_TableWhole.j0 k a0 l1 t220 bt222.1 bt226.1 (decide (bt226.1 ≥ (l1.length : Int))))) else (thrumlaw13_TableWhole.j0 k a0 l1 t220 bt222.1 bt226.1 true)) else (thrumlaw13_TableWhole.j0 k a0 l1 t220 bt222.1 bt226.1 true))) else (some ((bt222.1.length : Int) == 0)))) else (some t220))) else (some false))
theorem thrumlaw13_TableWhole.mono_l : ∀ k, (∀ y0 y1 y2 y3 y4 y5, LeO (thrumlaw13_TableWhole.j0 k y0 y1 y2 y3 y4 y5) (thrumlaw13_TableWhole.j0 (k + 1) y0 y1 y2 y3 y4 y5)) ∧ (∀ y0 y1 y2 y3 y4 y5 y6 y7 y8, LeO (thrumlaw13_TableWhole.l0 k y0 y1 y2 y3 y4 y5 y6 y7 y8) (thrumlaw13_TableWhole.l0 (k + 1) y0 y1 y2 y3 y4 y5 y6 y7 y8)) ∧ (∀ y0 y1 y2 y3 y4 y5 y6 y7 y8 y9 y10 y11, LeO (thrumlaw13_TableWhole.j2 k y0 y1 y2 y3 y4 y5 y6 y7 y8 y9 y10 y11) (thrumlaw13_TableWhole.j2 (k + 1) y0 y1 y2 y3 y4 y5 y6 y7 y8 y9 y10 y11)) ∧ (∀ y0 y1 y2 y3 y4 y5 y6 y7 y8 y9 y10 y11 y12, LeO (thrumlaw13_TableWhole.l1 k y0 y1 y2 y3 y4 y5 y6 y7 y8 y9 y10 y11 y12) (thrumlaw13_TableWhole.l1 (k + 1) y0 y1 y2 y3 y4 y5 y6 y7 y8 y9 y10 y11 y12))
  | 0 => ⟨fun _ _ _ _ _ _ r h => by simp [thrumlaw13_TableWhole.j0] at h, fun _ _ _ _ _ _ _ _ _ r h => by simp [thrumlaw13_TableWhole.l0] at h, fun _ _ _ _ _ _ _ _ _ _ _ _ r h => by simp [thrumlaw13_TableWhole.j2] at h, fun _ _ _ _ _ _ _ _ _ _ _ _ _ r h => by simp [thrumlaw13_TableWhole.l1] at h⟩
  | k + 1 => by
    obtain ⟨ih0, ih1, ih2, ih3⟩ := thrumlaw13_TableWhole.mono_l k
    refine ⟨?_, ?_, ?_, ?_⟩
    · intro y0 y1 y2 y3 y4 y5
      unfold thrumlaw13_TableWhole.j0
      repeat' first
      | (with_reducible exact ih0 _ _ _ _ _ _)
      | (with_reducible exact ih1 _ _ _ _ _ _ _ _ _)
      | (with_reducible exact ih2 _ _ _ _ _ _ _ _ _ _ _ _)
      | (with_reducible exact ih3 _ _ _ _ _ _ _ _ _ _ _ _ _)
      | (with_reducible exact LeO.refl _)
      | (with_reducible exact LeO.none _)
      | (with_reducible refine LeO.ite ?_ ?_)
      | (with_reducible refine LeO.bind ?_ (fun _ => ?_))
      | exact ih0 _ _ _ _ _ _
      | exact ih1 _ _ _ _ _ _ _ _ _
      | exact ih2 _ _ _ _ _ _ _ _ _ _ _ _
      | exact ih3 _ _ _ _ _ _ _ _ _ _ _ _ _
      | exact LeO.none _
      | refine LeO.ite ?_ ?_
      | refine LeO.bind ?_ (fun _ => ?_)
    · intro y0 y1 y2 y3 y4 y5 y6 y7 y8
      unfold thrumlaw13_TableWhole.l0
      repeat' first
      | (with_reducible exact ih0 _ _ _ _ _ _)
      | (with_reducible exact ih1 _ _ _ _ _ _ _ _ _)
      | (with_reducible exact ih2 _ _ _ _ _ _ _ _ _ _ _ _)
      | (with_reducible exact ih3 _ _ _ _ _ _ _ _ _ _ _ _ _)
      | (with_reducible exact LeO.refl _)
      | (with_reducible exact LeO.none _)
      | (with_reducible refine LeO.ite ?_ ?_)
      | (with_reducible refine LeO.bind ?_ (fun _ => ?_))
      | exact ih0 _ _ _ _ _ _
      | exact ih1 _ _ _ _ _ _ _ _ _
      | exact ih2 _ _ _ _ _ _ _ _ _ _ _ _
      | exact ih3 _ _ _ _ _ _ _ _ _ _ _ _ _
      | exact LeO.none _
      | refine LeO.ite ?_ ?_
      | refine LeO.bind ?_ (fun _ => ?_)
    · intro y0 y1 y2 y3 y4 y5 y6 y7 y8 y9 y10 y11
      unfold thrumlaw13_TableWhole.j2
      repeat' first
      | (with_reducible exact ih0 _ _ _ _ _ _)
      | (with_reducible exact ih1 _ _ _ _ _ _ _ _ _)
      | (with_reducible exact ih2 _ _ _ _ _ _ _ _ _ _ _ _)
      | (with_reducible exact ih3 _ _ _ _ _ _ _ _ _ _ _ _ _)
      | (with_reducible exact LeO.refl _)
      | (with_reducible exact LeO.none _)
      | (with_reducible refine LeO.ite ?_ ?_)
      | (with_reducible refine LeO.bind ?_ (fun _ => ?_))
      | exact ih0 _ _ _ _ _ _
      | exact ih1 _ _ _ _ _ _ _ _ _
      | exact ih2 _ _ _ _ _ _ _ _ _ _ _ _
      | exact ih3 _ _ _ _ _ _ _ _ _ _ _ _ _
      | exact LeO.none _
      | refine LeO.ite ?_ ?_
      | refine LeO.bind ?_ (fun _ => ?_)
    · intro y0 y1 y2 y3 y4 y5 y6 y7 y8 y9 y10 y11 y12
      unfold thrumlaw13_TableWhole.l1
      repeat' first
      | (with_reducible exact ih0 _ _ _ _ _ _)
      | (with_reducible exact ih1 _ _ _ _ _ _ _ _ _)
      | (with_reducible exact ih2 _ _ _ _ _ _ _ _ _ _ _ _)
      | (with_reducible exact ih3 _ _ _ _ _ _ _ _ _ _ _ _ _)
      | (with_reducible exact LeO.refl _)
      | (with_reducible exact LeO.none _)
      | (with_reducible refine LeO.ite ?_ ?_)
      | (with_reducible refine LeO.bind ?_ (fun _ => ?_))
      | exact ih0 _ _ _ _ _ _
      | exact ih1 _ _ _ _ _ _ _ _ _
      | exact ih2 _ _ _ _ _ _ _ _ _ _ _ _
      | exact ih3 _ _ _ _ _ _ _ _ _ _ _ _ _
      | exact LeO.none _
      | refine LeO.ite ?_ ?_
      | refine LeO.bind ?_ (fun _ => ?_)
theorem thrumlaw13_TableWhole.mono : ∀ a0 a1 k, LeO (thrumlaw13_TableWhole.f k a0 a1) (thrumlaw13_TableWhole.f (k + 1) a0 a1) := by
  intro a0 a1 k
  obtain ⟨ih0, ih1, ih2, ih3⟩ := thrumlaw13_TableWhole.mono_l k
  unfold thrumlaw13_TableWhole.f
  repeat' first
      | (with_reducible exact ih0 _ _ _ _ _ _)
      | (with_reducible exact ih1 _ _ _ _ _ _ _ _ _)
      | (with_reducible exact ih2 _ _ _ _ _ _ _ _ _ _ _ _)
      | (with_reducible exact ih3 _ _ _ _ _ _ _ _ _ _ _ _ _)
      | (with_reducible exact LeO.refl _)
      | (with_reducible exact LeO.none _)
      | (with_reducible refine LeO.ite ?_ ?_)
      | (with_reducible refine LeO.bind ?_ (fun _ => ?_))
      | exact ih0 _ _ _ _ _ _
      | exact ih1 _ _ _ _ _ _ _ _ _
      | exact ih2 _ _ _ _ _ _ _ _ _ _ _ _
      | exact ih3 _ _ _ _ _ _ _ _ _ _ _ _ _
      | exact LeO.none _
      | refine LeO.ite ?_ ?_
      | refine LeO.bind ?_ (fun _ => ?_)
set_option maxHeartbeats 8000000 in
set_option maxRecDepth 100000 in
theorem thrumlaw13_TableWhole.calls (k : Nat) (a0 : Int) (A1 : Option Addr) (c1 : Nat) (l1 : List Int) (r : Bool) (w : World) (hr1 : Kd.C (Kd.int .i64) w A1 l1.length l1) (hc1 : l1.length ≤ c1) (h : thrumlaw13_TableWhole.f k a0 l1 = some r) :
    Calls Try.prog 7 #[.int .i64 a0, .slice A1 l1.length c1] w fun e w' => e = .returned (.bool r) ∧ Below w.heap.size w w' := by
  have HR1 := Aside0.mk hr1
  have HC1 := Aside0.mk hc1
  clear hr1 hc1
  have HB := Aside0.mk (Below.refl w.heap.size w)
  have H : ((thrumlaw13_live.f).bind fun t220 => (if t220 = true then ((thrumlaw13_few.f l1).bind fun t221 => (if t221 = true then ((table_Soft.f a0 l1).bind fun bt222 => (if bt222.2 = 0 then ((table_Best.f l1).bind fun bt226 => (if bt226.2 = 0 then (if (bt222.1.length : Int) = (l1.length : Int) then (if bt226.1 < 0 then (thrumlaw13_TableWhole.j0 k a0 l1 t220 bt222.1 bt226.1 true) else (thrumlaw13_TableWhole.j0 k a0 l1 t220 bt222.1 bt226.1 (decide (bt226.1 ≥ (l1.length : Int))))) else (thrumlaw13_TableWhole.j0 k a0 l1 t220 bt222.1 bt226.1 true)) else (thrumlaw13_TableWhole.j0 k a0 l1 t220 bt222.1 bt226.1 true))) else (some ((bt222.1.length : Int) == 0)))) else (some t220))) else (some false))) = some r := h
  clear h
  replace H := Option.bind_eq_some_iff.mp H
  obtain ⟨t220, A30, H⟩ := H
  replace H : (if t220 = true then ((thrumlaw13_few.f l1).bind fun t221 => (if t221 = true then ((table_Soft.f a0 l1).bind fun bt222 => (if bt222.2 = 0 then ((table_Best.f l1).bind fun bt226 => (if bt226.2 = 0 then (if (bt222.1.length : Int) = (l1.length : Int) then (if bt226.1 < 0 then (thrumlaw13_TableWhole.j0 k a0 l1 t220 bt222.1 bt226.1 true) else (thrumlaw13_TableWhole.j0 k a0 l1 t220 bt222.1 bt226.1 (decide (bt226.1 ≥ (l1.length : Int))))) else (thrumlaw13_TableWhole.j0 k a0 l1 t220 bt222.1 bt226.1 true)) else (thrumlaw13_TableWhole.j0 k a0 l1 t220 bt222.1 bt226.1 true))) else (some ((bt222.1.length : Int) == 0)))) else (some t220))) else (some false)) = some r := H
  have A3 := Aside0.mk A30
  clear A30
  by_cases c4 : t220 = true
  · subst c4
    have H1 : ((thrumlaw13_few.f l1).bind fun t221 => (if t221 = true then ((table_Soft.f a0 l1).bind fun bt222 => (if bt222.2 = 0 then ((table_Best.f l1).bind fun bt226 => (if bt226.2 = 0 then (if (bt222.1.length : Int) = (l1.length : Int) then (if bt226.1 < 0 then (thrumlaw13_TableWhole.j0 k a0 l1 true bt222.1 bt226.1 true) else (thrumlaw13_TableWhole.j0 k a0 l1 true bt222.1 bt226.1 (decide (bt226.1 ≥ (l1.length : Int))))) else (thrumlaw13_TableWhole.j0 k a0 l1 true bt222.1 bt226.1 true)) else (thrumlaw13_TableWhole.j0 k a0 l1 true bt222.1 bt226.1 true))) else (some ((bt222.1.length : Int) == 0)))) else (some true))) = some r := by rw [if_pos rfl] at H; exact H
    clear H
    have H := H1
    clear H1
    replace H := Option.bind_eq_some_iff.mp H
    obtain ⟨t221, A50, H⟩ := H
    replace H : (if t221 = true then ((table_Soft.f a0 l1).bind fun bt222 => (if bt222.2 = 0 then ((table_Best.f l1).bind fun bt226 => (if bt226.2 = 0 then (if (bt222.1.length : Int) = (l1.length : Int) then (if bt226.1 < 0 then (thrumlaw13_TableWhole.j0 k a0 l1 true bt222.1 bt226.1 true) else (thrumlaw13_TableWhole.j0 k a0 l1 true bt222.1 bt226.1 (decide (bt226.1 ≥ (l1.length : Int))))) else (thrumlaw13_TableWhole.j0 k a0 l1 true bt222.1 bt226.1 true)) else (thrumlaw13_TableWhole.j0 k a0 l1 true bt222.1 bt226.1 true))) else (some ((bt222.1.length : Int) == 0)))) else (some true)) = some r := H
    have A5 := Aside0.mk A50
    clear A50
    by_cases c6 : t221 = true
    · subst c6
      have H1 : ((table_Soft.f a0 l1).bind fun bt222 => (if bt222.2 = 0 then ((table_Best.f l1).bind fun bt226 => (if bt226.2 = 0 then (if (bt222.1.length : Int) = (l1.length : Int) then (if bt226.1 < 0 then (thrumlaw13_TableWhole.j0 k a0 l1 true bt222.1 bt226.1 true) else (thrumlaw13_TableWhole.j0 k a0 l1 true bt222.1 bt226.1 (decide (bt226.1 ≥ (l1.length : Int))))) else (thrumlaw13_TableWhole.j0 k a0 l1 true bt222.1 bt226.1 true)) else (thrumlaw13_TableWhole.j0 k a0 l1 true bt222.1 bt226.1 true))) else (some ((bt222.1.length : Int) == 0)))) = some r := by rw [if_pos rfl] at H; exact H
      clear H
      have H := H1
      clear H1
      replace H := Option.bind_eq_some_iff.mp H
      obtain ⟨⟨t222, t223⟩, A70, H⟩ := H
      replace H : (if t223 = 0 then ((table_Best.f l1).bind fun bt226 => (if bt226.2 = 0 then (if (t222.length : Int) = (l1.length : Int) then (if bt226.1 < 0 then (thrumlaw13_TableWhole.j0 k a0 l1 true t222 bt226.1 true) else (thrumlaw13_TableWhole.j0 k a0 l1 true t222 bt226.1 (decide (bt226.1 ≥ (l1.length : Int))))) else (thrumlaw13_TableWhole.j0 k a0 l1 true t222 bt226.1 true)) else (thrumlaw13_TableWhole.j0 k a0 l1 true t222 bt226.1 true))) else (some ((t222.length : Int) == 0))) = some r := H
      have A7 := Aside0.mk A70
      clear A70
      by_cases c8 : t223 = 0
      · rw [if_pos c8] at H
        have c8b0 : (t223 == 0) = true := beq_iff_eq.mpr c8
        have c8b1 : (t223 != 0) = false := bne_eq_false_iff_eq.mpr c8
        clear c8
        replace H := Option.bind_eq_some_iff.mp H
        obtain ⟨⟨t226, t227⟩, A90, H⟩ := H
        replace H : (if t227 = 0 then (if (t222.length : Int) = (l1.length : Int) then (if t226 < 0 then (thrumlaw13_TableWhole.j0 k a0 l1 true t222 t226 true) else (thrumlaw13_TableWhole.j0 k a0 l1 true t222 t226 (decide (t226 ≥ (l1.length : Int))))) else (thrumlaw13_TableWhole.j0 k a0 l1 true t222 t226 true)) else (thrumlaw13_TableWhole.j0 k a0 l1 true t222 t226 true)) = some r := H
        have A9 := Aside0.mk A90
        clear A90
        have HC10 := Aside0.mk H
        clear H
        go_enter Try.func7, Try.ntmps7
        go_upto_region 10 with (first | (go_at_call 48; (with_reducible refine (thrumlaw13_live.calls  true _ A3.out).mono ?_); rintro e w11 ⟨rfl, hb⟩; have n0_ := Aside0.mk (below_step (by repeat (first | (with_reducible first | exact HB.out | apply below_alloc | apply pw_below_drewN | apply below_drew1) | exact HB.out)) hb); clear HB; have HB := n0_; clear n0_; (try clear hb); (try clear hb2); (try clear hk); (try clear hi)) | (go_at_call 49; (with_reducible refine (thrumlaw13_few.calls _ _ l1 true _ ?side1 ?side2 A5.out).mono ?_); (case side1 => repeat (first | exact (Kd.C_below HR1.out HB.out) | (with_reducible refine Kd.C_alloc ?_ _) | (with_reducible refine Kd.C_drewN ?_ _) | (with_reducible refine Kd.C_drew ?_))); (case side2 => exact HC1.out); rintro e w' ⟨rfl, ⟨nd, rfl⟩⟩; (try first | exact ⟨rfl, _, World.drewN_drewN _ _ _⟩ | exact ⟨rfl, _, Eq.trans (World.drewN_drewN _ _ _) (congrArg (World.drewN _) (Nat.add_assoc _ _ _))⟩)) | (go_at_call 50; (with_reducible refine (table_Soft.calls a0 _ _ l1 t222 t223 _ ?side1 ?side2 A7.out).mono ?_); (case side1 => repeat (first | exact (Kd.C_below HR1.out (by repeat (first | (with_reducible first | exact HB.out | apply below_alloc | apply pw_below_drewN | apply below_drew1) | exact HB.out))) | (with_reducible refine Kd.C_alloc ?_ _) | (with_reducible refine Kd.C_drewN ?_ _) | (with_reducible refine Kd.C_drew ?_))); (case side2 => exact HC1.out); rintro e w12 ⟨v224, rfl, ho0, hb⟩; have n0_ := Aside0.mk (Kd.R_lower ho0 (below_size (by repeat (first | (with_reducible first | exact HB.out | apply below_alloc | apply pw_below_drewN | apply below_drew1) | exact HB.out)))); have n1_ := Aside0.mk (below_step (by repeat (first | (with_reducible first | exact HB.out | apply below_alloc | apply pw_below_drewN | apply below_drew1) | exact HB.out)) hb); clear HB; have HO225 := n0_; have HB := n1_; clear n0_ n1_; (try clear hb); (try clear hb2); (try clear hk); (try clear hi); (try clear ho0)) | (go_at_call 52; (with_reducible refine (table_Best.calls _ _ l1 t226 t227 _ ?side1 ?side2 A9.out).mono ?_); (case side1 => repeat (first | exact (Kd.C_below HR1.out HB.out) | (with_reducible refine Kd.C_alloc ?_ _) | (with_reducible refine Kd.C_drewN ?_ _) | (with_reducible refine Kd.C_drew ?_))); (case side2 => exact HC1.out); rintro e w13 ⟨rfl, hb⟩; have n0_ := Aside0.mk (Kd.R_below (by (with_reducible repeat (first | apply Kd.R_alloc | apply Kd.R_drewN | apply Kd.R_drew)); exact HO225.out) hb); have n1_ := Aside0.mk (below_step (by repeat (first | (with_reducible first | exact HB.out | apply below_alloc | apply pw_below_drewN | apply below_drew1) | exact HB.out)) hb); clear HO225; clear HB; have HO225 := n0_; have HB := n1_; clear n0_ n1_; (try clear hb); (try clear hb2); (try clear hk); (try clear hi)))
        repeat (go_quiet (first | (go_at_call 48; (with_reducible refine (thrumlaw13_live.calls  true _ A3.out).mono ?_); rintro e w11 ⟨rfl, hb⟩; have n0_ := Aside0.mk (below_step (by repeat (first | (with_reducible first | exact HB.out | apply below_alloc | apply pw_below_drewN | apply below_drew1) | exact HB.out)) hb); clear HB; have HB := n0_; clear n0_; (try clear hb); (try clear hb2); (try clear hk); (try clear hi)) | (go_at_call 49; (with_reducible refine (thrumlaw13_few.calls _ _ l1 true _ ?side1 ?side2 A5.out).mono ?_); (case side1 => repeat (first | exact (Kd.C_below HR1.out HB.out) | (with_reducible refine Kd.C_alloc ?_ _) | (with_reducible refine Kd.C_drewN ?_ _) | (with_reducible refine Kd.C_drew ?_))); (case side2 => exact HC1.out); rintro e w' ⟨rfl, ⟨nd, rfl⟩⟩; (try first | exact ⟨rfl, _, World.drewN_drewN _ _ _⟩ | exact ⟨rfl, _, Eq.trans (World.drewN_drewN _ _ _) (congrArg (World.drewN _) (Nat.add_assoc _ _ _))⟩)) | (go_at_call 50; (with_reducible refine (table_Soft.calls a0 _ _ l1 t222 t223 _ ?side1 ?side2 A7.out).mono ?_); (case side1 => repeat (first | exact (Kd.C_below HR1.out (by repeat (first | (with_reducible first | exact HB.out | apply below_alloc | apply pw_below_drewN | apply below_drew1) | exact HB.out))) | (with_reducible refine Kd.C_alloc ?_ _) | (with_reducible refine Kd.C_drewN ?_ _) | (with_reducible refine Kd.C_drew ?_))); (case side2 => exact HC1.out); rintro e w12 ⟨v224, rfl, ho0, hb⟩; have n0_ := Aside0.mk (Kd.R_lower ho0 (below_size (by repeat (first | (with_reducible first | exact HB.out | apply below_alloc | apply pw_below_drewN | apply below_drew1) | exact HB.out)))); have n1_ := Aside0.mk (below_step (by repeat (first | (with_reducible first | exact HB.out | apply below_alloc | apply pw_below_drewN | apply below_drew1) | exact HB.out)) hb); clear HB; have HO225 := n0_; have HB := n1_; clear n0_ n1_; (try clear hb); (try clear hb2); (try clear hk); (try clear hi); (try clear ho0)) | (go_at_call 52; (with_reducible refine (table_Best.calls _ _ l1 t226 t227 _ ?side1 ?side2 A9.out).mono ?_); (case side1 => repeat (first | exact (Kd.C_below HR1.out HB.out) | (with_reducible refine Kd.C_alloc ?_ _) | (with_reducible refine Kd.C_drewN ?_ _) | (with_reducible refine Kd.C_drew ?_))); (case side2 => exact HC1.out); rintro e w13 ⟨rfl, hb⟩; have n0_ := Aside0.mk (Kd.R_below (by (with_reducible repeat (first | apply Kd.R_alloc | apply Kd.R_drewN | apply Kd.R_drew)); exact HO225.out) hb); have n1_ := Aside0.mk (below_step (by repeat (first | (with_reducible first | exact HB.out | apply below_alloc | apply pw_below_drewN | apply below_drew1) | exact HB.out)) hb); clear HO225; clear HB; have HO225 := n0_; have HB := n1_; clear n0_ n1_; (try clear hb); (try clear hb2); (try clear hk); (try clear hi))); go_upto_region 10 with (first | (go_at_call 48; (with_reducible refine (thrumlaw13_live.calls  true _ A3.out).mono ?_); rintro e w11 ⟨rfl, hb⟩; have n0_ := Aside0.mk (below_step (by repeat (first | (with_reducible first | exact HB.out | apply below_alloc | apply pw_below_drewN | apply below_drew1) | exact HB.out)) hb); clear HB; have HB := n0_; clear n0_; (try clear hb); (try clear hb2); (try clear hk); (try clear hi)) | (go_at_call 49; (with_reducible refine (thrumlaw13_few.calls _ _ l1 true _ ?side1 ?side2 A5.out).mono ?_); (case side1 => repeat (first | exact (Kd.C_below HR1.out HB.out) | (with_reducible refine Kd.C_alloc ?_ _) | (with_reducible refine Kd.C_drewN ?_ _) | (with_reducible refine Kd.C_drew ?_))); (case side2 => exact HC1.out); rintro e w' ⟨rfl, ⟨nd, rfl⟩⟩; (try first | exact ⟨rfl, _, World.drewN_drewN _ _ _⟩ | exact ⟨rfl, _, Eq.trans (World.drewN_drewN _ _ _) (congrArg (World.drewN _) (Nat.add_assoc _ _ _))⟩)) | (go_at_call 50; (with_reducible refine (table_Soft.calls a0 _ _ l1 t222 t223 _ ?side1 ?side2 A7.out).mono ?_); (case side1 => repeat (first | exact (Kd.C_below HR1.out (by repeat (first | (with_reducible first | exact HB.out | apply below_alloc | apply pw_below_drewN | apply below_drew1) | exact HB.out))) | (with_reducible refine Kd.C_alloc ?_ _) | (with_reducible refine Kd.C_drewN ?_ _) | (with_reducible refine Kd.C_drew ?_))); (case side2 => exact HC1.out); rintro e w12 ⟨v224, rfl, ho0, hb⟩; have n0_ := Aside0.mk (Kd.R_lower ho0 (below_size (by repeat (first | (with_reducible first | exact HB.out | apply below_alloc | apply pw_below_drewN | apply below_drew1) | exact HB.out)))); have n1_ := Aside0.mk (below_step (by repeat (first | (with_reducible first | exact HB.out | apply below_alloc | apply pw_below_drewN | apply below_drew1) | exact HB.out)) hb); clear HB; have HO225 := n0_; have HB := n1_; clear n0_ n1_; (try clear hb); (try clear hb2); (try clear hk); (try clear hi); (try clear ho0)) | (go_at_call 52; (with_reducible refine (table_Best.calls _ _ l1 t226 t227 _ ?side1 ?side2 A9.out).mono ?_); (case side1 => repeat (first | exact (Kd.C_below HR1.out HB.out) | (with_reducible refine Kd.C_alloc ?_ _) | (with_reducible refine Kd.C_drewN ?_ _) | (with_reducible refine Kd.C_drew ?_))); (case side2 => exact HC1.out); rintro e w13 ⟨rfl, hb⟩; have n0_ := Aside0.mk (Kd.R_below (by (with_reducible repeat (first | apply Kd.R_alloc | apply Kd.R_drewN | apply Kd.R_drew)); exact HO225.out) hb); have n1_ := Aside0.mk (below_step (by repeat (first | (with_reducible first | exact HB.out | apply below_alloc | apply pw_below_drewN | apply below_drew1) | exact HB.out)) hb); clear HO225; clear HB; have HO225 := n0_; have HB := n1_; clear n0_ n1_; (try clear hb); (try clear hb2); (try clear hk); (try clear hi))))
        (try simp only [Act.put, List.setIfInBounds_toArray, List.set_cons_zero, List.set_cons_succ])
        go_cut [59] (fun v59 wc => ∃ (kq : Nat) (x59_9 : Bool), v59 = .bool x59_9 ∧ Aside0 (thrumlaw13_TableWhole.j0 kq a0 l1 true t222 t226 x59_9 = some r) ∧ Aside0 (kq ≤ k) ∧ Aside0 (Kd.R (Kd.int .i64) 2 wc w.heap.size (fun _ => True) v224 t222) ∧ Aside0 (Below w.heap.size w wc))
        case first =>
          have H := HC10.out
          clear HC10
          by_cases c14 : t227 = 0
          · rw [if_pos c14] at H
            have c14b0 : (t227 == 0) = true := beq_iff_eq.mpr c14
            have c14b1 : (t227 != 0) = false := bne_eq_false_iff_eq.mpr c14
            clear c14
            (first | rw [c14b0] | (simp only [i64_w, i32_w]; rw [c14b0]) | skip)
            by_cases c15 : (t222.length : Int) = (l1.length : Int)
            · rw [if_pos c15] at H
              have c15b0 : ((t222.length : Int) == (l1.length : Int)) = true := beq_iff_eq.mpr c15
              have c15b1 : ((t222.length : Int) != (l1.length : Int)) = false := bne_eq_false_iff_eq.mpr c15
              have c15b2 : (t222.length == l1.length) = true := by first | simpa using c15 | (simp at c15 ⊢; omega)
              clear c15
              by_cases c16 : t226 < 0
              · rw [if_pos c16] at H
                have c16b0 : decide (t226 < 0) = true := decide_eq_true c16
                clear c16
                have H' := Aside0.mk H
                clear H
                obtain ⟨Ao17, co17, eo17⟩ := Kd.R_slice HO225.out
                subst eo17
                go_wp2
                repeat (go_quiet (fail); try go_wp2)
                go_meet
                case rel => exact ⟨_, (true), (by first | rfl | (simp; done) | (simp [*]; done)), H', ⟨by first | omega | exact Nat.le_refl _⟩, ⟨by (with_reducible repeat (first | apply Kd.R_alloc | apply Kd.R_drewN | apply Kd.R_drew)); exact HO225.out⟩, ⟨by repeat (first | (with_reducible first | exact HB.out | apply below_alloc | apply pw_below_drewN | apply below_drew1) | exact HB.out)⟩⟩
              · rw [if_neg c16] at H
                have c16b0 : decide (t226 < 0) = false := decide_eq_false c16
                clear c16
                have H' := Aside0.mk H
                clear H
                obtain ⟨Ao18, co18, eo18⟩ := Kd.R_slice HO225.out
                subst eo18
                go_wp2
                repeat (go_quiet (fail); try go_wp2)
                go_meet
                case rel => exact ⟨_, (decide (t226 ≥ (l1.length : Int))), (by first | rfl | (simp; done) | (simp [*]; done)), H', ⟨by first | omega | exact Nat.le_refl _⟩, ⟨by (with_reducible repeat (first | apply Kd.R_alloc | apply Kd.R_drewN | apply Kd.R_drew)); exact HO225.out⟩, ⟨by repeat (first | (with_reducible first | exact HB.out | apply below_alloc | apply pw_below_drewN | apply below_drew1) | exact HB.out)⟩⟩
            · rw [if_neg c15] at H
              have c15b0 : ((t222.length : Int) == (l1.length : Int)) = false := beq_eq_false_iff_ne.mpr c15
              have c15b1 : ((t222.length : Int) != (l1.length : Int)) = true := bne_iff_ne.mpr c15
              have c15b2 : (t222.length == l1.length) = false := by first | simpa using c15 | (simp at c15 ⊢; omega)
              have H' := Aside0.mk H
              clear H
              obtain ⟨Ao19, co19, eo19⟩ := Kd.R_slice HO225.out
              subst eo19
              go_wp2
              repeat (go_quiet (fail); try go_wp2)
              go_meet
              case rel => exact ⟨_, (true), (by first | rfl | (simp; done) | (simp [*]; done)), H', ⟨by first | omega | exact Nat.le_refl _⟩, ⟨by (with_reducible repeat (first | apply Kd.R_alloc | apply Kd.R_drewN | apply Kd.R_drew)); exact HO225.out⟩, ⟨by repeat (first | (with_reducible first | exact HB.out | apply below_alloc | apply pw_below_drewN | apply below_drew1) | exact HB.out)⟩⟩
          · rw [if_neg c14] at H
            have c14b0 : (t227 == 0) = false := beq_eq_false_iff_ne.mpr c14
            have c14b1 : (t227 != 0) = true := bne_iff_ne.mpr c14
            (first | rw [c14b0] | (simp only [i64_w, i32_w]; rw [c14b0]) | skip)
            have H' := Aside0.mk H
            clear H
            go_wp2
            repeat (go_quiet (fail); try go_wp2)
            go_meet
            case rel => exact ⟨_, (true), (by first | rfl | (simp; done) | (simp [*]; done)), H', ⟨by first | omega | exact Nat.le_refl _⟩, ⟨by (with_reducible repeat (first | apply Kd.R_alloc | apply Kd.R_drewN | apply Kd.R_drew)); exact HO225.out⟩, ⟨by repeat (first | (with_reducible first | exact HB.out | apply below_alloc | apply pw_below_drewN | apply below_drew1) | exact HB.out)⟩⟩
        case rest =>
          clear HC10
          try clear c1
          try clear p2
          try clear c4
          try clear c6
          try clear c7
          try clear c8
          try clear c8b0
          try clear c8b1
          try clear c14
          try clear c14b0
          try clear c14b1
          try clear c15
          try clear c15b0
          try clear c15b1
          try clear c15b2
          try clear c16
          try clear c16b0
          obtain ⟨kq, x59_9, rfl, HA, HJ9, HO_6, HB⟩ := hcut
          cases kq with
          | zero => exact absurd HA.out (by simp [thrumlaw13_TableWhole.j0])
          | succ kj9 =>
            have H := HA.out
            clear HA
            simp only [thrumlaw13_TableWhole.j0] at H
            by_cases c20 : x59_9 = true
            · subst c20
              have H1 : (some false) = some r := by rw [if_pos rfl] at H; exact H
              clear H
              have H := H1
              clear H1
              obtain rfl := Option.some.inj H
              go_wp2
              repeat (go_quiet (fail); try go_wp2)
              go_ret
              exact ⟨by first | rfl | (simp [errW_none, errW_some] <;> rfl) | (simp [*, errW_none, errW_some] <;> rfl), by repeat (first | (with_reducible first | exact HB.out | apply below_alloc | apply pw_below_drewN | apply below_drew1) | exact HB.out)⟩
            · replace c20 := Bool.eq_false_iff.mpr c20
              subst c20
              have H1 : (thrumlaw13_TableWhole.l0 kj9 a0 l1 true t222 t226 0 t222 (t222.length : Int) 0) = some r := by rw [if_neg (show ¬ (false = true) by decide)] at H; exact H
              clear H
              have H := H1
              clear H1
              have H' := Aside0.mk H
              clear H
              obtain ⟨Ao21, co21, eo21⟩ := Kd.R_slice HO_6.out
              subst eo21
              go_wp2
              repeat (go_quiet (fail); try go_wp2)
              go_loopg [10, 62] kj9 (fun kq v10 v62 w' => ∃ (x10_2 : Int) (x62_2 : Int), v10 = .int .i64 x10_2 ∧ v62 = .int .i64 x62_2 ∧ Aside0 (thrumlaw13_TableWhole.l0 kq a0 l1 true t222 t226 x10_2 t222 (t222.length : Int) x62_2 = some r) ∧ Aside0 (kq ≤ kj9) ∧ Aside0 (Kd.R (Kd.int .i64) 2 w' w.heap.size (fun _ => True) (.slice Ao21 t222.length co21) t222) ∧ Aside0 (Kd.R (Kd.int .i64) 2 w' w.heap.size (fun _ => True) (.slice Ao21 t222.length co21) t222) ∧ Aside0 (Below w.heap.size w w'))
              case atStart => exact ⟨(0), (0), (by first | rfl | (simp; done) | (simp [*]; done)), (by first | rfl | (simp; done) | (simp [*]; done)), H', ⟨Nat.le_refl _⟩, ⟨by (with_reducible repeat (first | apply Kd.R_alloc | apply Kd.R_drewN | apply Kd.R_drew)); exact HO_6.out⟩, ⟨by (with_reducible repeat (first | apply Kd.R_alloc | apply Kd.R_drewN | apply Kd.R_drew)); exact HO_6.out⟩, ⟨by repeat (first | (with_reducible first | exact HB.out | apply below_alloc | apply pw_below_drewN | apply below_drew1) | exact HB.out)⟩⟩
              case round =>
                clear H'
                try clear c1
                try clear c2
                try clear p2
                try clear c4
                try clear c6
                try clear c7
                try clear c8
                try clear c8b0
                try clear c8b1
                try clear c14
                try clear c14b0
                try clear c14b1
                try clear c15
                try clear c15b0
                try clear c15b1
                try clear c15b2
                try clear c16
                try clear c16b0
                try clear c20
                try clear p2
                obtain ⟨x10_2, x62_2, rfl, rfl, HA, HK2, HO_6, HO_60, HB⟩ := hrel
                cases gk with
                | zero => exact absurd HA.out (by simp [thrumlaw13_TableWhole.l0])
                | succ k2 =>
                  have H := HA.out
                  clear HA
                  simp only [thrumlaw13_TableWhole.l0] at H
                  by_cases c22 : x62_2 < (t222.length : Int)
                  · rw [if_pos c22] at H
                    have c22b0 : decide (x62_2 < (t222.length : Int)) = true := decide_eq_true c22
                    clear c22
                    by_cases c23 : 0 ≤ x62_2
                    · rw [if_pos c23] at H
                      have c23b0 : decide (0 ≤ x62_2) = true := decide_eq_true c23
                      clear c23
                      by_cases c24 : x62_2 < (t222.length : Int)
                      · rw [if_pos c24] at H
                        have c24b0 : decide (x62_2 < (t222.length : Int)) = true := decide_eq_true c24
                        clear c24
                        have HC25 := Aside0.mk H
                        clear H
                        have p229 : 0 ≤ (x62_2 : Int) := of_decide_eq_true (by first | (with_reducible assumption) | assumption)
                        have q229 : x62_2 < (t222.length : Int) := of_decide_eq_true (by first | (with_reducible assumption) | assumption)
                        obtain ⟨ad229, e229, hx229_0⟩ := Kd.at_int (Kd.R_reads' HO_60.out).2.2 x62_2 p229 q229
                        cases e229
                        replace p229 := eq_true p229
                        replace q229 := eq_true q229
                        go_upto_region 17 with (fail)
                        repeat (go_quiet (fail); go_upto_region 17 with (fail))
                        go_cut [106] (fun v106 wc => ∃ (kq : Nat) (x106_24 : Bool), v106 = .bool x106_24 ∧ Aside0 (thrumlaw13_TableWhole.j2 kq a0 l1 true t222 t226 (wrap64 (x10_2 + (rd t222 x62_2))) x62_2 (rd t222 x62_2) t222 (t222.length : Int) x62_2 x106_24 = some r) ∧ Aside0 (kq ≤ k2) ∧ Aside0 (Kd.R (Kd.int .i64) 2 wc w.heap.size (fun _ => True) (.slice (some ad229) t222.length co21) t222) ∧ Aside0 (Kd.R (Kd.int .i64) 2 wc w.heap.size (fun _ => True) (.slice (some ad229) t222.length co21) t222) ∧ Aside0 (Below w.heap.size w wc))
                        case first =>
                          have H := HC25.out
                          clear HC25
                          by_cases c26 : (rd t222 x62_2) < 0
                          · rw [if_pos c26] at H
                            have c26b0 : decide ((rd t222 x62_2) < 0) = true := decide_eq_true c26
                            clear c26
                            (first | rw [c26b0] | (simp only [i64_w, i32_w]; rw [c26b0]) | skip)
                            have H' := Aside0.mk H
                            clear H
                            go_wp2
                            repeat (go_quiet (fail); try go_wp2)
                            go_meet
                            case rel => exact ⟨_, (true), (by first | rfl | (simp; done) | (simp [*]; done)), H', ⟨by have := HJ9.out; have := HK2.out; first | omega | exact Nat.le_refl _⟩, ⟨by (with_reducible repeat (first | apply Kd.R_alloc | apply Kd.R_drewN | apply Kd.R_drew)); exact HO_6.out⟩, ⟨by (with_reducible repeat (first | apply Kd.R_alloc | apply Kd.R_drewN | apply Kd.R_drew)); exact HO_60.out⟩, ⟨by repeat (first | (with_reducible first | exact HB.out | apply below_alloc | apply pw_below_drewN | apply below_drew1) | exact HB.out)⟩⟩
                          · rw [if_neg c26] at H
                            have c26b0 : decide ((rd t222 x62_2) < 0) = false := decide_eq_false c26
                            clear c26
                            (first | rw [c26b0] | (simp only [i64_w, i32_w]; rw [c26b0]) | skip)
                            by_cases c27 : x62_2 < (l1.length : Int)
                            · rw [if_pos c27] at H
                              have c27b0 : decide (x62_2 < (l1.length : Int)) = true := decide_eq_true c27
                              clear c27
                              by_cases c28 : 0 ≤ t226
                              · rw [if_pos c28] at H
                                have c28b0 : decide (0 ≤ t226) = true := decide_eq_true c28
                                clear c28
                                by_cases c29 : t226 < (l1.length : Int)
                                · rw [if_pos c29] at H
                                  have c29b0 : decide (t226 < (l1.length : Int)) = true := decide_eq_true c29
                                  clear c29
                                  by_cases c30 : (rd l1 x62_2) > (rd l1 t226)
                                  · rw [if_pos c30] at H
                                    have c30b0 : decide ((rd l1 t226) < (rd l1 x62_2)) = true := decide_eq_true c30
                                    clear c30
                                    have H' := Aside0.mk H
                                    clear H
                                    have p230 : 0 ≤ (x62_2 : Int) := of_decide_eq_true (by first | (with_reducible assumption) | assumption)
                                    have q230 : x62_2 < (l1.length : Int) := of_decide_eq_true (by first | (with_reducible assumption) | assumption)
                                    obtain ⟨ad230, e230, hx230_0⟩ := Kd.at_int HR1.out x62_2 p230 q230
                                    cases e230
                                    replace hx230_0 := (HB.out.cell (World.block_lt_of_cell? w _ hx230_0)).trans hx230_0
                                    replace p230 := eq_true p230
                                    replace q230 := eq_true q230
                                    have p231 : 0 ≤ (t226 : Int) := of_decide_eq_true (by first | (with_reducible assumption) | assumption)
                                    have q231 : t226 < (l1.length : Int) := of_decide_eq_true (by first | (with_reducible assumption) | assumption)
                                    obtain ⟨ad231, e231, hx231_0⟩ := Kd.at_int HR1.out t226 p231 q231
                                    obtain rfl : ad230 = ad231 := (by injection e231)
                                    replace hx231_0 := (HB.out.cell (World.block_lt_of_cell? w _ hx231_0)).trans hx231_0
                                    replace p231 := eq_true p231
                                    replace q231 := eq_true q231
                                    go_wp2
                                    repeat (go_quiet (fail); try go_wp2)
                                    go_meet
                                    case rel => exact ⟨_, (true), (by first | rfl | (simp; done) | (simp [*]; done)), H', ⟨by have := HJ9.out; have := HK2.out; first | omega | exact Nat.le_refl _⟩, ⟨by (with_reducible repeat (first | apply Kd.R_alloc | apply Kd.R_drewN | apply Kd.R_drew)); exact HO_6.out⟩, ⟨by (with_reducible repeat (first | apply Kd.R_alloc | apply Kd.R_drewN | apply Kd.R_drew)); exact HO_60.out⟩, ⟨by repeat (first | (with_reducible first | exact HB.out | apply below_alloc | apply pw_below_drewN | apply below_drew1) | exact HB.out)⟩⟩
                                  · rw [if_neg c30] at H
                                    have c30b0 : decide ((rd l1 t226) < (rd l1 x62_2)) = false := decide_eq_false c30
                                    clear c30
                                    by_cases c31 : t226 < (t222.length : Int)
                                    · rw [if_pos c31] at H
                                      have c31b0 : decide (t226 < (t222.length : Int)) = true := decide_eq_true c31
                                      clear c31
                                      by_cases c32 : (rd t222 x62_2) > (rd t222 t226)
                                      · rw [if_pos c32] at H
                                        have c32b0 : decide ((rd t222 t226) < (rd t222 x62_2)) = true := decide_eq_true c32
                                        clear c32
                                        have H' := Aside0.mk H
                                        clear H
                                        have p230 : 0 ≤ (x62_2 : Int) := of_decide_eq_true (by first | (with_reducible assumption) | assumption)
                                        have q230 : x62_2 < (l1.length : Int) := of_decide_eq_true (by first | (with_reducible assumption) | assumption)
                                        obtain ⟨ad230, e230, hx230_0⟩ := Kd.at_int HR1.out x62_2 p230 q230
                                        cases e230
                                        replace hx230_0 := (HB.out.cell (World.block_lt_of_cell? w _ hx230_0)).trans hx230_0
                                        replace p230 := eq_true p230
                                        replace q230 := eq_true q230
                                        have p231 : 0 ≤ (t226 : Int) := of_decide_eq_true (by first | (with_reducible assumption) | assumption)
                                        have q231 : t226 < (l1.length : Int) := of_decide_eq_true (by first | (with_reducible assumption) | assumption)
                                        obtain ⟨ad231, e231, hx231_0⟩ := Kd.at_int HR1.out t226 p231 q231
                                        obtain rfl : ad230 = ad231 := (by injection e231)
                                        replace hx231_0 := (HB.out.cell (World.block_lt_of_cell? w _ hx231_0)).trans hx231_0
                                        replace p231 := eq_true p231
                                        replace q231 := eq_true q231
                                        have p232 : 0 ≤ (t226 : Int) := of_decide_eq_true (by first | (with_reducible assumption) | assumption)
                                        have q232 : t226 < (t222.length : Int) := of_decide_eq_true (by first | (with_reducible assumption) | assumption)
                                        obtain ⟨ad232, e232, hx232_0⟩ := Kd.at_int (Kd.R_reads' HO_6.out).2.2 t226 p232 q232
                                        obtain rfl : ad229 = ad232 := (by injection e232)
                                        replace p232 := eq_true p232
                                        replace q232 := eq_true q232
                                        go_wp2
                                        repeat (go_quiet (fail); try go_wp2)
                                        go_meet
                                        case rel => exact ⟨_, (true), (by first | rfl | (simp; done) | (simp [*]; done)), H', ⟨by have := HJ9.out; have := HK2.out; first | omega | exact Nat.le_refl _⟩, ⟨by (with_reducible repeat (first | apply Kd.R_alloc | apply Kd.R_drewN | apply Kd.R_drew)); exact HO_6.out⟩, ⟨by (with_reducible repeat (first | apply Kd.R_alloc | apply Kd.R_drewN | apply Kd.R_drew)); exact HO_60.out⟩, ⟨by repeat (first | (with_reducible first | exact HB.out | apply below_alloc | apply pw_below_drewN | apply below_drew1) | exact HB.out)⟩⟩
                                      · rw [if_neg c32] at H
                                        have c32b0 : decide ((rd t222 t226) < (rd t222 x62_2)) = false := decide_eq_false c32
                                        clear c32
                                        by_cases c33 : (rd l1 x62_2) = (rd l1 t226)
                                        · rw [if_pos c33] at H
                                          have c33b0 : ((rd l1 x62_2) == (rd l1 t226)) = true := beq_iff_eq.mpr c33
                                          have c33b1 : ((rd l1 x62_2) != (rd l1 t226)) = false := bne_eq_false_iff_eq.mpr c33
                                          clear c33
                                          have H' := Aside0.mk H
                                          clear H
                                          have p230 : 0 ≤ (x62_2 : Int) := of_decide_eq_true (by first | (with_reducible assumption) | assumption)
                                          have q230 : x62_2 < (l1.length : Int) := of_decide_eq_true (by first | (with_reducible assumption) | assumption)
                                          obtain ⟨ad230, e230, hx230_0⟩ := Kd.at_int HR1.out x62_2 p230 q230
                                          cases e230
                                          replace hx230_0 := (HB.out.cell (World.block_lt_of_cell? w _ hx230_0)).trans hx230_0
                                          replace p230 := eq_true p230
                                          replace q230 := eq_true q230
                                          have p231 : 0 ≤ (t226 : Int) := of_decide_eq_true (by first | (with_reducible assumption) | assumption)
                                          have q231 : t226 < (l1.length : Int) := of_decide_eq_true (by first | (with_reducible assumption) | assumption)
                                          obtain ⟨ad231, e231, hx231_0⟩ := Kd.at_int HR1.out t226 p231 q231
                                          obtain rfl : ad230 = ad231 := (by injection e231)
                                          replace hx231_0 := (HB.out.cell (World.block_lt_of_cell? w _ hx231_0)).trans hx231_0
                                          replace p231 := eq_true p231
                                          replace q231 := eq_true q231
                                          have p232 : 0 ≤ (t226 : Int) := of_decide_eq_true (by first | (with_reducible assumption) | assumption)
                                          have q232 : t226 < (t222.length : Int) := of_decide_eq_true (by first | (with_reducible assumption) | assumption)
                                          obtain ⟨ad232, e232, hx232_0⟩ := Kd.at_int (Kd.R_reads' HO_6.out).2.2 t226 p232 q232
                                          obtain rfl : ad229 = ad232 := (by injection e232)
                                          replace p232 := eq_true p232
                                          replace q232 := eq_true q232
                                          have p233 : 0 ≤ (x62_2 : Int) := of_decide_eq_true (by first | (with_reducible assumption) | assumption)
                                          have q233 : x62_2 < (l1.length : Int) := of_decide_eq_true (by first | (with_reducible assumption) | assumption)
                                          obtain ⟨ad233, e233, hx233_0⟩ := Kd.at_int HR1.out x62_2 p233 q233
                                          obtain rfl : ad230 = ad233 := (by injection e233)
                                          replace hx233_0 := (HB.out.cell (World.block_lt_of_cell? w _ hx233_0)).trans hx233_0
                                          replace p233 := eq_true p233
                                          replace q233 := eq_true q233
                                          have p234 : 0 ≤ (t226 : Int) := of_decide_eq_true (by first | (with_reducible assumption) | assumption)
                                          have q234 : t226 < (l1.length : Int) := of_decide_eq_true (by first | (with_reducible assumption) | assumption)
                                          obtain ⟨ad234, e234, hx234_0⟩ := Kd.at_int HR1.out t226 p234 q234
                                          obtain rfl : ad230 = ad234 := (by injection e234)
                                          replace hx234_0 := (HB.out.cell (World.block_lt_of_cell? w _ hx234_0)).trans hx234_0
                                          replace p234 := eq_true p234
                                          replace q234 := eq_true q234
                                          go_wp2
                                          repeat (go_quiet (fail); try go_wp2)
                                          go_meet
                                          case rel => exact ⟨_, (decide (x62_2 < t226)), (by first | rfl | (simp; done) | (simp [*]; done)), H', ⟨by have := HJ9.out; have := HK2.out; first | omega | exact Nat.le_refl _⟩, ⟨by (with_reducible repeat (first | apply Kd.R_alloc | apply Kd.R_drewN | apply Kd.R_drew)); exact HO_6.out⟩, ⟨by (with_reducible repeat (first | apply Kd.R_alloc | apply Kd.R_drewN | apply Kd.R_drew)); exact HO_60.out⟩, ⟨by repeat (first | (with_reducible first | exact HB.out | apply below_alloc | apply pw_below_drewN | apply below_drew1) | exact HB.out)⟩⟩
                                        · rw [if_neg c33] at H
                                          have c33b0 : ((rd l1 x62_2) == (rd l1 t226)) = false := beq_eq_false_iff_ne.mpr c33
                                          have c33b1 : ((rd l1 x62_2) != (rd l1 t226)) = true := bne_iff_ne.mpr c33
                                          have H' := Aside0.mk H
                                          clear H
                                          have p230 : 0 ≤ (x62_2 : Int) := of_decide_eq_true (by first | (with_reducible assumption) | assumption)
                                          have q230 : x62_2 < (l1.length : Int) := of_decide_eq_true (by first | (with_reducible assumption) | assumption)
                                          obtain ⟨ad230, e230, hx230_0⟩ := Kd.at_int HR1.out x62_2 p230 q230
                                          cases e230
                                          replace hx230_0 := (HB.out.cell (World.block_lt_of_cell? w _ hx230_0)).trans hx230_0
                                          replace p230 := eq_true p230
                                          replace q230 := eq_true q230
                                          have p231 : 0 ≤ (t226 : Int) := of_decide_eq_true (by first | (with_reducible assumption) | assumption)
                                          have q231 : t226 < (l1.length : Int) := of_decide_eq_true (by first | (with_reducible assumption) | assumption)
                                          obtain ⟨ad231, e231, hx231_0⟩ := Kd.at_int HR1.out t226 p231 q231
                                          obtain rfl : ad230 = ad231 := (by injection e231)
                                          replace hx231_0 := (HB.out.cell (World.block_lt_of_cell? w _ hx231_0)).trans hx231_0
                                          replace p231 := eq_true p231
                                          replace q231 := eq_true q231
                                          have p232 : 0 ≤ (t226 : Int) := of_decide_eq_true (by first | (with_reducible assumption) | assumption)
                                          have q232 : t226 < (t222.length : Int) := of_decide_eq_true (by first | (with_reducible assumption) | assumption)
                                          obtain ⟨ad232, e232, hx232_0⟩ := Kd.at_int (Kd.R_reads' HO_6.out).2.2 t226 p232 q232
                                          obtain rfl : ad229 = ad232 := (by injection e232)
                                          replace p232 := eq_true p232
                                          replace q232 := eq_true q232
                                          have p233 : 0 ≤ (x62_2 : Int) := of_decide_eq_true (by first | (with_reducible assumption) | assumption)
                                          have q233 : x62_2 < (l1.length : Int) := of_decide_eq_true (by first | (with_reducible assumption) | assumption)
                                          obtain ⟨ad233, e233, hx233_0⟩ := Kd.at_int HR1.out x62_2 p233 q233
                                          obtain rfl : ad230 = ad233 := (by injection e233)
                                          replace hx233_0 := (HB.out.cell (World.block_lt_of_cell? w _ hx233_0)).trans hx233_0
                                          replace p233 := eq_true p233
                                          replace q233 := eq_true q233
                                          have p234 : 0 ≤ (t226 : Int) := of_decide_eq_true (by first | (with_reducible assumption) | assumption)
                                          have q234 : t226 < (l1.length : Int) := of_decide_eq_true (by first | (with_reducible assumption) | assumption)
                                          obtain ⟨ad234, e234, hx234_0⟩ := Kd.at_int HR1.out t226 p234 q234
                                          obtain rfl : ad230 = ad234 := (by injection e234)
                                          replace hx234_0 := (HB.out.cell (World.block_lt_of_cell? w _ hx234_0)).trans hx234_0
                                          replace p234 := eq_true p234
                                          replace q234 := eq_true q234
                                          go_wp2
                                          repeat (go_quiet (fail); try go_wp2)
                                          go_meet
                                          case rel => exact ⟨_, (false), (by first | rfl | (simp; done) | (simp [*]; done)), H', ⟨by have := HJ9.out; have := HK2.out; first | omega | exact Nat.le_refl _⟩, ⟨by (with_reducible repeat (first | apply Kd.R_alloc | apply Kd.R_drewN | apply Kd.R_drew)); exact HO_6.out⟩, ⟨by (with_reducible repeat (first | apply Kd.R_alloc | apply Kd.R_drewN | apply Kd.R_drew)); exact HO_60.out⟩, ⟨by repeat (first | (with_reducible first | exact HB.out | apply below_alloc | apply pw_below_drewN | apply below_drew1) | exact HB.out)⟩⟩
                                    · rw [if_neg c31] at H
                                      exact absurd H (by simp)
                                · rw [if_neg c29] at H
                                  exact absurd H (by simp)
                              · rw [if_neg c28] at H
                                exact absurd H (by simp)
                            · rw [if_neg c27] at H
                              exact absurd H (by simp)
                        case rest =>
                          clear HC25
                          try clear c1
                          try clear c2
                          try clear p2
                          try clear q2
                          try clear hx2
                          try clear c3
                          try clear c4
                          try clear c6
                          try clear p6
                          try clear c7
                          try clear c8
                          try clear c8b0
                          try clear c8b1
                          try clear c14
                          try clear c14b0
                          try clear c14b1
                          try clear c15
                          try clear c15b0
                          try clear c15b1
                          try clear c15b2
                          try clear c16
                          try clear c16b0
                          try clear c20
                          try clear c22
                          try clear c22b0
                          try clear p22
                          try clear q22
                          try clear hx22
                          try clear c23
                          try clear c23b0
                          try clear p23
                          try clear q23
                          try clear hx23
                          try clear c24
                          try clear c24b0
                          try clear c26
                          try clear c26b0
                          try clear c27
                          try clear c27b0
                          try clear c28
                          try clear c28b0
                          try clear c29
                          try clear c29b0
                          try clear c30
                          try clear c30b0
                          try clear c31
                          try clear c31b0
                          try clear c32
                          try clear c32b0
                          try clear c33
                          try clear c33b0
                          try clear c33b1
                          try clear hx229_0
                          try clear hx230_0
                          try clear hx231_0
                          try clear hx232_0
                          try clear hx233_0
                          try clear hx234_0
                          try clear p2
                          try clear p229
                          try clear p230
                          try clear p231
                          try clear p232
                          try clear p233
                          try clear p234
                          try clear q229
                          try clear q230
                          try clear q231
                          try clear q232
                          try clear q233
                          try clear q234
                          obtain ⟨kq, x106_24, rfl, HA, HJ24, HO_6, HO_60, HB⟩ := hcut
                          cases kq with
                          | zero => exact absurd HA.out (by simp [thrumlaw13_TableWhole.j2])
                          | succ kj24 =>
                            have H := HA.out
                            clear HA
                            simp only [thrumlaw13_TableWhole.j2] at H
                            by_cases c34 : x106_24 = true
                            · subst c34
                              have H1 : (some false) = some r := by rw [if_pos rfl] at H; exact H
                              clear H
                              have H := H1
                              clear H1
                              obtain rfl := Option.some.inj H
                              go_wp2
                              repeat (go_quiet (fail); try go_wp2)
                              go_ret
                              exact ⟨by first | rfl | (simp [errW_none, errW_some] <;> rfl) | (simp [*, errW_none, errW_some] <;> rfl), by repeat (first | (with_reducible first | exact HB.out | apply below_alloc | apply pw_below_drewN | apply below_drew1) | exact HB.out)⟩
                            · replace c34 := Bool.eq_false_iff.mpr c34
                              subst c34
                              have H1 : (thrumlaw13_TableWhole.l1 kj24 a0 l1 true t222 t226 (wrap64 (x10_2 + (rd t222 x62_2))) x62_2 (rd t222 x62_2) t222 (t222.length : Int) x62_2 x62_2 0) = some r := by rw [if_neg (show ¬ (false = true) by decide)] at H; exact H
                              clear H
                              have H := H1
                              clear H1
                              have H' := Aside0.mk H
                              clear H
                              go_wp2
                              repeat (go_quiet (fail); try go_wp2)
                              go_loopg [108] kj24 (fun kq v108 w' => ∃ (x108_4 : Int), v108 = .int .i64 x108_4 ∧ Aside0 (thrumlaw13_TableWhole.l1 kq a0 l1 true t222 t226 (wrap64 (x10_2 + (rd t222 x62_2))) x62_2 (rd t222 x62_2) t222 (t222.length : Int) x62_2 x62_2 x108_4 = some r) ∧ Aside0 (kq ≤ kj24) ∧ Aside0 (Kd.R (Kd.int .i64) 2 w' w.heap.size (fun _ => True) (.slice (some ad229) t222.length co21) t222) ∧ Aside0 (Kd.R (Kd.int .i64) 2 w' w.heap.size (fun _ => True) (.slice (some ad229) t222.length co21) t222) ∧ Aside0 (Below w.heap.size w w'))
                              case atStart => exact ⟨(0), (by first | rfl | (simp; done) | (simp [*]; done)), H', ⟨Nat.le_refl _⟩, ⟨by (with_reducible repeat (first | apply Kd.R_alloc | apply Kd.R_drewN | apply Kd.R_drew)); exact HO_6.out⟩, ⟨by (with_reducible repeat (first | apply Kd.R_alloc | apply Kd.R_drewN | apply Kd.R_drew)); exact HO_60.out⟩, ⟨by repeat (first | (with_reducible first | exact HB.out | apply below_alloc | apply pw_below_drewN | apply below_drew1) | exact HB.out)⟩⟩
                              case round =>
                                clear H'
                                try clear c1
                                try clear c2
                                try clear p2
                                try clear q2
                                try clear hx2
                                try clear c3
                                try clear c4
                                try clear c6
                                try clear p6
                                try clear c7
                                try clear c8
                                try clear c8b0
                                try clear c8b1
                                try clear c14
                                try clear c14b0
                                try clear c14b1
                                try clear c15
                                try clear c15b0
                                try clear c15b1
                                try clear c15b2
                                try clear c16
                                try clear c16b0
                                try clear c20
                                try clear c22
                                try clear c22b0
                                try clear p22
                                try clear q22
                                try clear hx22
                                try clear c23
                                try clear c23b0
                                try clear p23
                                try clear q23
                                try clear hx23
                                try clear c24
                                try clear c24b0
                                try clear c26
                                try clear c26b0
                                try clear c27
                                try clear c27b0
                                try clear c28
                                try clear c28b0
                                try clear c29
                                try clear c29b0
                                try clear c30
                                try clear c30b0
                                try clear c31
                                try clear c31b0
                                try clear c32
                                try clear c32b0
                                try clear c33
                                try clear c33b0
                                try clear c33b1
                                try clear c34
                                try clear hx229_0
                                try clear hx230_0
                                try clear hx231_0
                                try clear hx232_0
                                try clear hx233_0
                                try clear hx234_0
                                try clear p2
                                try clear p22
                                try clear p229
                                try clear p23
                                try clear p230
                                try clear p231
                                try clear p232
                                try clear p233
                                try clear p234
                                try clear p6
                                try clear q2
                                try clear q22
                                try clear q229
                                try clear q23
                                try clear q230
                                try clear q231
                                try clear q232
                                try clear q233
                                try clear q234
                                obtain ⟨x108_4, rfl, HA, HK4, HO_6, HO_60, HB⟩ := hrel
                                cases gk with
                                | zero => exact absurd HA.out (by simp [thrumlaw13_TableWhole.l1])
                                | succ k4 =>
                                  have H := HA.out
                                  clear HA
                                  simp only [thrumlaw13_TableWhole.l1] at H
                                  by_cases c35 : x108_4 < x62_2
                                  · rw [if_pos c35] at H
                                    have c35b0 : decide (x108_4 < x62_2) = true := decide_eq_true c35
                                    clear c35
                                    by_cases c36 : 0 ≤ x62_2
                                    · rw [if_pos c36] at H
                                      have c36b0 : decide (0 ≤ x62_2) = true := decide_eq_true c36
                                      clear c36
                                      by_cases c37 : x62_2 < (l1.length : Int)
                                      · rw [if_pos c37] at H
                                        have c37b0 : decide (x62_2 < (l1.length : Int)) = true := decide_eq_true c37
                                        clear c37
                                        by_cases c38 : 0 ≤ x108_4
                                        · rw [if_pos c38] at H
                                          have c38b0 : decide (0 ≤ x108_4) = true := decide_eq_true c38
                                          clear c38
                                          by_cases c39 : x108_4 < (l1.length : Int)
                                          · rw [if_pos c39] at H
                                            have c39b0 : decide (x108_4 < (l1.length : Int)) = true := decide_eq_true c39
                                            clear c39
                                            by_cases c40 : (rd l1 x62_2) ≥ (rd l1 x108_4)
                                            · rw [if_pos c40] at H
                                              have c40b0 : decide ((rd l1 x108_4) ≤ (rd l1 x62_2)) = true := decide_eq_true c40
                                              clear c40
                                              by_cases c41 : x108_4 < (t222.length : Int)
                                              · rw [if_pos c41] at H
                                                have c41b0 : decide (x108_4 < (t222.length : Int)) = true := decide_eq_true c41
                                                clear c41
                                                by_cases c42 : (rd t222 x62_2) < (rd t222 x108_4)
                                                · rw [if_pos c42] at H
                                                  have c42b0 : decide ((rd t222 x62_2) < (rd t222 x108_4)) = true := decide_eq_true c42
                                                  clear c42
                                                  obtain rfl := Option.some.inj H
                                                  have p235 : 0 ≤ (x62_2 : Int) := of_decide_eq_true (by first | (with_reducible assumption) | assumption)
                                                  have q235 : x62_2 < (l1.length : Int) := of_decide_eq_true (by first | (with_reducible assumption) | assumption)
                                                  obtain ⟨ad235, e235, hx235_0⟩ := Kd.at_int HR1.out x62_2 p235 q235
                                                  cases e235
                                                  replace hx235_0 := (HB.out.cell (World.block_lt_of_cell? w _ hx235_0)).trans hx235_0
                                                  replace p235 := eq_true p235
                                                  replace q235 := eq_true q235
                                                  have p236 : 0 ≤ (x108_4 : Int) := of_decide_eq_true (by first | (with_reducible assumption) | assumption)
                                                  have q236 : x108_4 < (l1.length : Int) := of_decide_eq_true (by first | (with_reducible assumption) | assumption)
                                                  obtain ⟨ad236, e236, hx236_0⟩ := Kd.at_int HR1.out x108_4 p236 q236
                                                  obtain rfl : ad235 = ad236 := (by injection e236)
                                                  replace hx236_0 := (HB.out.cell (World.block_lt_of_cell? w _ hx236_0)).trans hx236_0
                                                  replace p236 := eq_true p236
                                                  replace q236 := eq_true q236
                                                  have p237 : 0 ≤ (x108_4 : Int) := of_decide_eq_true (by first | (with_reducible assumption) | assumption)
                                                  have q237 : x108_4 < (t222.length : Int) := of_decide_eq_true (by first | (with_reducible assumption) | assumption)
                                                  obtain ⟨ad237, e237, hx237_0⟩ := Kd.at_int (Kd.R_reads' HO_6.out).2.2 x108_4 p237 q237
                                                  obtain rfl : ad229 = ad237 := (by injection e237)
                                                  replace p237 := eq_true p237
                                                  replace q237 := eq_true q237
                                                  go_wp2
                                                  repeat (go_quiet (fail); try go_wp2)
                                                  go_ret
                                                  exact ⟨by first | rfl | (simp [errW_none, errW_some] <;> rfl) | (simp [*, errW_none, errW_some] <;> rfl), by repeat (first | (with_reducible first | exact HB.out | apply below_alloc | apply pw_below_drewN | apply below_drew1) | exact HB.out)⟩
                                                · rw [if_neg c42] at H
                                                  have c42b0 : decide ((rd t222 x62_2) < (rd t222 x108_4)) = false := decide_eq_false c42
                                                  clear c42
                                                  by_cases c43 : (rd l1 x62_2) ≤ (rd l1 x108_4)
                                                  · rw [if_pos c43] at H
                                                    have c43b0 : decide ((rd l1 x62_2) ≤ (rd l1 x108_4)) = true := decide_eq_true c43
                                                    clear c43
                                                    by_cases c44 : (rd t222 x62_2) > (rd t222 x108_4)
                                                    · rw [if_pos c44] at H
                                                      have c44b0 : decide ((rd t222 x108_4) < (rd t222 x62_2)) = true := decide_eq_true c44
                                                      clear c44
                                                      obtain rfl := Option.some.inj H
                                                      have p235 : 0 ≤ (x62_2 : Int) := of_decide_eq_true (by first | (with_reducible assumption) | assumption)
                                                      have q235 : x62_2 < (l1.length : Int) := of_decide_eq_true (by first | (with_reducible assumption) | assumption)
                                                      obtain ⟨ad235, e235, hx235_0⟩ := Kd.at_int HR1.out x62_2 p235 q235
                                                      cases e235
                                                      replace hx235_0 := (HB.out.cell (World.block_lt_of_cell? w _ hx235_0)).trans hx235_0
                                                      replace p235 := eq_true p235
                                                      replace q235 := eq_true q235
                                                      have p236 : 0 ≤ (x108_4 : Int) := of_decide_eq_true (by first | (with_reducible assumption) | assumption)
                                                      have q236 : x108_4 < (l1.length : Int) := of_decide_eq_true (by first | (with_reducible assumption) | assumption)
                                                      obtain ⟨ad236, e236, hx236_0⟩ := Kd.at_int HR1.out x108_4 p236 q236
                                                      obtain rfl : ad235 = ad236 := (by injection e236)
                                                      replace hx236_0 := (HB.out.cell (World.block_lt_of_cell? w _ hx236_0)).trans hx236_0
                                                      replace p236 := eq_true p236
                                                      replace q236 := eq_true q236
                                                      have p237 : 0 ≤ (x108_4 : Int) := of_decide_eq_true (by first | (with_reducible assumption) | assumption)
                                                      have q237 : x108_4 < (t222.length : Int) := of_decide_eq_true (by first | (with_reducible assumption) | assumption)
                                                      obtain ⟨ad237, e237, hx237_0⟩ := Kd.at_int (Kd.R_reads' HO_6.out).2.2 x108_4 p237 q237
                                                      obtain rfl : ad229 = ad237 := (by injection e237)
                                                      replace p237 := eq_true p237
                                                      replace q237 := eq_true q237
                                                      have p238 : 0 ≤ (x62_2 : Int) := of_decide_eq_true (by first | (with_reducible assumption) | assumption)
                                                      have q238 : x62_2 < (l1.length : Int) := of_decide_eq_true (by first | (with_reducible assumption) | assumption)
                                                      obtain ⟨ad238, e238, hx238_0⟩ := Kd.at_int HR1.out x62_2 p238 q238
                                                      obtain rfl : ad235 = ad238 := (by injection e238)
                                                      replace hx238_0 := (HB.out.cell (World.block_lt_of_cell? w _ hx238_0)).trans hx238_0
                                                      replace p238 := eq_true p238
                                                      replace q238 := eq_true q238
                                                      have p239 : 0 ≤ (x108_4 : Int) := of_decide_eq_true (by first | (with_reducible assumption) | assumption)
                                                      have q239 : x108_4 < (l1.length : Int) := of_decide_eq_true (by first | (with_reducible assumption) | assumption)
                                                      obtain ⟨ad239, e239, hx239_0⟩ := Kd.at_int HR1.out x108_4 p239 q239
                                                      obtain rfl : ad235 = ad239 := (by injection e239)
                                                      replace hx239_0 := (HB.out.cell (World.block_lt_of_cell? w _ hx239_0)).trans hx239_0
                                                      replace p239 := eq_true p239
                                                      replace q239 := eq_true q239
                                                      have p240 : 0 ≤ (x108_4 : Int) := of_decide_eq_true (by first | (with_reducible assumption) | assumption)
                                                      have q240 : x108_4 < (t222.length : Int) := of_decide_eq_true (by first | (with_reducible assumption) | assumption)
                                                      obtain ⟨ad240, e240, hx240_0⟩ := Kd.at_int (Kd.R_reads' HO_6.out).2.2 x108_4 p240 q240
                                                      obtain rfl : ad229 = ad240 := (by injection e240)
                                                      replace p240 := eq_true p240
                                                      replace q240 := eq_true q240
                                                      go_wp2
                                                      repeat (go_quiet (fail); try go_wp2)
                                                      go_ret
                                                      exact ⟨by first | rfl | (simp [errW_none, errW_some] <;> rfl) | (simp [*, errW_none, errW_some] <;> rfl), by repeat (first | (with_reducible first | exact HB.out | apply below_alloc | apply pw_below_drewN | apply below_drew1) | exact HB.out)⟩
                                                    · rw [if_neg c44] at H
                                                      have c44b0 : decide ((rd t222 x108_4) < (rd t222 x62_2)) = false := decide_eq_false c44
                                                      clear c44
                                                      have H' := Aside0.mk H
                                                      clear H
                                                      have p235 : 0 ≤ (x62_2 : Int) := of_decide_eq_true (by first | (with_reducible assumption) | assumption)
                                                      have q235 : x62_2 < (l1.length : Int) := of_decide_eq_true (by first | (with_reducible assumption) | assumption)
                                                      obtain ⟨ad235, e235, hx235_0⟩ := Kd.at_int HR1.out x62_2 p235 q235
                                                      cases e235
                                                      replace hx235_0 := (HB.out.cell (World.block_lt_of_cell? w _ hx235_0)).trans hx235_0
                                                      replace p235 := eq_true p235
                                                      replace q235 := eq_true q235
                                                      have p236 : 0 ≤ (x108_4 : Int) := of_decide_eq_true (by first | (with_reducible assumption) | assumption)
                                                      have q236 : x108_4 < (l1.length : Int) := of_decide_eq_true (by first | (with_reducible assumption) | assumption)
                                                      obtain ⟨ad236, e236, hx236_0⟩ := Kd.at_int HR1.out x108_4 p236 q236
                                                      obtain rfl : ad235 = ad236 := (by injection e236)
                                                      replace hx236_0 := (HB.out.cell (World.block_lt_of_cell? w _ hx236_0)).trans hx236_0
                                                      replace p236 := eq_true p236
                                                      replace q236 := eq_true q236
                                                      have p237 : 0 ≤ (x108_4 : Int) := of_decide_eq_true (by first | (with_reducible assumption) | assumption)
                                                      have q237 : x108_4 < (t222.length : Int) := of_decide_eq_true (by first | (with_reducible assumption) | assumption)
                                                      obtain ⟨ad237, e237, hx237_0⟩ := Kd.at_int (Kd.R_reads' HO_6.out).2.2 x108_4 p237 q237
                                                      obtain rfl : ad229 = ad237 := (by injection e237)
                                                      replace p237 := eq_true p237
                                                      replace q237 := eq_true q237
                                                      have p238 : 0 ≤ (x62_2 : Int) := of_decide_eq_true (by first | (with_reducible assumption) | assumption)
                                                      have q238 : x62_2 < (l1.length : Int) := of_decide_eq_true (by first | (with_reducible assumption) | assumption)
                                                      obtain ⟨ad238, e238, hx238_0⟩ := Kd.at_int HR1.out x62_2 p238 q238
                                                      obtain rfl : ad235 = ad238 := (by injection e238)
                                                      replace hx238_0 := (HB.out.cell (World.block_lt_of_cell? w _ hx238_0)).trans hx238_0
                                                      replace p238 := eq_true p238
                                                      replace q238 := eq_true q238
                                                      have p239 : 0 ≤ (x108_4 : Int) := of_decide_eq_true (by first | (with_reducible assumption) | assumption)
                                                      have q239 : x108_4 < (l1.length : Int) := of_decide_eq_true (by first | (with_reducible assumption) | assumption)
                                                      obtain ⟨ad239, e239, hx239_0⟩ := Kd.at_int HR1.out x108_4 p239 q239
                                                      obtain rfl : ad235 = ad239 := (by injection e239)
                                                      replace hx239_0 := (HB.out.cell (World.block_lt_of_cell? w _ hx239_0)).trans hx239_0
                                                      replace p239 := eq_true p239
                                                      replace q239 := eq_true q239
                                                      have p240 : 0 ≤ (x108_4 : Int) := of_decide_eq_true (by first | (with_reducible assumption) | assumption)
                                                      have q240 : x108_4 < (t222.length : Int) := of_decide_eq_true (by first | (with_reducible assumption) | assumption)
                                                      obtain ⟨ad240, e240, hx240_0⟩ := Kd.at_int (Kd.R_reads' HO_6.out).2.2 x108_4 p240 q240
                                                      obtain rfl : ad229 = ad240 := (by injection e240)
                                                      replace p240 := eq_true p240
                                                      replace q240 := eq_true q240
                                                      go_wp2
                                                      repeat (go_quiet (fail); try go_wp2)
                                                      go_roundg k4
                                                      case measure => have := HJ9.out; have := HK2.out; have := HJ24.out; have := HK4.out; omega
                                                      case rel => exact ⟨(wrap64 (x108_4 + 1)), (by first | rfl | (simp; done) | (simp [*]; done)), H', ⟨by have := HJ9.out; have := HK2.out; have := HJ24.out; have := HK4.out; omega⟩, ⟨by (with_reducible repeat (first | apply Kd.R_alloc | apply Kd.R_drewN | apply Kd.R_drew)); exact HO_6.out⟩, ⟨by (with_reducible repeat (first | apply Kd.R_alloc | apply Kd.R_drewN | apply Kd.R_drew)); exact HO_60.out⟩, ⟨by repeat (first | (with_reducible first | exact HB.out | apply below_alloc | apply pw_below_drewN | apply below_drew1) | exact HB.out)⟩⟩
                                                  · rw [if_neg c43] at H
                                                    have c43b0 : decide ((rd l1 x62_2) ≤ (rd l1 x108_4)) = false := decide_eq_false c43
                                                    clear c43
                                                    have H' := Aside0.mk H
                                                    clear H
                                                    have p235 : 0 ≤ (x62_2 : Int) := of_decide_eq_true (by first | (with_reducible assumption) | assumption)
                                                    have q235 : x62_2 < (l1.length : Int) := of_decide_eq_true (by first | (with_reducible assumption) | assumption)
                                                    obtain ⟨ad235, e235, hx235_0⟩ := Kd.at_int HR1.out x62_2 p235 q235
                                                    cases e235
                                                    replace hx235_0 := (HB.out.cell (World.block_lt_of_cell? w _ hx235_0)).trans hx235_0
                                                    replace p235 := eq_true p235
                                                    replace q235 := eq_true q235
                                                    have p236 : 0 ≤ (x108_4 : Int) := of_decide_eq_true (by first | (with_reducible assumption) | assumption)
                                                    have q236 : x108_4 < (l1.length : Int) := of_decide_eq_true (by first | (with_reducible assumption) | assumption)
                                                    obtain ⟨ad236, e236, hx236_0⟩ := Kd.at_int HR1.out x108_4 p236 q236
                                                    obtain rfl : ad235 = ad236 := (by injection e236)
                                                    replace hx236_0 := (HB.out.cell (World.block_lt_of_cell? w _ hx236_0)).trans hx236_0
                                                    replace p236 := eq_true p236
                                                    replace q236 := eq_true q236
                                                    have p237 : 0 ≤ (x108_4 : Int) := of_decide_eq_true (by first | (with_reducible assumption) | assumption)
                                                    have q237 : x108_4 < (t222.length : Int) := of_decide_eq_true (by first | (with_reducible assumption) | assumption)
                                                    obtain ⟨ad237, e237, hx237_0⟩ := Kd.at_int (Kd.R_reads' HO_6.out).2.2 x108_4 p237 q237
                                                    obtain rfl : ad229 = ad237 := (by injection e237)
                                                    replace p237 := eq_true p237
                                                    replace q237 := eq_true q237
                                                    have p238 : 0 ≤ (x62_2 : Int) := of_decide_eq_true (by first | (with_reducible assumption) | assumption)
                                                    have q238 : x62_2 < (l1.length : Int) := of_decide_eq_true (by first | (with_reducible assumption) | assumption)
                                                    obtain ⟨ad238, e238, hx238_0⟩ := Kd.at_int HR1.out x62_2 p238 q238
                                                    obtain rfl : ad235 = ad238 := (by injection e238)
                                                    replace hx238_0 := (HB.out.cell (World.block_lt_of_cell? w _ hx238_0)).trans hx238_0
                                                    replace p238 := eq_true p238
                                                    replace q238 := eq_true q238
                                                    have p239 : 0 ≤ (x108_4 : Int) := of_decide_eq_true (by first | (with_reducible assumption) | assumption)
                                                    have q239 : x108_4 < (l1.length : Int) := of_decide_eq_true (by first | (with_reducible assumption) | assumption)
                                                    obtain ⟨ad239, e239, hx239_0⟩ := Kd.at_int HR1.out x108_4 p239 q239
                                                    obtain rfl : ad235 = ad239 := (by injection e239)
                                                    replace hx239_0 := (HB.out.cell (World.block_lt_of_cell? w _ hx239_0)).trans hx239_0
                                                    replace p239 := eq_true p239
                                                    replace q239 := eq_true q239
                                                    go_wp2
                                                    repeat (go_quiet (fail); try go_wp2)
                                                    go_roundg k4
                                                    case measure => have := HJ9.out; have := HK2.out; have := HJ24.out; have := HK4.out; omega
                                                    case rel => exact ⟨(wrap64 (x108_4 + 1)), (by first | rfl | (simp; done) | (simp [*]; done)), H', ⟨by have := HJ9.out; have := HK2.out; have := HJ24.out; have := HK4.out; omega⟩, ⟨by (with_reducible repeat (first | apply Kd.R_alloc | apply Kd.R_drewN | apply Kd.R_drew)); exact HO_6.out⟩, ⟨by (with_reducible repeat (first | apply Kd.R_alloc | apply Kd.R_drewN | apply Kd.R_drew)); exact HO_60.out⟩, ⟨by repeat (first | (with_reducible first | exact HB.out | apply below_alloc | apply pw_below_drewN | apply below_drew1) | exact HB.out)⟩⟩
                                              · rw [if_neg c41] at H
                                                exact absurd H (by simp)
                                            · rw [if_neg c40] at H
                                              have c40b0 : decide ((rd l1 x108_4) ≤ (rd l1 x62_2)) = false := decide_eq_false c40
                                              clear c40
                                              by_cases c45 : (rd l1 x62_2) ≤ (rd l1 x108_4)
                                              · rw [if_pos c45] at H
                                                have c45b0 : decide ((rd l1 x62_2) ≤ (rd l1 x108_4)) = true := decide_eq_true c45
                                                clear c45
                                                by_cases c46 : x108_4 < (t222.length : Int)
                                                · rw [if_pos c46] at H
                                                  have c46b0 : decide (x108_4 < (t222.length : Int)) = true := decide_eq_true c46
                                                  clear c46
                                                  by_cases c47 : (rd t222 x62_2) > (rd t222 x108_4)
                                                  · rw [if_pos c47] at H
                                                    have c47b0 : decide ((rd t222 x108_4) < (rd t222 x62_2)) = true := decide_eq_true c47
                                                    clear c47
                                                    obtain rfl := Option.some.inj H
                                                    have p235 : 0 ≤ (x62_2 : Int) := of_decide_eq_true (by first | (with_reducible assumption) | assumption)
                                                    have q235 : x62_2 < (l1.length : Int) := of_decide_eq_true (by first | (with_reducible assumption) | assumption)
                                                    obtain ⟨ad235, e235, hx235_0⟩ := Kd.at_int HR1.out x62_2 p235 q235
                                                    cases e235
                                                    replace hx235_0 := (HB.out.cell (World.block_lt_of_cell? w _ hx235_0)).trans hx235_0
                                                    replace p235 := eq_true p235
                                                    replace q235 := eq_true q235
                                                    have p236 : 0 ≤ (x108_4 : Int) := of_decide_eq_true (by first | (with_reducible assumption) | assumption)
                                                    have q236 : x108_4 < (l1.length : Int) := of_decide_eq_true (by first | (with_reducible assumption) | assumption)
                                                    obtain ⟨ad236, e236, hx236_0⟩ := Kd.at_int HR1.out x108_4 p236 q236
                                                    obtain rfl : ad235 = ad236 := (by injection e236)
                                                    replace hx236_0 := (HB.out.cell (World.block_lt_of_cell? w _ hx236_0)).trans hx236_0
                                                    replace p236 := eq_true p236
                                                    replace q236 := eq_true q236
                                                    have p241 : 0 ≤ (x62_2 : Int) := of_decide_eq_true (by first | (with_reducible assumption) | assumption)
                                                    have q241 : x62_2 < (l1.length : Int) := of_decide_eq_true (by first | (with_reducible assumption) | assumption)
                                                    obtain ⟨ad241, e241, hx241_0⟩ := Kd.at_int HR1.out x62_2 p241 q241
                                                    obtain rfl : ad235 = ad241 := (by injection e241)
                                                    replace hx241_0 := (HB.out.cell (World.block_lt_of_cell? w _ hx241_0)).trans hx241_0
                                                    replace p241 := eq_true p241
                                                    replace q241 := eq_true q241
                                                    have p242 : 0 ≤ (x108_4 : Int) := of_decide_eq_true (by first | (with_reducible assumption) | assumption)
                                                    have q242 : x108_4 < (l1.length : Int) := of_decide_eq_true (by first | (with_reducible assumption) | assumption)
                                                    obtain ⟨ad242, e242, hx242_0⟩ := Kd.at_int HR1.out x108_4 p242 q242
                                                    obtain rfl : ad235 = ad242 := (by injection e242)
                                                    replace hx242_0 := (HB.out.cell (World.block_lt_of_cell? w _ hx242_0)).trans hx242_0
                                                    replace p242 := eq_true p242
                                                    replace q242 := eq_true q242
                                                    have p243 : 0 ≤ (x108_4 : Int) := of_decide_eq_true (by first | (with_reducible assumption) | assumption)
                                                    have q243 : x108_4 < (t222.length : Int) := of_decide_eq_true (by first | (with_reducible assumption) | assumption)
                                                    obtain ⟨ad243, e243, hx243_0⟩ := Kd.at_int (Kd.R_reads' HO_6.out).2.2 x108_4 p243 q243
                                                    obtain rfl : ad229 = ad243 := (by injection e243)
                                                    replace p243 := eq_true p243
                                                    replace q243 := eq_true q243
                                                    go_wp2
                                                    repeat (go_quiet (fail); try go_wp2)
                                                    go_ret
                                                    exact ⟨by first | rfl | (simp [errW_none, errW_some] <;> rfl) | (simp [*, errW_none, errW_some] <;> rfl), by repeat (first | (with_reducible first | exact HB.out | apply below_alloc | apply pw_below_drewN | apply below_drew1) | exact HB.out)⟩
                                                  · rw [if_neg c47] at H
                                                    have c47b0 : decide ((rd t222 x108_4) < (rd t222 x62_2)) = false := decide_eq_false c47
                                                    clear c47
                                                    have H' := Aside0.mk H
                                                    clear H
                                                    have p235 : 0 ≤ (x62_2 : Int) := of_decide_eq_true (by first | (with_reducible assumption) | assumption)
                                                    have q235 : x62_2 < (l1.length : Int) := of_decide_eq_true (by first | (with_reducible assumption) | assumption)
                                                    obtain ⟨ad235, e235, hx235_0⟩ := Kd.at_int HR1.out x62_2 p235 q235
                                                    cases e235
                                                    replace hx235_0 := (HB.out.cell (World.block_lt_of_cell? w _ hx235_0)).trans hx235_0
                                                    replace p235 := eq_true p235
                                                    replace q235 := eq_true q235
                                                    have p236 : 0 ≤ (x108_4 : Int) := of_decide_eq_true (by first | (with_reducible assumption) | assumption)
                                                    have q236 : x108_4 < (l1.length : Int) := of_decide_eq_true (by first | (with_reducible assumption) | assumption)
                                                    obtain ⟨ad236, e236, hx236_0⟩ := Kd.at_int HR1.out x108_4 p236 q236
                                                    obtain rfl : ad235 = ad236 := (by injection e236)
                                                    replace hx236_0 := (HB.out.cell (World.block_lt_of_cell? w _ hx236_0)).trans hx236_0
                                                    replace p236 := eq_true p236
                                                    replace q236 := eq_true q236
                                                    have p241 : 0 ≤ (x62_2 : Int) := of_decide_eq_true (by first | (with_reducible assumption) | assumption)
                                                    have q241 : x62_2 < (l1.length : Int) := of_decide_eq_true (by first | (with_reducible assumption) | assumption)
                                                    obtain ⟨ad241, e241, hx241_0⟩ := Kd.at_int HR1.out x62_2 p241 q241
                                                    obtain rfl : ad235 = ad241 := (by injection e241)
                                                    replace hx241_0 := (HB.out.cell (World.block_lt_of_cell? w _ hx241_0)).trans hx241_0
                                                    replace p241 := eq_true p241
                                                    replace q241 := eq_true q241
                                                    have p242 : 0 ≤ (x108_4 : Int) := of_decide_eq_true (by first | (with_reducible assumption) | assumption)
                                                    have q242 : x108_4 < (l1.length : Int) := of_decide_eq_true (by first | (with_reducible assumption) | assumption)
                                                    obtain ⟨ad242, e242, hx242_0⟩ := Kd.at_int HR1.out x108_4 p242 q242
                                                    obtain rfl : ad235 = ad242 := (by injection e242)
                                                    replace hx242_0 := (HB.out.cell (World.block_lt_of_cell? w _ hx242_0)).trans hx242_0
                                                    replace p242 := eq_true p242
                                                    replace q242 := eq_true q242
                                                    have p243 : 0 ≤ (x108_4 : Int) := of_decide_eq_true (by first | (with_reducible assumption) | assumption)
                                                    have q243 : x108_4 < (t222.length : Int) := of_decide_eq_true (by first | (with_reducible assumption) | assumption)
                                                    obtain ⟨ad243, e243, hx243_0⟩ := Kd.at_int (Kd.R_reads' HO_6.out).2.2 x108_4 p243 q243
                                                    obtain rfl : ad229 = ad243 := (by injection e243)
                                                    replace p243 := eq_true p243
                                                    replace q243 := eq_true q243
                                                    go_wp2
                                                    repeat (go_quiet (fail); try go_wp2)
                                                    go_roundg k4
                                                    case measure => have := HJ9.out; have := HK2.out; have := HJ24.out; have := HK4.out; omega
                                                    case rel => exact ⟨(wrap64 (x108_4 + 1)), (by first | rfl | (simp; done) | (simp [*]; done)), H', ⟨by have := HJ9.out; have := HK2.out; have := HJ24.out; have := HK4.out; omega⟩, ⟨by (with_reducible repeat (first | apply Kd.R_alloc | apply Kd.R_drewN | apply Kd.R_drew)); exact HO_6.out⟩, ⟨by (with_reducible repeat (first | apply Kd.R_alloc | apply Kd.R_drewN | apply Kd.R_drew)); exact HO_60.out⟩, ⟨by repeat (first | (with_reducible first | exact HB.out | apply below_alloc | apply pw_below_drewN | apply below_drew1) | exact HB.out)⟩⟩
                                                · rw [if_neg c46] at H
                                                  exact absurd H (by simp)
                                              · rw [if_neg c45] at H
                                                have c45b0 : decide ((rd l1 x62_2) ≤ (rd l1 x108_4)) = false := decide_eq_false c45
                                                clear c45
                                                have H' := Aside0.mk H
                                                clear H
                                                have p235 : 0 ≤ (x62_2 : Int) := of_decide_eq_true (by first | (with_reducible assumption) | assumption)
                                                have q235 : x62_2 < (l1.length : Int) := of_decide_eq_true (by first | (with_reducible assumption) | assumption)
                                                obtain ⟨ad235, e235, hx235_0⟩ := Kd.at_int HR1.out x62_2 p235 q235
                                                cases e235
                                                replace hx235_0 := (HB.out.cell (World.block_lt_of_cell? w _ hx235_0)).trans hx235_0
                                                replace p235 := eq_true p235
                                                replace q235 := eq_true q235
                                                have p236 : 0 ≤ (x108_4 : Int) := of_decide_eq_true (by first | (with_reducible assumption) | assumption)
                                                have q236 : x108_4 < (l1.length : Int) := of_decide_eq_true (by first | (with_reducible assumption) | assumption)
                                                obtain ⟨ad236, e236, hx236_0⟩ := Kd.at_int HR1.out x108_4 p236 q236
                                                obtain rfl : ad235 = ad236 := (by injection e236)
                                                replace hx236_0 := (HB.out.cell (World.block_lt_of_cell? w _ hx236_0)).trans hx236_0
                                                replace p236 := eq_true p236
                                                replace q236 := eq_true q236
                                                have p241 : 0 ≤ (x62_2 : Int) := of_decide_eq_true (by first | (with_reducible assumption) | assumption)
                                                have q241 : x62_2 < (l1.length : Int) := of_decide_eq_true (by first | (with_reducible assumption) | assumption)
                                                obtain ⟨ad241, e241, hx241_0⟩ := Kd.at_int HR1.out x62_2 p241 q241
                                                obtain rfl : ad235 = ad241 := (by injection e241)
                                                replace hx241_0 := (HB.out.cell (World.block_lt_of_cell? w _ hx241_0)).trans hx241_0
                                                replace p241 := eq_true p241
                                                replace q241 := eq_true q241
                                                have p242 : 0 ≤ (x108_4 : Int) := of_decide_eq_true (by first | (with_reducible assumption) | assumption)
                                                have q242 : x108_4 < (l1.length : Int) := of_decide_eq_true (by first | (with_reducible assumption) | assumption)
                                                obtain ⟨ad242, e242, hx242_0⟩ := Kd.at_int HR1.out x108_4 p242 q242
                                                obtain rfl : ad235 = ad242 := (by injection e242)
                                                replace hx242_0 := (HB.out.cell (World.block_lt_of_cell? w _ hx242_0)).trans hx242_0
                                                replace p242 := eq_true p242
                                                replace q242 := eq_true q242
                                                go_wp2
                                                repeat (go_quiet (fail); try go_wp2)
                                                go_roundg k4
                                                case measure => have := HJ9.out; have := HK2.out; have := HJ24.out; have := HK4.out; omega
                                                case rel => exact ⟨(wrap64 (x108_4 + 1)), (by first | rfl | (simp; done) | (simp [*]; done)), H', ⟨by have := HJ9.out; have := HK2.out; have := HJ24.out; have := HK4.out; omega⟩, ⟨by (with_reducible repeat (first | apply Kd.R_alloc | apply Kd.R_drewN | apply Kd.R_drew)); exact HO_6.out⟩, ⟨by (with_reducible repeat (first | apply Kd.R_alloc | apply Kd.R_drewN | apply Kd.R_drew)); exact HO_60.out⟩, ⟨by repeat (first | (with_reducible first | exact HB.out | apply below_alloc | apply pw_below_drewN | apply below_drew1) | exact HB.out)⟩⟩
                                          · rw [if_neg c39] at H
                                            exact absurd H (by simp)
                                        · rw [if_neg c38] at H
                                          exact absurd H (by simp)
                                      · rw [if_neg c37] at H
                                        exact absurd H (by simp)
                                    · rw [if_neg c36] at H
                                      exact absurd H (by simp)
                                  · rw [if_neg c35] at H
                                    have c35b0 : decide (x108_4 < x62_2) = false := decide_eq_false c35
                                    clear c35
                                    have H' := Aside0.mk H
                                    clear H
                                    go_wp2
                                    repeat (go_quiet (fail); try go_wp2)
                                    go_roundg k4
                                    case measure => have := HJ9.out; have := HK2.out; have := HJ24.out; have := HK4.out; omega
                                    case rel => exact ⟨((wrap64 (x10_2 + (rd t222 x62_2)))), (wrap64 (x62_2 + 1)), (by first | rfl | (simp; done) | (simp [*]; done)), (by first | rfl | (simp; done) | (simp [*]; done)), H', ⟨by have := HJ9.out; have := HK2.out; have := HJ24.out; have := HK4.out; omega⟩, ⟨by (with_reducible repeat (first | apply Kd.R_alloc | apply Kd.R_drewN | apply Kd.R_drew)); exact HO_6.out⟩, ⟨by (with_reducible repeat (first | apply Kd.R_alloc | apply Kd.R_drewN | apply Kd.R_drew)); exact HO_60.out⟩, ⟨by repeat (first | (with_reducible first | exact HB.out | apply below_alloc | apply pw_below_drewN | apply below_drew1) | exact HB.out)⟩⟩
                      · rw [if_neg c24] at H
                        exact absurd H (by simp)
                    · rw [if_neg c23] at H
                      exact absurd H (by simp)
                  · rw [if_neg c22] at H
                    have c22b0 : decide (x62_2 < (t222.length : Int)) = false := decide_eq_false c22
                    clear c22
                    by_cases c48 : 0 ≤ a0
                    · rw [if_pos c48] at H
                      have c48b0 := eq_true c48
                      have c48b1 : decide (0 ≤ a0) = true := decide_eq_true c48
                      clear c48
                      obtain ⟨ji49, hji49⟩ : ∃ j_ : Int, (shl .i64 1 a0) = j_ := ⟨_, rfl⟩
                      replace H : (if true = true then (if x10_2 ≤ (ji49) then (if (wrap64 ((ji49) - x10_2)) < (l1.length : Int) then (if 0 ≤ t226 then (if t226 < (t222.length : Int) then (if (l1.length : Int) = 0 then (none) else (some (decide ((rd t222 t226) ≥ (wrap64 (Int.tdiv (ji49) (l1.length : Int))))))) else (none)) else (none)) else (some false)) else (some false)) else (some false)) = some r := by first | (rw [hji49] at H; exact H) | (simp only [hji49] at H ⊢; exact H)
                      have hji49_ : (IntKind.i64.wrap (1 * 2 ^ min a0.toNat 64)) = ji49 := hji49
                      have hji49z : a0 ≤ 64 → (IntKind.i64.wrap (1 * 2 ^ a0.toNat)) = ji49 := shl_small hji49
                      have hji49u : (IntKind.i64.wrap (2 ^ min a0.toNat 64)) = ji49 := by have h_ := hji49_; rw [Int.one_mul] at h_; exact h_
                      have hji49v : a0 ≤ 64 → (IntKind.i64.wrap (2 ^ a0.toNat)) = ji49 := fun hle_ => by have h_ := hji49z hle_; rw [Int.one_mul] at h_; exact h_
                      have hji49y : (wrap64 (1 * 2 ^ min a0.toNat 64)) = ji49 := (i64_w _).symm.trans hji49_
                      have hji49x : a0 ≤ 64 → (wrap64 (1 * 2 ^ a0.toNat)) = ji49 := fun h_ => (i64_w _).symm.trans (hji49z h_)
                      rw [if_pos rfl] at H
                      by_cases c50 : x10_2 ≤ (ji49)
                      · rw [if_pos c50] at H
                        have c50b0 : decide (x10_2 ≤ (ji49)) = true := decide_eq_true c50
                        clear c50
                        by_cases c51 : (wrap64 ((ji49) - x10_2)) < (l1.length : Int)
                        · rw [if_pos c51] at H
                          have c51b0 : decide ((wrap64 ((ji49) - x10_2)) < (l1.length : Int)) = true := decide_eq_true c51
                          clear c51
                          by_cases c52 : 0 ≤ t226
                          · rw [if_pos c52] at H
                            have c52b0 : decide (0 ≤ t226) = true := decide_eq_true c52
                            clear c52
                            by_cases c53 : t226 < (t222.length : Int)
                            · rw [if_pos c53] at H
                              have c53b0 : decide (t226 < (t222.length : Int)) = true := decide_eq_true c53
                              clear c53
                              by_cases c54 : (l1.length : Int) = 0
                              · rw [if_pos c54] at H
                                exact absurd H (by simp)
                              · rw [if_neg c54] at H
                                have c54b0 : ((l1.length : Int) == 0) = false := beq_eq_false_iff_ne.mpr c54
                                have c54b1 : ((l1.length : Int) != 0) = true := bne_iff_ne.mpr c54
                                have c54b2 : ¬ (l1 = []) := fun h_ => c54 (by rw [h_]; rfl)
                                obtain rfl := Option.some.inj H
                                have p228 : 0 ≤ (t226 : Int) := of_decide_eq_true (by first | (with_reducible assumption) | assumption)
                                have q228 : t226 < (t222.length : Int) := of_decide_eq_true (by first | (with_reducible assumption) | assumption)
                                obtain ⟨ad228, e228, hx228_0⟩ := Kd.at_int (Kd.R_reads' HO_6.out).2.2 t226 p228 q228
                                cases e228
                                replace p228 := eq_true p228
                                replace q228 := eq_true q228
                                go_wp2
                                repeat (go_quiet (fail); try go_wp2)
                                go_ret
                                exact ⟨by first | rfl | (simp [errW_none, errW_some] <;> rfl) | (simp only [← hji49]; first | rfl | (simp [errW_none, errW_some] <;> rfl)) | (simp [*, errW_none, errW_some] <;> rfl), by repeat (first | (with_reducible first | exact HB.out | apply below_alloc | apply pw_below_drewN | apply below_drew1) | exact HB.out)⟩
                            · rw [if_neg c53] at H
                              exact absurd H (by simp)
                          · rw [if_neg c52] at H
                            exact absurd H (by simp)
                        · rw [if_neg c51] at H
                          have c51b0 : decide ((wrap64 ((ji49) - x10_2)) < (l1.length : Int)) = false := decide_eq_false c51
                          clear c51
                          obtain rfl := Option.some.inj H
                          go_wp2
                          repeat (go_quiet (fail); try go_wp2)
                          go_ret
                          exact ⟨by first | rfl | (simp [errW_none, errW_some] <;> rfl) | (simp only [← hji49]; first | rfl | (simp [errW_none, errW_some] <;> rfl)) | (simp [*, errW_none, errW_some] <;> rfl), by repeat (first | (with_reducible first | exact HB.out | apply below_alloc | apply pw_below_drewN | apply below_drew1) | exact HB.out)⟩
                      · rw [if_neg c50] at H
                        have c50b0 : decide (x10_2 ≤ (ji49)) = false := decide_eq_false c50
                        clear c50
                        obtain rfl := Option.some.inj H
                        go_wp2
                        repeat (go_quiet (fail); try go_wp2)
                        go_ret
                        exact ⟨by first | rfl | (simp [errW_none, errW_some] <;> rfl) | (simp only [← hji49]; first | rfl | (simp [errW_none, errW_some] <;> rfl)) | (simp [*, errW_none, errW_some] <;> rfl), by repeat (first | (with_reducible first | exact HB.out | apply below_alloc | apply pw_below_drewN | apply below_drew1) | exact HB.out)⟩
                    · rw [if_neg c48] at H
                      exact absurd H (by simp)
      · rw [if_neg c8] at H
        have c8b0 : (t223 == 0) = false := beq_eq_false_iff_ne.mpr c8
        have c8b1 : (t223 != 0) = true := bne_iff_ne.mpr c8
        obtain rfl := Option.some.inj H
        go_enter Try.func7, Try.ntmps7
        go_wp2_with (first | (go_at_call 48; (with_reducible refine (thrumlaw13_live.calls  true _ A3.out).mono ?_); rintro e w55 ⟨rfl, hb⟩; have n0_ := Aside0.mk (below_step (by repeat (first | (with_reducible first | exact HB.out | apply below_alloc | apply pw_below_drewN | apply below_drew1) | exact HB.out)) hb); clear HB; have HB := n0_; clear n0_; (try clear hb); (try clear hb2); (try clear hk); (try clear hi)) | (go_at_call 49; (with_reducible refine (thrumlaw13_few.calls _ _ l1 true _ ?side1 ?side2 A5.out).mono ?_); (case side1 => repeat (first | exact (Kd.C_below HR1.out HB.out) | (with_reducible refine Kd.C_alloc ?_ _) | (with_reducible refine Kd.C_drewN ?_ _) | (with_reducible refine Kd.C_drew ?_))); (case side2 => exact HC1.out); rintro e w' ⟨rfl, ⟨nd, rfl⟩⟩; (try first | exact ⟨rfl, _, World.drewN_drewN _ _ _⟩ | exact ⟨rfl, _, Eq.trans (World.drewN_drewN _ _ _) (congrArg (World.drewN _) (Nat.add_assoc _ _ _))⟩)) | (go_at_call 50; (with_reducible refine (table_Soft.calls a0 _ _ l1 t222 t223 _ ?side1 ?side2 A7.out).mono ?_); (case side1 => repeat (first | exact (Kd.C_below HR1.out (by repeat (first | (with_reducible first | exact HB.out | apply below_alloc | apply pw_below_drewN | apply below_drew1) | exact HB.out))) | (with_reducible refine Kd.C_alloc ?_ _) | (with_reducible refine Kd.C_drewN ?_ _) | (with_reducible refine Kd.C_drew ?_))); (case side2 => exact HC1.out); rintro e w56 ⟨v224, rfl, ho0, hb⟩; have n0_ := Aside0.mk (Kd.R_lower ho0 (below_size (by repeat (first | (with_reducible first | exact HB.out | apply below_alloc | apply pw_below_drewN | apply below_drew1) | exact HB.out)))); have n1_ := Aside0.mk (below_step (by repeat (first | (with_reducible first | exact HB.out | apply below_alloc | apply pw_below_drewN | apply below_drew1) | exact HB.out)) hb); clear HB; have HO225 := n0_; have HB := n1_; clear n0_ n1_; (try clear hb); (try clear hb2); (try clear hk); (try clear hi); (try clear ho0); obtain ⟨Ao57, co57, eo57⟩ := Kd.R_slice HO225.out; subst eo57))
        repeat (go_quiet (first | (go_at_call 48; (with_reducible refine (thrumlaw13_live.calls  true _ A3.out).mono ?_); rintro e w55 ⟨rfl, hb⟩; have n0_ := Aside0.mk (below_step (by repeat (first | (with_reducible first | exact HB.out | apply below_alloc | apply pw_below_drewN | apply below_drew1) | exact HB.out)) hb); clear HB; have HB := n0_; clear n0_; (try clear hb); (try clear hb2); (try clear hk); (try clear hi)) | (go_at_call 49; (with_reducible refine (thrumlaw13_few.calls _ _ l1 true _ ?side1 ?side2 A5.out).mono ?_); (case side1 => repeat (first | exact (Kd.C_below HR1.out HB.out) | (with_reducible refine Kd.C_alloc ?_ _) | (with_reducible refine Kd.C_drewN ?_ _) | (with_reducible refine Kd.C_drew ?_))); (case side2 => exact HC1.out); rintro e w' ⟨rfl, ⟨nd, rfl⟩⟩; (try first | exact ⟨rfl, _, World.drewN_drewN _ _ _⟩ | exact ⟨rfl, _, Eq.trans (World.drewN_drewN _ _ _) (congrArg (World.drewN _) (Nat.add_assoc _ _ _))⟩)) | (go_at_call 50; (with_reducible refine (table_Soft.calls a0 _ _ l1 t222 t223 _ ?side1 ?side2 A7.out).mono ?_); (case side1 => repeat (first | exact (Kd.C_below HR1.out (by repeat (first | (with_reducible first | exact HB.out | apply below_alloc | apply pw_below_drewN | apply below_drew1) | exact HB.out))) | (with_reducible refine Kd.C_alloc ?_ _) | (with_reducible refine Kd.C_drewN ?_ _) | (with_reducible refine Kd.C_drew ?_))); (case side2 => exact HC1.out); rintro e w56 ⟨v224, rfl, ho0, hb⟩; have n0_ := Aside0.mk (Kd.R_lower ho0 (below_size (by repeat (first | (with_reducible first | exact HB.out | apply below_alloc | apply pw_below_drewN | apply below_drew1) | exact HB.out)))); have n1_ := Aside0.mk (below_step (by repeat (first | (with_reducible first | exact HB.out | apply below_alloc | apply pw_below_drewN | apply below_drew1) | exact HB.out)) hb); clear HB; have HO225 := n0_; have HB := n1_; clear n0_ n1_; (try clear hb); (try clear hb2); (try clear hk); (try clear hi); (try clear ho0); obtain ⟨Ao57, co57, eo57⟩ := Kd.R_slice HO225.out; subst eo57)); try go_wp2_with (first | (go_at_call 48; (with_reducible refine (thrumlaw13_live.calls  true _ A3.out).mono ?_); rintro e w55 ⟨rfl, hb⟩; have n0_ := Aside0.mk (below_step (by repeat (first | (with_reducible first | exact HB.out | apply below_alloc | apply pw_below_drewN | apply below_drew1) | exact HB.out)) hb); clear HB; have HB := n0_; clear n0_; (try clear hb); (try clear hb2); (try clear hk); (try clear hi)) | (go_at_call 49; (with_reducible refine (thrumlaw13_few.calls _ _ l1 true _ ?side1 ?side2 A5.out).mono ?_); (case side1 => repeat (first | exact (Kd.C_below HR1.out HB.out) | (with_reducible refine Kd.C_alloc ?_ _) | (with_reducible refine Kd.C_drewN ?_ _) | (with_reducible refine Kd.C_drew ?_))); (case side2 => exact HC1.out); rintro e w' ⟨rfl, ⟨nd, rfl⟩⟩; (try first | exact ⟨rfl, _, World.drewN_drewN _ _ _⟩ | exact ⟨rfl, _, Eq.trans (World.drewN_drewN _ _ _) (congrArg (World.drewN _) (Nat.add_assoc _ _ _))⟩)) | (go_at_call 50; (with_reducible refine (table_Soft.calls a0 _ _ l1 t222 t223 _ ?side1 ?side2 A7.out).mono ?_); (case side1 => repeat (first | exact (Kd.C_below HR1.out (by repeat (first | (with_reducible first | exact HB.out | apply below_alloc | apply pw_below_drewN | apply below_drew1) | exact HB.out))) | (with_reducible refine Kd.C_alloc ?_ _) | (with_reducible refine Kd.C_drewN ?_ _) | (with_reducible refine Kd.C_drew ?_))); (case side2 => exact HC1.out); rintro e w56 ⟨v224, rfl, ho0, hb⟩; have n0_ := Aside0.mk (Kd.R_lower ho0 (below_size (by repeat (first | (with_reducible first | exact HB.out | apply below_alloc | apply pw_below_drewN | apply below_drew1) | exact HB.out)))); have n1_ := Aside0.mk (below_step (by repeat (first | (with_reducible first | exact HB.out | apply below_alloc | apply pw_below_drewN | apply below_drew1) | exact HB.out)) hb); clear HB; have HO225 := n0_; have HB := n1_; clear n0_ n1_; (try clear hb); (try clear hb2); (try clear hk); (try clear hi); (try clear ho0); obtain ⟨Ao57, co57, eo57⟩ := Kd.R_slice HO225.out; subst eo57)))
        go_ret
        exact ⟨by first | rfl | (simp [errW_none, errW_some] <;> rfl) | (simp [*, errW_none, errW_some] <;> rfl), by repeat (first | (with_reducible first | exact HB.out | apply below_alloc | apply pw_below_drewN | apply below_drew1) | exact HB.out)⟩
    · replace c6 := Bool.eq_false_iff.mpr c6
      subst c6
      have H1 : (some true) = some r := by rw [if_neg (show ¬ (false = true) by decide)] at H; exact H
      clear H
      have H := H1
      clear H1
      obtain rfl := Option.some.inj H
      go_enter Try.func7, Try.ntmps7
      go_wp2_with (first | (go_at_call 48; (with_reducible refine (thrumlaw13_live.calls  true _ A3.out).mono ?_); rintro e w58 ⟨rfl, hb⟩; have n0_ := Aside0.mk (below_step (by repeat (first | (with_reducible first | exact HB.out | apply below_alloc | apply pw_below_drewN | apply below_drew1) | exact HB.out)) hb); clear HB; have HB := n0_; clear n0_; (try clear hb); (try clear hb2); (try clear hk); (try clear hi)) | (go_at_call 49; (with_reducible refine (thrumlaw13_few.calls _ _ l1 false _ ?side1 ?side2 A5.out).mono ?_); (case side1 => repeat (first | exact (Kd.C_below HR1.out HB.out) | (with_reducible refine Kd.C_alloc ?_ _) | (with_reducible refine Kd.C_drewN ?_ _) | (with_reducible refine Kd.C_drew ?_))); (case side2 => exact HC1.out); rintro e w' ⟨rfl, ⟨nd, rfl⟩⟩; (try first | exact ⟨rfl, _, World.drewN_drewN _ _ _⟩ | exact ⟨rfl, _, Eq.trans (World.drewN_drewN _ _ _) (congrArg (World.drewN _) (Nat.add_assoc _ _ _))⟩)))
      repeat (go_quiet (first | (go_at_call 48; (with_reducible refine (thrumlaw13_live.calls  true _ A3.out).mono ?_); rintro e w58 ⟨rfl, hb⟩; have n0_ := Aside0.mk (below_step (by repeat (first | (with_reducible first | exact HB.out | apply below_alloc | apply pw_below_drewN | apply below_drew1) | exact HB.out)) hb); clear HB; have HB := n0_; clear n0_; (try clear hb); (try clear hb2); (try clear hk); (try clear hi)) | (go_at_call 49; (with_reducible refine (thrumlaw13_few.calls _ _ l1 false _ ?side1 ?side2 A5.out).mono ?_); (case side1 => repeat (first | exact (Kd.C_below HR1.out HB.out) | (with_reducible refine Kd.C_alloc ?_ _) | (with_reducible refine Kd.C_drewN ?_ _) | (with_reducible refine Kd.C_drew ?_))); (case side2 => exact HC1.out); rintro e w' ⟨rfl, ⟨nd, rfl⟩⟩; (try first | exact ⟨rfl, _, World.drewN_drewN _ _ _⟩ | exact ⟨rfl, _, Eq.trans (World.drewN_drewN _ _ _) (congrArg (World.drewN _) (Nat.add_assoc _ _ _))⟩))); try go_wp2_with (first | (go_at_call 48; (with_reducible refine (thrumlaw13_live.calls  true _ A3.out).mono ?_); rintro e w58 ⟨rfl, hb⟩; have n0_ := Aside0.mk (below_step (by repeat (first | (with_reducible first | exact HB.out | apply below_alloc | apply pw_below_drewN | apply below_drew1) | exact HB.out)) hb); clear HB; have HB := n0_; clear n0_; (try clear hb); (try clear hb2); (try clear hk); (try clear hi)) | (go_at_call 49; (with_reducible refine (thrumlaw13_few.calls _ _ l1 false _ ?side1 ?side2 A5.out).mono ?_); (case side1 => repeat (first | exact (Kd.C_below HR1.out HB.out) | (with_reducible refine Kd.C_alloc ?_ _) | (with_reducible refine Kd.C_drewN ?_ _) | (with_reducible refine Kd.C_drew ?_))); (case side2 => exact HC1.out); rintro e w' ⟨rfl, ⟨nd, rfl⟩⟩; (try first | exact ⟨rfl, _, World.drewN_drewN _ _ _⟩ | exact ⟨rfl, _, Eq.trans (World.drewN_drewN _ _ _) (congrArg (World.drewN _) (Nat.add_assoc _ _ _))⟩))))
      go_ret
      exact ⟨by first | rfl | (simp [errW_none, errW_some] <;> rfl) | (simp [*, errW_none, errW_some] <;> rfl), by repeat (first | (with_reducible first | exact HB.out | apply below_alloc | apply pw_below_drewN | apply below_drew1) | exact HB.out)⟩
  · replace c4 := Bool.eq_false_iff.mpr c4
    subst c4
    have H1 : (some false) = some r := by rw [if_neg (show ¬ (false = true) by decide)] at H; exact H
    clear H
    have H := H1
    clear H1
    obtain rfl := Option.some.inj H
    go_enter Try.func7, Try.ntmps7
    go_wp2_with (first | (go_at_call 48; (with_reducible refine (thrumlaw13_live.calls  false _ A3.out).mono ?_); rintro e w59 ⟨rfl, hb⟩; have n0_ := Aside0.mk (below_step (by repeat (first | (with_reducible first | exact HB.out | apply below_alloc | apply pw_below_drewN | apply below_drew1) | exact HB.out)) hb); clear HB; have HB := n0_; clear n0_; (try clear hb); (try clear hb2); (try clear hk); (try clear hi)))
    repeat (go_quiet (first | (go_at_call 48; (with_reducible refine (thrumlaw13_live.calls  false _ A3.out).mono ?_); rintro e w59 ⟨rfl, hb⟩; have n0_ := Aside0.mk (below_step (by repeat (first | (with_reducible first | exact HB.out | apply below_alloc | apply pw_below_drewN | apply below_drew1) | exact HB.out)) hb); clear HB; have HB := n0_; clear n0_; (try clear hb); (try clear hb2); (try clear hk); (try clear hi))); try go_wp2_with (first | (go_at_call 48; (with_reducible refine (thrumlaw13_live.calls  false _ A3.out).mono ?_); rintro e w59 ⟨rfl, hb⟩; have n0_ := Aside0.mk (below_step (by repeat (first | (with_reducible first | exact HB.out | apply below_alloc | apply pw_below_drewN | apply below_drew1) | exact HB.out)) hb); clear HB; have HB := n0_; clear n0_; (try clear hb); (try clear hb2); (try clear hk); (try clear hi))))
    go_ret
    exact ⟨by first | rfl | (simp [errW_none, errW_some] <;> rfl) | (simp [*, errW_none, errW_some] <;> rfl), by repeat (first | (with_reducible first | exact HB.out | apply below_alloc | apply pw_below_drewN | apply below_drew1) | exact HB.out)⟩

/-- THE ONE PURE STATEMENT of thrumlaw13_TableWhole: yours. -/
def thrumlaw13_TableWhole.Pure : Prop := ∀ (a0 : Int) (l1 : List Int), (Lit.int .i64 a0).wf = true → l1.length ≤ maxLen → l1.length * 8 ≤ 140737488351232 → (∀ x ∈ l1, (Lit.int .i64 x).wf = true) → ∃ k, thrumlaw13_TableWhole.f k a0 l1 = some true
theorem thrumlaw13_TableWhole.walk (P : thrumlaw13_TableWhole.Pure) (a0 : Int) (a1 : Option Addr) (len1 cap1 : Nat) (z1 : List Int) (w : World) (w0 : (Lit.int .i64 a0).wf = true) (w1 : (a1 = none ∧ len1 = 0 ∧ cap1 = 0 ∧ z1 = []) ∨ ∃ x, a1 = some x ∧ len1 ≤ cap1 ∧ cap1 ≤ maxLen ∧ z1.length = cap1 ∧ (∀ i, i < z1.length → w.cell? (x.add i) = some (.int .i64 (z1.getD i 0))) ∧ ∀ n ∈ z1, (Lit.int .i64 n).wf = true) (y1 : len1 * 8 ≤ 140737488351232) :
    Calls Try.prog 7 #[.int .i64 a0, .slice a1 len1 cap1] w fun e w' => e = .returned (.bool true) ∧ Below w.heap.size w w' := by
  obtain ⟨l1, rfl, hr1, hm1, hw1, hc1⟩ := ReadsInt.ofRowC w1
  obtain ⟨k, h⟩ := P a0 l1 w0 hm1 y1 hw1
  refine (thrumlaw13_TableWhole.calls k a0 _ _ l1 true w (Kd.C_of_reads (d := (0 : Int)) (h1 := fun _ => rfl) hr1) hc1 h).mono ?_
  rintro e w' ⟨rfl, hd⟩
  exact ⟨rfl, hd⟩





























































































































































































































































































































































































































































































































































































































































































































































































































































































end Go.Proofs.Ytfbdalnjijdknaa.HT
