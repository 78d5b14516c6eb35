/- What Go functions do, each as a plain Lean function with the same answers, and the proof of it, in every world: printed by the session's driver over the kit's print, with texts by hand. -/
import Derived.Test.YtfbdalnjijdknaaHSx0
import Derived.Test.YtfbdalnjijdknaaHSx1
import Derived.Test.YtfbdalnjijdknaaHSx10
import Derived.Test.YtfbdalnjijdknaaHSx16
import Derived.Test.YtfbdalnjijdknaaHSx19
namespace Go.Proofs.Ytfbdalnjijdknaa.HS
open Go.RowKit Go.Proofs.YtfbdalnjijdknaaW.PrintWords Go.Proofs.YtfbdalnjijdknaaW.PrintLast Go.Proofs.YtfbdalnjijdknaaW.PrintMore
attribute [local go_sem] max2_int min2_int max_two min_two max_three min_three max_four min_four   -- for this text's walks alone
open Go.Proofs.Ytfbdalnjijdknaa.Sp
attribute [local go_sem] Go.Proofs.Ytfbdalnjijdknaa.Sp.u64_not
set_option linter.unusedVariables false
set_option linter.unusedSimpArgs false

/-! ### thrumlaw15_SoftClass: function 25 -/
mutual
def thrumlaw15_SoftClass.j0 : Nat → Int → List Int → List Int → Int → Int → Bool → List Int → Int → Int → Int → Bool → Option (Bool)
 | 0, _, _, _, _, _, _, _, _, _, _, _ => none
 | k + 1, x0, x1, x2, x3, x4, x11, x12, x13, x14, x15, x58 => if x58 = true then (if x11 = true then (if x15 = 0 then (some true) else (some (x13 == x15))) else (some false)) else (if (x12.length : Int) = x0 then (if x14 < 0 then (thrumlaw15_SoftClass.j1 k x0 x1 x2 x3 x4 x11 x12 x14 true) else (thrumlaw15_SoftClass.j1 k x0 x1 x2 x3 x4 x11 x12 x14 (decide (x14 ≥ x0)))) else (thrumlaw15_SoftClass.j1 k x0 x1 x2 x3 x4 x11 x12 x14 true))
def thrumlaw15_SoftClass.j1 : Nat → Int → List Int → List Int → Int → Int → Bool → List Int → Int → Bool → Option (Bool)
 | 0, _, _, _, _, _, _, _, _, _ => none
 | k + 1, x0, x1, x2, x3, x4, x11, x12, x14, x81 => if x81 = true then (some false) else (thrumlaw15_SoftClass.l0 k x0 x1 x2 x3 x4 x11 x12 x14 x12 (x12.length : Int) 0)
def thrumlaw15_SoftClass.l0 : Nat → Int → List Int → List Int → Int → Int → Bool → List Int → Int → List Int → Int → Int → Option (Bool)
 | 0, _, _, _, _, _, _, _, _, _, _, _ => none
 | k + 1, x0, x1, x2, x3, x4, x11, x12, x14, x82, x83, x84 => if x84 < x83 then (if 0 ≤ x84 then (if x84 < (x82.length : Int) then (if 0 ≤ x14 then (if x14 < (x12.length : Int) then (if (rd x82 x84) > (rd x12 x14) then (some false) else (if (rd x82 x84) < 0 then (some false) else (if x84 ≥ x0 then (some false) else (thrumlaw15_SoftClass.l0 k x0 x1 x2 x3 x4 x11 x12 x14 x82 x83 (wrap64 (x84 + 1)))))) else (none)) else (none)) else (none)) else (none)) else (if ([] : List Int).length + x1.length < 17592186044416 then (thrumlaw15_SoftClass.l1 k x0 x1 x2 x3 (Int.tmod x4 1099511627776) x11 x12 x14 (([] : List Int) ++ x1) (x2.length : Int)) else (none))
def thrumlaw15_SoftClass.l1 : Nat → Int → List Int → List Int → Int → Int → Bool → List Int → Int → List Int → Int → Option (Bool)
 | 0, _, _, _, _, _, _, _, _, _, _ => none
 | k + 1, x0, x1, x2, x3, x4, x11, x12, x14, x18, x19 => if x19 < (x18.length : Int) then (if 0 ≤ x19 then (if (rd x18 x19) > 1099511627776 then (some x11) else (if (rd x18 x19) < (-1099511627776) then (some x11) else (thrumlaw15_SoftClass.l1 k x0 x1 x2 x3 x4 x11 x12 x14 (x18.set (x19 : Int).toNat (wrap64 ((rd x18 x19) + x4))) (wrap64 (x19 + (wrap64 ((x2.length : Int) + 1))))))) else (none)) else (thrumlaw15_SoftClass.l2 k x0 x1 x2 x3 x11 x12 x14 x18 (x1.length : Int) 0)
def thrumlaw15_SoftClass.l2 : Nat → Int → List Int → List Int → Int → Bool → List Int → Int → List Int → Int → Int → Option (Bool)
 | 0, _, _, _, _, _, _, _, _, _, _ => none
 | k + 1, x0, x1, x2, x3, x11, x12, x14, x18, x141, x142 => if x142 < x141 then (if 0 ≤ x142 then (if x142 < (x1.length : Int) then (if (rd x1 x142) > 1099511627776 then (some x11) else (if (rd x1 x142) < (-1099511627776) then (some x11) else (thrumlaw15_SoftClass.l2 k x0 x1 x2 x3 x11 x12 x14 x18 x141 (wrap64 (x142 + 1))))) else (none)) else (none)) else (thrumlaw15_SoftClass.l3 k x0 x2 x3 x11 x12 x14 x18 x2 (x2.length : Int) 0)
def thrumlaw15_SoftClass.l3 : Nat → Int → List Int → Int → Bool → List Int → Int → List Int → List Int → Int → Int → Option (Bool)
 | 0, _, _, _, _, _, _, _, _, _, _ => none
 | k + 1, x0, x2, x3, x11, x12, x14, x18, x159, x160, x161 => if x161 < x160 then (if 0 ≤ x161 then (if x161 < (x159.length : Int) then (if (rd x159 x161) > 32768 then (some x11) else (if (rd x159 x161) < (-32768) then (some x11) else (thrumlaw15_SoftClass.l3 k x0 x2 x3 x11 x12 x14 x18 x159 x160 (wrap64 (x161 + 1))))) else (none)) else (none)) else ((soft_Tell.f x0 x18 x2 x3).bind fun bt309 => ((soft_Class.f x0 x18 x2 x3).bind fun bt313 => (if x11 = true then (if bt309.2 = 0 then (if bt313.2 = 0 then ((thrumref02_Same.f x12 bt309.1).bind fun t315 => (if t315 = true then (some (x14 == bt313.1)) else (some false))) else (some false)) else (some false)) else (some false))))
end
def thrumlaw15_SoftClass.f (k : Nat) (a0 : Int) (l1 : List Int) (l2 : List Int) (a3 : Int) (a4 : Int) : Option (Bool) := (thrumlaw15_live.f).bind fun t286 => (if t286 = true then ((thrumref14_Few.f l1 (([(⟨l2, 0⟩ : S26)] : List (S26)))).bind fun t290 => (if t290 = true then ((soft_Tell.f a0 l1 l2 a3).bind fun bt291 => ((soft_Class.f a0 l1 l2 a3).bind fun bt295 => (if bt291.2 = 0 then (thrumlaw15_SoftClass.j0 k a0 l1 l2 a3 a4 t286 bt291.1 bt291.2 bt295.1 bt295.2 (bt295.2 != 0)) else (thrumlaw15_SoftClass.j0 k a0 l1 l2 a3 a4 t286 bt291.1 bt291.2 bt295.1 bt295.2 true)))) else (some t286))) else (some false))
theorem thrumlaw15_SoftClass.mono_l : ∀ k, (∀ y0 y1 y2 y3 y4 y5 y6 y7 y8 y9 y10, LeO (thrumlaw15_SoftClass.j0 k y0 y1 y2 y3 y4 y5 y6 y7 y8 y9 y10) (thrumlaw15_SoftClass.j0 (k + 1) y0 y1 y2 y3 y4 y5 y6 y7 y8 y9 y10)) ∧ (∀ y0 y1 y2 y3 y4 y5 y6 y7 y8, LeO (thrumlaw15_SoftClass.j1 k y0 y1 y2 y3 y4 y5 y6 y7 y8) (thrumlaw15_SoftClass.j1 (k + 1) y0 y1 y2 y3 y4 y5 y6 y7 y8)) ∧ (∀ y0 y1 y2 y3 y4 y5 y6 y7 y8 y9 y10, LeO (thrumlaw15_SoftClass.l0 k y0 y1 y2 y3 y4 y5 y6 y7 y8 y9 y10) (thrumlaw15_SoftClass.l0 (k + 1) y0 y1 y2 y3 y4 y5 y6 y7 y8 y9 y10)) ∧ (∀ y0 y1 y2 y3 y4 y5 y6 y7 y8 y9, LeO (thrumlaw15_SoftClass.l1 k y0 y1 y2 y3 y4 y5 y6 y7 y8 y9) (thrumlaw15_SoftClass.l1 (k + 1) y0 y1 y2 y3 y4 y5 y6 y7 y8 y9)) ∧ (∀ y0 y1 y2 y3 y4 y5 y6 y7 y8 y9, LeO (thrumlaw15_SoftClass.l2 k y0 y1 y2 y3 y4 y5 y6 y7 y8 y9) (thrumlaw15_SoftClass.l2 (k + 1) y0 y1 y2 y3 y4 y5 y6 y7 y8 y9)) ∧ (∀ y0 y1 y2 y3 y4 y5 y6 y7 y8 y9, LeO (thrumlaw15_SoftClass.l3 k y0 y1 y2 y3 y4 y5 y6 y7 y8 y9) (thrumlaw15_SoftClass.l3 (k + 1) y0 y1 y2 y3 y4 y5 y6 y7 y8 y9))
 | 0 => ⟨fun _ _ _ _ _ _ _ _ _ _ _ r h => by simp [thrumlaw15_SoftClass.j0] at h, fun _ _ _ _ _ _ _ _ _ r h => by simp [thrumlaw15_SoftClass.j1] at h, fun _ _ _ _ _ _ _ _ _ _ _ r h => by simp [thrumlaw15_SoftClass.l0] at h, fun _ _ _ _ _ _ _ _ _ _ r h => by simp [thrumlaw15_SoftClass.l1] at h, fun _ _ _ _ _ _ _ _ _ _ r h => by simp [thrumlaw15_SoftClass.l2] at h, fun _ _ _ _ _ _ _ _ _ _ r h => by simp [thrumlaw15_SoftClass.l3] at h⟩
 | k + 1 => by
  obtain ⟨ih0, ih1, ih2, ih3, ih4, ih5⟩ := thrumlaw15_SoftClass.mono_l k
  refine ⟨?_, ?_, ?_, ?_, ?_, ?_⟩
  ·
   intro y0 y1 y2 y3 y4 y5 y6 y7 y8 y9 y10
   unfold thrumlaw15_SoftClass.j0
   repeat' first
   | (with_reducible exact ih0 _ _ _ _ _ _ _ _ _ _ _)
   | (with_reducible exact ih1 _ _ _ _ _ _ _ _ _)
   | (with_reducible exact ih2 _ _ _ _ _ _ _ _ _ _ _)
   | (with_reducible exact ih3 _ _ _ _ _ _ _ _ _ _)
   | (with_reducible exact ih4 _ _ _ _ _ _ _ _ _ _)
   | (with_reducible exact ih5 _ _ _ _ _ _ _ _ _ _)
   | (with_reducible exact LeO.refl _)
   | (with_reducible exact LeO.none _)
   | (with_reducible refine LeO.ite ?_ ?_)
   | (with_reducible refine LeO.bind ?_ (fun _ => ?_))
   | exact ih0 _ _ _ _ _ _ _ _ _ _ _
   | exact ih1 _ _ _ _ _ _ _ _ _
   | exact ih2 _ _ _ _ _ _ _ _ _ _ _
   | exact ih3 _ _ _ _ _ _ _ _ _ _
   | exact ih4 _ _ _ _ _ _ _ _ _ _
   | exact ih5 _ _ _ _ _ _ _ _ _ _
   | exact LeO.none _
   | refine LeO.ite ?_ ?_
   | refine LeO.bind ?_ (fun _ => ?_)
  ·
   intro y0 y1 y2 y3 y4 y5 y6 y7 y8
   unfold thrumlaw15_SoftClass.j1
   repeat' first
   | (with_reducible exact ih0 _ _ _ _ _ _ _ _ _ _ _)
   | (with_reducible exact ih1 _ _ _ _ _ _ _ _ _)
   | (with_reducible exact ih2 _ _ _ _ _ _ _ _ _ _ _)
   | (with_reducible exact ih3 _ _ _ _ _ _ _ _ _ _)
   | (with_reducible exact ih4 _ _ _ _ _ _ _ _ _ _)
   | (with_reducible exact ih5 _ _ _ _ _ _ _ _ _ _)
   | (with_reducible exact LeO.refl _)
   | (with_reducible exact LeO.none _)
   | (with_reducible refine LeO.ite ?_ ?_)
   | (with_reducible refine LeO.bind ?_ (fun _ => ?_))
   | exact ih0 _ _ _ _ _ _ _ _ _ _ _
   | exact ih1 _ _ _ _ _ _ _ _ _
   | exact ih2 _ _ _ _ _ _ _ _ _ _ _
   | exact ih3 _ _ _ _ _ _ _ _ _ _
   | exact ih4 _ _ _ _ _ _ _ _ _ _
   | exact ih5 _ _ _ _ _ _ _ _ _ _
   | exact LeO.none _
   | refine LeO.ite ?_ ?_
   | refine LeO.bind ?_ (fun _ => ?_)
  ·
   intro y0 y1 y2 y3 y4 y5 y6 y7 y8 y9 y10
   unfold thrumlaw15_SoftClass.l0
   repeat' first
   | (with_reducible exact ih0 _ _ _ _ _ _ _ _ _ _ _)
   | (with_reducible exact ih1 _ _ _ _ _ _ _ _ _)
   | (with_reducible exact ih2 _ _ _ _ _ _ _ _ _ _ _)
   | (with_reducible exact ih3 _ _ _ _ _ _ _ _ _ _)
   | (with_reducible exact ih4 _ _ _ _ _ _ _ _ _ _)
   | (with_reducible exact ih5 _ _ _ _ _ _ _ _ _ _)
   | (with_reducible exact LeO.refl _)
   | (with_reducible exact LeO.none _)
   | (with_reducible refine LeO.ite ?_ ?_)
   | (with_reducible refine LeO.bind ?_ (fun _ => ?_))
   | exact ih0 _ _ _ _ _ _ _ _ _ _ _
   | exact ih1 _ _ _ _ _ _ _ _ _
   | exact ih2 _ _ _ _ _ _ _ _ _ _ _
   | exact ih3 _ _ _ _ _ _ _ _ _ _
   | exact ih4 _ _ _ _ _ _ _ _ _ _
   | exact ih5 _ _ _ _ _ _ _ _ _ _
   | exact LeO.none _
   | refine LeO.ite ?_ ?_
   | refine LeO.bind ?_ (fun _ => ?_)
  ·
   intro y0 y1 y2 y3 y4 y5 y6 y7 y8 y9
   unfold thrumlaw15_SoftClass.l1
   repeat' first
   | (with_reducible exact ih0 _ _ _ _ _ _ _ _ _ _ _)
   | (with_reducible exact ih1 _ _ _ _ _ _ _ _ _)
   | (with_reducible exact ih2 _ _ _ _ _ _ _ _ _ _ _)
   | (with_reducible exact ih3 _ _ _ _ _ _ _ _ _ _)
   | (with_reducible exact ih4 _ _ _ _ _ _ _ _ _ _)
   | (with_reducible exact ih5 _ _ _ _ _ _ _ _ _ _)
   | (with_reducible exact LeO.refl _)
   | (with_reducible exact LeO.none _)
   | (with_reducible refine LeO.ite ?_ ?_)
   | (with_reducible refine LeO.bind ?_ (fun _ => ?_))
   | exact ih0 _ _ _ _ _ _ _ _ _ _ _
   | exact ih1 _ _ _ _ _ _ _ _ _
   | exact ih2 _ _ _ _ _ _ _ _ _ _ _
   | exact ih3 _ _ _ _ _ _ _ _ _ _
   | exact ih4 _ _ _ _ _ _ _ _ _ _
   | exact ih5 _ _ _ _ _ _ _ _ _ _
   | exact LeO.none _
   | refine LeO.ite ?_ ?_
   | refine LeO.bind ?_ (fun _ => ?_)
  ·
   intro y0 y1 y2 y3 y4 y5 y6 y7 y8 y9
   unfold thrumlaw15_SoftClass.l2
   repeat' first
   | (with_reducible exact ih0 _ _ _ _ _ _ _ _ _ _ _)
   | (with_reducible exact ih1 _ _ _ _ _ _ _ _ _)
   | (with_reducible exact ih2 _ _ _ _ _ _ _ _ _ _ _)
   | (with_reducible exact ih3 _ _ _ _ _ _ _ _ _ _)
   | (with_reducible exact ih4 _ _ _ _ _ _ _ _ _ _)
   | (with_reducible exact ih5 _ _ _ _ _ _ _ _ _ _)
   | (with_reducible exact LeO.refl _)
   | (with_reducible exact LeO.none _)
   | (with_reducible refine LeO.ite ?_ ?_)
   | (with_reducible refine LeO.bind ?_ (fun _ => ?_))
   | exact ih0 _ _ _ _ _ _ _ _ _ _ _
   | exact ih1 _ _ _ _ _ _ _ _ _
   | exact ih2 _ _ _ _ _ _ _ _ _ _ _
   | exact ih3 _ _ _ _ _ _ _ _ _ _
   | exact ih4 _ _ _ _ _ _ _ _ _ _
   | exact ih5 _ _ _ _ _ _ _ _ _ _
   | exact LeO.none _
   | refine LeO.ite ?_ ?_
   | refine LeO.bind ?_ (fun _ => ?_)
  ·
   intro y0 y1 y2 y3 y4 y5 y6 y7 y8 y9
   unfold thrumlaw15_SoftClass.l3
   repeat' first
   | (with_reducible exact ih0 _ _ _ _ _ _ _ _ _ _ _)
   | (with_reducible exact ih1 _ _ _ _ _ _ _ _ _)
   | (with_reducible exact ih2 _ _ _ _ _ _ _ _ _ _ _)
   | (with_reducible exact ih3 _ _ _ _ _ _ _ _ _ _)
   | (with_reducible exact ih4 _ _ _ _ _ _ _ _ _ _)
   | (with_reducible exact ih5 _ _ _ _ _ _ _ _ _ _)
   | (with_reducible exact LeO.refl _)
   | (with_reducible exact LeO.none _)
   | (with_reducible refine LeO.ite ?_ ?_)
   | (with_reducible refine LeO.bind ?_ (fun _ => ?_))
   | exact ih0 _ _ _ _ _ _ _ _ _ _ _
   | exact ih1 _ _ _ _ _ _ _ _ _
   | exact ih2 _ _ _ _ _ _ _ _ _ _ _
   | exact ih3 _ _ _ _ _ _ _ _ _ _
   | exact ih4 _ _ _ _ _ _ _ _ _ _
   | exact ih5 _ _ _ _ _ _ _ _ _ _
   | exact LeO.none _
   | refine LeO.ite ?_ ?_
   | refine LeO.bind ?_ (fun _ => ?_)
theorem thrumlaw15_SoftClass.mono : ∀ a0 a1 a2 a3 a4 k, LeO (thrumlaw15_SoftClass.f k a0 a1 a2 a3 a4) (thrumlaw15_SoftClass.f (k + 1) a0 a1 a2 a3 a4) := by
 intro a0 a1 a2 a3 a4 k
 obtain ⟨ih0, ih1, ih2, ih3, ih4, ih5⟩ := thrumlaw15_SoftClass.mono_l k
 unfold thrumlaw15_SoftClass.f
 repeat' first
   | (with_reducible exact ih0 _ _ _ _ _ _ _ _ _ _ _)
   | (with_reducible exact ih1 _ _ _ _ _ _ _ _ _)
   | (with_reducible exact ih2 _ _ _ _ _ _ _ _ _ _ _)
   | (with_reducible exact ih3 _ _ _ _ _ _ _ _ _ _)
   | (with_reducible exact ih4 _ _ _ _ _ _ _ _ _ _)
   | (with_reducible exact ih5 _ _ _ _ _ _ _ _ _ _)
   | (with_reducible exact LeO.refl _)
   | (with_reducible exact LeO.none _)
   | (with_reducible refine LeO.ite ?_ ?_)
   | (with_reducible refine LeO.bind ?_ (fun _ => ?_))
   | exact ih0 _ _ _ _ _ _ _ _ _ _ _
   | exact ih1 _ _ _ _ _ _ _ _ _
   | exact ih2 _ _ _ _ _ _ _ _ _ _ _
   | exact ih3 _ _ _ _ _ _ _ _ _ _
   | exact ih4 _ _ _ _ _ _ _ _ _ _
   | exact ih5 _ _ _ _ _ _ _ _ _ _
   | exact LeO.none _
   | refine LeO.ite ?_ ?_
   | refine LeO.bind ?_ (fun _ => ?_)
theorem thrumlaw15_SoftClass.j1_not {k : Nat} {y0} {y1} {y2} {y3} {y4} {y5} {y6} {y7} (h : thrumlaw15_SoftClass.j1 k y0 y1 y2 y3 y4 y5 y6 y7 true = some true) : False := by cases k <;> simp [thrumlaw15_SoftClass.j1] at h
set_option maxHeartbeats 80000000 in
set_option maxRecDepth 100000 in
theorem thrumlaw15_SoftClass.calls (k : Nat) (a0 : Int) (A1 : Option Addr) (c1 : Nat) (l1 : List Int) (P2_ : Nat → Prop) (A2 : Option Addr) (c2 : Nat) (l2 : List Int) (a3 : Int) (a4 : Int) (r : Bool) (w : World) (hr1 : Kd.C (Kd.int .i64) w A1 l1.length l1) (hc1 : l1.length ≤ c1) (hs2 : Kd.V (Kd.int .i64) 2 w w.heap.size (fun k_ => P2_ k_) (.slice A2 l2.length c2) l2) (h : thrumlaw15_SoftClass.f k a0 l1 l2 a3 a4 = some r) (hr_ : r = true) :
  Calls Try.prog 25 #[.int .i64 a0, .slice A1 l1.length c1, .slice A2 l2.length c2, .int .i64 a3, .int .i64 a4] w fun e w' => e = .returned (.bool r) ∧ Below w.heap.size w w' := by
 have HR_ := Aside0.mk hr_
 clear hr_
 have hu26 := Try.underlying26
 have HR1 := Aside0.mk hr1
 have HC1 := Aside0.mk hc1
 clear hr1 hc1
 have HO2 := Aside0.mk (show Kd.V (Kd.int .i64) 2 w w.heap.size (fun k_ => (P2_ k_ ∨ w.heap.size ≤ k_)) (.slice A2 l2.length c2) l2 from Kd.V_mono hs2 (fun k_ hk => .inl hk))
 have HB := Aside0.mk (Below.refl w.heap.size w)
 have H : ((thrumlaw15_live.f).bind fun t286 => (if t286 = true then ((thrumref14_Few.f l1 (([(⟨l2, 0⟩ : S26)] : List (S26)))).bind fun t290 => (if t290 = true then ((soft_Tell.f a0 l1 l2 a3).bind fun bt291 => ((soft_Class.f a0 l1 l2 a3).bind fun bt295 => (if bt291.2 = 0 then (thrumlaw15_SoftClass.j0 k a0 l1 l2 a3 a4 t286 bt291.1 bt291.2 bt295.1 bt295.2 (bt295.2 != 0)) else (thrumlaw15_SoftClass.j0 k a0 l1 l2 a3 a4 t286 bt291.1 bt291.2 bt295.1 bt295.2 true)))) else (some t286))) else (some false))) = some r := h
 clear h
 replace H := Option.bind_eq_some_iff.mp H
 obtain ⟨t286, A60, H⟩ := H
 replace H : (if t286 = true then ((thrumref14_Few.f l1 (([(⟨l2, 0⟩ : S26)] : List (S26)))).bind fun t290 => (if t290 = true then ((soft_Tell.f a0 l1 l2 a3).bind fun bt291 => ((soft_Class.f a0 l1 l2 a3).bind fun bt295 => (if bt291.2 = 0 then (thrumlaw15_SoftClass.j0 k a0 l1 l2 a3 a4 t286 bt291.1 bt291.2 bt295.1 bt295.2 (bt295.2 != 0)) else (thrumlaw15_SoftClass.j0 k a0 l1 l2 a3 a4 t286 bt291.1 bt291.2 bt295.1 bt295.2 true)))) else (some t286))) else (some false)) = some r := H
 have A6 := Aside0.mk A60
 clear A60
 by_cases c7 : t286 = true
 ·
  subst c7
  have H1 : ((thrumref14_Few.f l1 (([(⟨l2, 0⟩ : S26)] : List (S26)))).bind fun t290 => (if t290 = true then ((soft_Tell.f a0 l1 l2 a3).bind fun bt291 => ((soft_Class.f a0 l1 l2 a3).bind fun bt295 => (if bt291.2 = 0 then (thrumlaw15_SoftClass.j0 k a0 l1 l2 a3 a4 true bt291.1 bt291.2 bt295.1 bt295.2 (bt295.2 != 0)) else (thrumlaw15_SoftClass.j0 k a0 l1 l2 a3 a4 true bt291.1 bt291.2 bt295.1 bt295.2 true)))) else (some true))) = some r := by rw [if_pos rfl] at H; exact H
  clear H
  have H := H1
  clear H1
  obtain ⟨y287, hy287⟩ : ∃ y_ : List (S26), y_ = (([(⟨l2, 0⟩ : S26)] : List (S26))) := ⟨_, rfl⟩
  replace H : ((thrumref14_Few.f l1 y287).bind fun t290 => (if t290 = true then ((soft_Tell.f a0 l1 l2 a3).bind fun bt291 => ((soft_Class.f a0 l1 l2 a3).bind fun bt295 => (if bt291.2 = 0 then (thrumlaw15_SoftClass.j0 k a0 l1 l2 a3 a4 true bt291.1 bt291.2 bt295.1 bt295.2 (bt295.2 != 0)) else (thrumlaw15_SoftClass.j0 k a0 l1 l2 a3 a4 true bt291.1 bt291.2 bt295.1 bt295.2 true)))) else (some true))) = some r := by first | (rw [hy287]; with_reducible exact H) | (have H2_ := (Option.bind_some _ _).symm.trans H; rw [hy287]; with_reducible exact H2_) | (have H2_ := (Option.bind_some _ _).symm.trans H; with_reducible exact H2_) | with_reducible exact H | (rw [hy287]; exact H) | exact H
  have Ny287 := Aside0.mk hy287
  clear hy287
  replace H := Option.bind_eq_some_iff.mp H
  obtain ⟨t290, A80, H⟩ := H
  replace H : (if t290 = true then ((soft_Tell.f a0 l1 l2 a3).bind fun bt291 => ((soft_Class.f a0 l1 l2 a3).bind fun bt295 => (if bt291.2 = 0 then (thrumlaw15_SoftClass.j0 k a0 l1 l2 a3 a4 true bt291.1 bt291.2 bt295.1 bt295.2 (bt295.2 != 0)) else (thrumlaw15_SoftClass.j0 k a0 l1 l2 a3 a4 true bt291.1 bt291.2 bt295.1 bt295.2 true)))) else (some true)) = some r := H
  have A8 := Aside0.mk A80
  clear A80
  by_cases c9 : t290 = true
  ·
   subst c9
   have H1 : ((soft_Tell.f a0 l1 l2 a3).bind fun bt291 => ((soft_Class.f a0 l1 l2 a3).bind fun bt295 => (if bt291.2 = 0 then (thrumlaw15_SoftClass.j0 k a0 l1 l2 a3 a4 true bt291.1 bt291.2 bt295.1 bt295.2 (bt295.2 != 0)) else (thrumlaw15_SoftClass.j0 k a0 l1 l2 a3 a4 true bt291.1 bt291.2 bt295.1 bt295.2 true)))) = some r := by rw [if_pos rfl] at H; exact H
   clear H
   have H := H1
   clear H1
   replace H := Option.bind_eq_some_iff.mp H
   obtain ⟨⟨t291, t292⟩, A100, H⟩ := H
   replace H : ((soft_Class.f a0 l1 l2 a3).bind fun bt295 => (if t292 = 0 then (thrumlaw15_SoftClass.j0 k a0 l1 l2 a3 a4 true t291 t292 bt295.1 bt295.2 (bt295.2 != 0)) else (thrumlaw15_SoftClass.j0 k a0 l1 l2 a3 a4 true t291 t292 bt295.1 bt295.2 true))) = some r := H
   have A10 := Aside0.mk A100
   clear A100
   replace H := Option.bind_eq_some_iff.mp H
   obtain ⟨⟨t295, t296⟩, A110, H⟩ := H
   replace H : (if t292 = 0 then (thrumlaw15_SoftClass.j0 k a0 l1 l2 a3 a4 true t291 t292 t295 t296 (t296 != 0)) else (thrumlaw15_SoftClass.j0 k a0 l1 l2 a3 a4 true t291 t292 t295 t296 true)) = some r := H
   have A11 := Aside0.mk A110
   clear A110
   have HC12 := Aside0.mk H
   clear H
   go_enter Try.func25, Try.ntmps25
   go_upto_region 8 with (first | ((with_reducible refine gate_callee (f := 79) rfl ?_); refine goesL_ (some 27) rfl rfl Try.func79 (by kernel_rfl) rfl #[] rfl (by (try simp only [List.map_toArray, List.map_cons, List.map_nil]); first | done | rfl | (simp only [List.length_drop, List.length_take]; rfl)) ?_; (with_reducible refine (thrumlaw15_live.calls  true _ A6.out).mono ?_); rintro e w13 ⟨rfl, hb⟩; refine ⟨_, rfl, ?_⟩; have n0_ := Aside0.mk (Kd.V_below (by (with_reducible repeat (first | apply Kd.V_alloc | apply Kd.V_drewN | apply Kd.V_drew)); exact HO2.out) hb); have n1_ := Aside0.mk (zzT (by repeat (first | (with_reducible first | exact HB.out | apply zzA | apply zzN | apply zzD) | exact HB.out)) hb); clear HO2; clear HB; have HO2 := n0_; have HB := n1_; clear n0_ n1_; (try clear hb); (try clear hb2); (try clear hk); (try clear hi)) | ((with_reducible refine gate_dst (N := 33) rfl ?_); refine Kd.N_lit k26 _ 26 ?hg (N' := 33) ?hd (xs := ([(⟨l2, 0⟩ : S26)] : List (S26))) (inner := [.slice A2 l2.length c2, .int .i64 0]) (ok := (fun k_ => (P2_ k_ ∨ w.heap.size ≤ k_))) (okp := (fun k_ => (P2_ k_ ∨ w.heap.size ≤ k_))) ?hr ?hp (fun _ hk => hk) ((show ∀ k_, w13.heap.size ≤ k_ → (fun k_ => (P2_ k_ ∨ w.heap.size ≤ k_)) k_ from fun k_ hk => (.inr (Nat.le_trans (zzS (by repeat (first | (with_reducible first | exact HB.out | apply zzA | apply zzN | apply zzD) | exact HB.out))) hk))) _ (Nat.le_refl _)) (Below.refl _ _) (Nat.le_refl _) (by simp) ?_; (case hd => rfl); (case hg => rfl); (case hr => first | (go_simp; done) | (go_simp; rfl)); (case hp => exact (Reps.c2 (show Kd.FK k26 _ _ (⟨l2, 0⟩ : S26) [.slice A2 l2.length c2, .int .i64 0] from (k26_mkF _ _ (⟨l2, 0⟩ : S26) (Kd.V_reads' (Kd.V_mono (ok' := (fun k_ => (P2_ k_ ∨ w.heap.size ≤ k_))) (HO2.out) (fun k_ hk => hk))).2.1 (Kd.V_F (Kd.V_mono (ok' := (fun k_ => (P2_ k_ ∨ w.heap.size ≤ k_))) (HO2.out) (fun k_ hk => hk))))) (Reps.none _ _))); intro v288 w14 ho15 hb hg_ hnew_; clear hg_ hnew_; (first | rw [← Ny287.out] at ho15 | (simp only [Int.reduceToNat] at ho15; rw [← Ny287.out] at ho15)); have n0_ := Aside0.mk (Kd.V_elder' (by (with_reducible repeat (first | apply Kd.V_alloc | apply Kd.V_drewN | apply Kd.V_drew)); exact HO2.out) (Kd.N_base ho15) hb); have n1_ := Aside0.mk (Kd.N_lower ho15 (zzS (by repeat (first | (with_reducible first | exact HB.out | apply zzA | apply zzN | apply zzD) | exact HB.out)))); have n2_ := Aside0.mk (zzT (by repeat (first | (with_reducible first | exact HB.out | apply zzA | apply zzN | apply zzD) | exact HB.out)) hb); clear HO2; clear HB; have HO2 := n0_; have HO289 := n1_; have HB := n2_; clear n0_ n1_ n2_; clear hb ho15; obtain ⟨Ao16, co16, eo16⟩ := Kd.N_slice HO289.out; subst eo16) | ((with_reducible refine gate_callee (f := 30) rfl ?_); refine goesL_ (some 34) rfl rfl Try.func30 (by kernel_rfl) rfl #[.slice A1 l1.length c1, .slice Ao16 y287.length co16] rfl (by (try simp only [List.map_toArray, List.map_cons, List.map_nil]); first | done | rfl | (simp only [List.length_drop, List.length_take]; rfl)) ?_; (with_reducible refine (thrumref14_Few.calls _ _ l1 _ _ y287 true _ ?side1 ?side2 ?side3 ?side4 A8.out).mono ?_); (case side1 => repeat (first | exact (Kd.C_below HR1.out HB.out) | (with_reducible refine ccA ?_ _) | (with_reducible refine ccN ?_ _) | (with_reducible refine ccD ?_))); (case side2 => exact HC1.out); (case side3 => repeat (first | exact (Kd.N_reads' HO289.out).2.2 | (with_reducible refine ccA ?_ _) | (with_reducible refine ccN ?_ _) | (with_reducible refine ccD ?_))); (case side4 => exact (Kd.N_reads' HO289.out).2.1); rintro e w17 ⟨rfl, hb⟩; refine ⟨_, rfl, ?_⟩; have n0_ := Aside0.mk (Kd.V_below (by (with_reducible repeat (first | apply Kd.V_alloc | apply Kd.V_drewN | apply Kd.V_drew)); exact HO2.out) hb); have n1_ := Aside0.mk (Kd.N_below (by (with_reducible repeat (first | apply Kd.N_alloc | apply Kd.N_drewN | apply Kd.N_drew)); exact HO289.out) hb); have n2_ := Aside0.mk (zzT (by repeat (first | (with_reducible first | exact HB.out | apply zzA | apply zzN | apply zzD) | exact HB.out)) hb); clear HO2; clear HO289; clear HB; have HO2 := n0_; have HO289 := n1_; have HB := n2_; clear n0_ n1_ n2_; (try clear hb); (try clear hb2); (try clear hk); (try clear hi)) | ((with_reducible refine gate_callee (f := 83) rfl ?_); refine goesL_ (some 42) rfl rfl Try.func83 (by kernel_rfl) rfl #[.int .i64 a0, .slice A1 l1.length c1, .slice A2 l2.length c2, .int .i64 a3] rfl (by (try simp only [List.map_toArray, List.map_cons, List.map_nil]); first | done | rfl | (simp only [List.length_drop, List.length_take]; rfl)) ?_; (with_reducible refine (soft_Tell.calls a0 _ _ l1 _ _ l2 a3 t291 t292 _ ?side1 ?side2 ?side3 ?side4 A10.out).mono ?_); (case side1 => repeat (first | exact (Kd.C_below HR1.out HB.out) | (with_reducible refine ccA ?_ _) | (with_reducible refine ccN ?_ _) | (with_reducible refine ccD ?_))); (case side2 => exact HC1.out); (case side3 => repeat (first | exact (Kd.V_reads' HO2.out).2.2 | (with_reducible refine ccA ?_ _) | (with_reducible refine ccN ?_ _) | (with_reducible refine ccD ?_))); (case side4 => exact (Kd.V_reads' HO2.out).2.1); rintro e w18 ⟨v293, rfl, ho0, hb⟩; refine ⟨_, rfl, ?_⟩; have n0_ := Aside0.mk (Kd.V_elder' (by (with_reducible repeat (first | apply Kd.V_alloc | apply Kd.V_drewN | apply Kd.V_drew)); exact HO2.out) (Kd.R_base ho0) hb); have n1_ := Aside0.mk (Kd.N_elder' (by (with_reducible repeat (first | apply Kd.N_alloc | apply Kd.N_drewN | apply Kd.N_drew)); exact HO289.out) (Kd.R_base ho0) hb); have n2_ := Aside0.mk (Kd.R_lower (Kd.R_newM (M := fun k_ => (w.heap.size ≤ k_)) ho0 (zzS (by repeat (first | (with_reducible first | exact HB.out | apply zzA | apply zzN | apply zzD) | exact HB.out))) (fun k_ h_ => h_)) (zzS (by repeat (first | (with_reducible first | exact HB.out | apply zzA | apply zzN | apply zzD) | exact HB.out)))); have n3_ := Aside0.mk (zzT (by repeat (first | (with_reducible first | exact HB.out | apply zzA | apply zzN | apply zzD) | exact HB.out)) hb); clear HO2; clear HO289; clear HB; have HO2 := n0_; have HO289 := n1_; have HO294 := n2_; have HB := n3_; clear n0_ n1_ n2_ n3_; (try clear hb); (try clear hb2); (try clear hk); (try clear hi); (try clear ho0)) | ((with_reducible refine gate_callee (f := 85) rfl ?_); refine goesL_ (some 50) rfl rfl Try.func85 (by kernel_rfl) rfl #[.int .i64 a0, .slice A1 l1.length c1, .slice A2 l2.length c2, .int .i64 a3] rfl (by (try simp only [List.map_toArray, List.map_cons, List.map_nil]); first | done | rfl | (simp only [List.length_drop, List.length_take]; rfl)) ?_; (with_reducible refine (soft_Class.calls a0 _ _ l1 _ _ l2 a3 t295 t296 _ ?side1 ?side2 ?side3 ?side4 A11.out).mono ?_); (case side1 => repeat (first | exact (Kd.C_below HR1.out HB.out) | (with_reducible refine ccA ?_ _) | (with_reducible refine ccN ?_ _) | (with_reducible refine ccD ?_))); (case side2 => exact HC1.out); (case side3 => repeat (first | exact (Kd.V_reads' HO2.out).2.2 | (with_reducible refine ccA ?_ _) | (with_reducible refine ccN ?_ _) | (with_reducible refine ccD ?_))); (case side4 => exact (Kd.V_reads' HO2.out).2.1); rintro e w19 ⟨rfl, hb⟩; refine ⟨_, rfl, ?_⟩; have n0_ := Aside0.mk (Kd.V_below (by (with_reducible repeat (first | apply Kd.V_alloc | apply Kd.V_drewN | apply Kd.V_drew)); exact HO2.out) hb); have n1_ := Aside0.mk (Kd.N_below (by (with_reducible repeat (first | apply Kd.N_alloc | apply Kd.N_drewN | apply Kd.N_drew)); exact HO289.out) hb); have n2_ := Aside0.mk (Kd.R_below (by (with_reducible repeat (first | apply rrA | apply rrN | apply rrD)); exact HO294.out) hb); have n3_ := Aside0.mk (zzT (by repeat (first | (with_reducible first | exact HB.out | apply zzA | apply zzN | apply zzD) | exact HB.out)) hb); clear HO2; clear HO289; clear HO294; clear HB; have HO2 := n0_; have HO289 := n1_; have HO294 := n2_; have HB := n3_; clear n0_ n1_ n2_ n3_; (try clear hb); (try clear hb2); (try clear hk); (try clear hi)))
   (try simp only [Act.put, List.setIfInBounds_toArray, List.set_cons_zero, List.set_cons_succ])
   go_cut [58] (fun v58 wc => ∃ (kq : Nat) (x58_11 : Bool), v58 = .bool x58_11 ∧ Aside0 (thrumlaw15_SoftClass.j0 kq a0 l1 l2 a3 a4 true t291 t292 t295 t296 x58_11 = some r) ∧ Aside0 (kq ≤ k) ∧ Aside0 (Kd.V (Kd.int .i64) 2 wc w.heap.size (fun k_ => (P2_ k_ ∨ w.heap.size ≤ k_) ∧ some k_ ≠ (v293 : Value).ownBlock) (.slice A2 l2.length c2) l2) ∧ Aside0 (Kd.R (Kd.int .i64) 2 wc w.heap.size (fun k_ => (w.heap.size ≤ k_)) v293 t291) ∧ Aside0 (Below w.heap.size w wc))
   case first =>
    have H := HC12.out
    clear HC12
    by_cases c20 : t292 = 0
    ·
     rw [if_pos c20] at H
     have c20b0 : (t292 == 0) = true := beq_iff_eq.mpr c20
     have c20b1 : (t292 != 0) = false := bne_eq_false_iff_eq.mpr c20
     clear c20
     (first | rw [c20b0] | (simp only [i64_w, i32_w]; rw [c20b0]) | skip)
     have H' := Aside0.mk H
     clear H
     go_wp2
     go_meet
     case rel => exact ⟨_, ((t296 != 0)), (by first | rfl | (simp; done) | (simp [*]; done)), H', ⟨by first | omega | exact Nat.le_refl _⟩, ⟨by (with_reducible repeat (first | apply Kd.V_alloc | apply Kd.V_drewN | apply Kd.V_drew)); exact Kd.V_mono HO2.out (fun _ hk => ⟨hk.1.1, hk.2⟩)⟩, ⟨by (with_reducible repeat (first | apply rrA | apply rrN | apply rrD)); exact Kd.R_mono HO294.out (fun _ hk => hk.1)⟩, ⟨by repeat (first | (with_reducible first | exact HB.out | apply zzA | apply zzN | apply zzD) | exact HB.out)⟩⟩
    ·
     rw [if_neg c20] at H
     have c20b0 : (t292 == 0) = false := beq_eq_false_iff_ne.mpr c20
     have c20b1 : (t292 != 0) = true := bne_iff_ne.mpr c20
     (first | rw [c20b0] | (simp only [i64_w, i32_w]; rw [c20b0]) | skip)
     have H' := Aside0.mk H
     clear H
     go_wp2
     go_meet
     case rel => exact ⟨_, (true), (by first | rfl | (simp; done) | (simp [*]; done)), H', ⟨by first | omega | exact Nat.le_refl _⟩, ⟨by (with_reducible repeat (first | apply Kd.V_alloc | apply Kd.V_drewN | apply Kd.V_drew)); exact Kd.V_mono HO2.out (fun _ hk => ⟨hk.1.1, hk.2⟩)⟩, ⟨by (with_reducible repeat (first | apply rrA | apply rrN | apply rrD)); exact Kd.R_mono HO294.out (fun _ hk => hk.1)⟩, ⟨by repeat (first | (with_reducible first | exact HB.out | apply zzA | apply zzN | apply zzD) | exact HB.out)⟩⟩
   case rest =>
    clear HC12
    try clear c1
    try clear c2
    try clear p2
    try clear c3
    try clear c7
    try clear c8
    try clear c9
    try clear c20
    try clear c20b0
    try clear c20b1
    obtain ⟨kq, x58_11, rfl, HA, HJ11, HO_2, HO_12, HB⟩ := hcut
    cases kq with
    | zero => exact absurd HA.out (by simp [thrumlaw15_SoftClass.j0])
    | succ kj11 =>
     have H := HA.out
     clear HA
     simp only [thrumlaw15_SoftClass.j0] at H
     by_cases c21 : x58_11 = true
     ·
      subst c21
      have H1 : (if true = true then (if t296 = 0 then (some true) else (some (t292 == t296))) else (some false)) = some r := by rw [if_pos rfl] at H; exact H
      clear H
      have H := H1
      clear H1
      first | rw [if_pos rfl] at H | rw [if_pos trivial] at H
      by_cases c22 : t296 = 0
      ·
       rw [if_pos c22] at H
       have c22b0 : (t296 == 0) = true := beq_iff_eq.mpr c22
       have c22b1 : (t296 != 0) = false := bne_eq_false_iff_eq.mpr c22
       clear c22
       obtain rfl := Option.some.inj H
       go_wp2
       go_ret
       exact ⟨by first | rfl | (simp [errW_none, errW_some] <;> rfl) | (simp [*, errW_none, errW_some] <;> rfl), by repeat (first | (with_reducible first | exact HB.out | apply zzA | apply zzN | apply zzD) | exact HB.out)⟩
      ·
       rw [if_neg c22] at H
       have c22b0 : (t296 == 0) = false := beq_eq_false_iff_ne.mpr c22
       have c22b1 : (t296 != 0) = true := bne_iff_ne.mpr c22
       obtain rfl := Option.some.inj H
       go_wp2
       go_ret
       exact ⟨by first | rfl | (simp [errW_none, errW_some] <;> rfl) | (simp [*, errW_none, errW_some] <;> rfl), by repeat (first | (with_reducible first | exact HB.out | apply zzA | apply zzN | apply zzD) | exact HB.out)⟩
     ·
      replace c21 := Bool.eq_false_iff.mpr c21
      subst c21
      have H1 : (if (t291.length : Int) = a0 then (if t295 < 0 then (thrumlaw15_SoftClass.j1 kj11 a0 l1 l2 a3 a4 true t291 t295 true) else (thrumlaw15_SoftClass.j1 kj11 a0 l1 l2 a3 a4 true t291 t295 (decide (t295 ≥ a0)))) else (thrumlaw15_SoftClass.j1 kj11 a0 l1 l2 a3 a4 true t291 t295 true)) = some r := by rw [if_neg (show ¬ (false = true) by decide)] at H; exact H
      clear H
      have H := H1
      clear H1
      have HC23 := Aside0.mk H
      clear H
      go_upto_region 10 with (fail)
      go_cut [81] (fun v81 wc => ∃ (kq : Nat) (x81_22 : Bool), v81 = .bool x81_22 ∧ Aside0 (thrumlaw15_SoftClass.j1 kq a0 l1 l2 a3 a4 true t291 t295 x81_22 = some r) ∧ Aside0 (kq ≤ kj11) ∧ Aside0 (Kd.V (Kd.int .i64) 2 wc w.heap.size (fun k_ => (P2_ k_ ∨ w.heap.size ≤ k_) ∧ some k_ ≠ (v293 : Value).ownBlock) (.slice A2 l2.length c2) l2) ∧ Aside0 (Kd.R (Kd.int .i64) 2 wc w.heap.size (fun k_ => (w.heap.size ≤ k_)) v293 t291) ∧ Aside0 (Below w.heap.size w wc))
      case first =>
       have H := HC23.out
       clear HC23
       by_cases c24 : (t291.length : Int) = a0
       ·
        rw [if_pos c24] at H
        have c24b0 : ((t291.length : Int) == a0) = true := beq_iff_eq.mpr c24
        have c24b1 : ((t291.length : Int) != a0) = false := bne_eq_false_iff_eq.mpr c24
        clear c24
        (first | rw [c24b0] | (simp only [i64_w, i32_w]; rw [c24b0]) | skip)
        by_cases c25 : t295 < 0
        ·
         rw [if_pos c25] at H
         exact (thrumlaw15_SoftClass.j1_not (H.trans (by rw [HR_.out]))).elim
        ·
         rw [if_neg c25] at H
         have c25b0 : decide (t295 < 0) = false := decide_eq_false c25
         clear c25
         have H' := Aside0.mk H
         clear H
         obtain ⟨Ao27, co27, eo27⟩ := Kd.R_slice HO_12.out
         subst eo27
         go_wp2
         go_meet
         case rel => exact ⟨_, (decide (t295 ≥ a0)), (by first | rfl | (simp; done) | (simp [*]; done)), H', ⟨by have := HJ11.out; first | omega | exact Nat.le_refl _⟩, ⟨by (with_reducible repeat (first | apply Kd.V_alloc | apply Kd.V_drewN | apply Kd.V_drew)); exact HO_2.out⟩, ⟨by (with_reducible repeat (first | apply rrA | apply rrN | apply rrD)); exact HO_12.out⟩, ⟨by repeat (first | (with_reducible first | exact HB.out | apply zzA | apply zzN | apply zzD) | exact HB.out)⟩⟩
       ·
        rw [if_neg c24] at H
        exact (thrumlaw15_SoftClass.j1_not (H.trans (by rw [HR_.out]))).elim
      case rest =>
       clear HC23
       try clear c1
       try clear c2
       try clear p2
       try clear c3
       try clear c7
       try clear c8
       try clear c9
       try clear c20
       try clear c20b0
       try clear c20b1
       try clear c21
       try clear c22
       try clear c22b0
       try clear c22b1
       try clear c24
       try clear c24b0
       try clear c24b1
       try clear c25
       try clear c25b0
       try clear p2
       obtain ⟨kq, x81_22, rfl, HA, HJ22, HO_2, HO_12, HB⟩ := hcut
       cases kq with
       | zero => exact absurd HA.out (by simp [thrumlaw15_SoftClass.j1])
       | succ kj22 =>
        have H := HA.out
        clear HA
        simp only [thrumlaw15_SoftClass.j1] at H
        by_cases c29 : x81_22 = true
        ·
         subst c29
         have H1 : (some false) = some r := by rw [if_pos rfl] at H; exact H
         exact absurd (Option.some.inj H1) (by rw [HR_.out]; decide)
        ·
         replace c29 := Bool.eq_false_iff.mpr c29
         subst c29
         have H1 : (thrumlaw15_SoftClass.l0 kj22 a0 l1 l2 a3 a4 true t291 t295 t291 (t291.length : Int) 0) = some r := by rw [if_neg (show ¬ (false = true) by decide)] at H; exact H
         clear H
         have H := H1
         clear H1
         have H' := Aside0.mk H
         clear H
         obtain ⟨Ao30, co30, eo30⟩ := Kd.R_slice HO_12.out
         subst eo30
         go_wp2
         go_loopg [84] kj22 (fun kq v84 w' => ∃ (x84_3 : Int), v84 = .int .i64 x84_3 ∧ Aside0 (thrumlaw15_SoftClass.l0 kq a0 l1 l2 a3 a4 true t291 t295 t291 (t291.length : Int) x84_3 = some r) ∧ Aside0 (kq ≤ kj22) ∧ Aside0 (Kd.V (Kd.int .i64) 2 w' w.heap.size (fun k_ => (P2_ k_ ∨ w.heap.size ≤ k_) ∧ some k_ ≠ ((.slice Ao30 t291.length co30) : Value).ownBlock ∧ some k_ ≠ ((.slice Ao30 t291.length co30) : Value).ownBlock) (.slice A2 l2.length c2) l2) ∧ Aside0 (Kd.R (Kd.int .i64) 2 w' w.heap.size (fun k_ => (w.heap.size ≤ k_)) (.slice Ao30 t291.length co30) t291) ∧ Aside0 (Kd.R (Kd.int .i64) 2 w' w.heap.size (fun k_ => (w.heap.size ≤ k_)) (.slice Ao30 t291.length co30) t291) ∧ Aside0 (Below w.heap.size w w'))
         case atStart => exact ⟨(0), (by first | rfl | (simp; done) | (simp [*]; done)), H', ⟨Nat.le_refl _⟩, ⟨by (with_reducible repeat (first | apply Kd.V_alloc | apply Kd.V_drewN | apply Kd.V_drew)); exact Kd.V_mono HO_2.out (fun _ hk => ⟨hk.1, ⟨hk.2, hk.2⟩⟩)⟩, ⟨by (with_reducible repeat (first | apply rrA | apply rrN | apply rrD)); exact HO_12.out⟩, ⟨by (with_reducible repeat (first | apply rrA | apply rrN | apply rrD)); exact HO_12.out⟩, ⟨by repeat (first | (with_reducible first | exact HB.out | apply zzA | apply zzN | apply zzD) | exact HB.out)⟩⟩
         case round =>
          clear H'
          try clear c1
          try clear c2
          try clear p2
          try clear c3
          try clear c7
          try clear c8
          try clear c9
          try clear c20
          try clear c20b0
          try clear c20b1
          try clear c21
          try clear c22
          try clear c22b0
          try clear c22b1
          try clear c24
          try clear c24b0
          try clear c24b1
          try clear c25
          try clear c25b0
          try clear c29
          try clear c30
          try clear p2
          obtain ⟨x84_3, rfl, HA, HK3, HO_2, HO_12, HO_82, HB⟩ := hrel
          cases gk with
          | zero => exact absurd HA.out (by simp [thrumlaw15_SoftClass.l0])
          | succ k3 =>
           have H := HA.out
           clear HA
           simp only [thrumlaw15_SoftClass.l0] at H
           by_cases c31 : x84_3 < (t291.length : Int)
           ·
            rw [if_pos c31] at H
            have c31b0 : decide (x84_3 < (t291.length : Int)) = true := decide_eq_true c31
            clear c31
            by_cases c32 : 0 ≤ x84_3
            ·
             rw [if_pos c32] at H
             have c32b0 : decide (0 ≤ x84_3) = true := decide_eq_true c32
             clear c32
             by_cases c33 : x84_3 < (t291.length : Int)
             ·
              rw [if_pos c33] at H
              have c33b0 : decide (x84_3 < (t291.length : Int)) = true := decide_eq_true c33
              clear c33
              by_cases c34 : 0 ≤ t295
              ·
               rw [if_pos c34] at H
               have c34b0 : decide (0 ≤ t295) = true := decide_eq_true c34
               clear c34
               by_cases c35 : t295 < (t291.length : Int)
               ·
                rw [if_pos c35] at H
                have c35b0 : decide (t295 < (t291.length : Int)) = true := decide_eq_true c35
                clear c35
                by_cases c36 : (rd t291 x84_3) > (rd t291 t295)
                ·
                 rw [if_pos c36] at H
                 exact absurd (Option.some.inj H) (by rw [HR_.out]; decide)
                ·
                 rw [if_neg c36] at H
                 have c36b0 : decide ((rd t291 t295) < (rd t291 x84_3)) = false := decide_eq_false c36
                 clear c36
                 by_cases c37 : (rd t291 x84_3) < 0
                 ·
                  rw [if_pos c37] at H
                  exact absurd (Option.some.inj H) (by rw [HR_.out]; decide)
                 ·
                  rw [if_neg c37] at H
                  have c37b0 : decide ((rd t291 x84_3) < 0) = false := decide_eq_false c37
                  clear c37
                  by_cases c38 : x84_3 ≥ a0
                  ·
                   rw [if_pos c38] at H
                   exact absurd (Option.some.inj H) (by rw [HR_.out]; decide)
                  ·
                   rw [if_neg c38] at H
                   have c38b0 : decide (a0 ≤ x84_3) = false := decide_eq_false c38
                   clear c38
                   have H' := Aside0.mk H
                   clear H
                   have p297 : 0 ≤ (x84_3 : Int) := of_decide_eq_true (by first | (with_reducible assumption) | assumption)
                   have q297 : x84_3 < (t291.length : Int) := of_decide_eq_true (by first | (with_reducible assumption) | assumption)
                   obtain ⟨ad297, e297, hx297_0⟩ := Kd.at_int (Kd.R_reads' HO_82.out).2.2 x84_3 p297 q297
                   cases e297
                   replace p297 := eq_true p297
                   replace q297 := eq_true q297
                   have p298 : 0 ≤ (t295 : Int) := of_decide_eq_true (by first | (with_reducible assumption) | assumption)
                   have q298 : t295 < (t291.length : Int) := of_decide_eq_true (by first | (with_reducible assumption) | assumption)
                   obtain ⟨ad298, e298, hx298_0⟩ := Kd.at_int (Kd.R_reads' HO_12.out).2.2 t295 p298 q298
                   obtain rfl : ad297 = ad298 := (by injection e298)
                   replace p298 := eq_true p298
                   replace q298 := eq_true q298
                   go_wp2
                   go_roundg k3
                   case measure => have := HJ11.out; have := HJ22.out; have := HK3.out; omega
                   case rel => exact ⟨(wrap64 (x84_3 + 1)), (by first | rfl | (simp; done) | (simp [*]; done)), H', ⟨by have := HJ11.out; have := HJ22.out; have := HK3.out; omega⟩, ⟨by (with_reducible repeat (first | apply Kd.V_alloc | apply Kd.V_drewN | apply Kd.V_drew)); exact HO_2.out⟩, ⟨by (with_reducible repeat (first | apply rrA | apply rrN | apply rrD)); exact HO_12.out⟩, ⟨by (with_reducible repeat (first | apply rrA | apply rrN | apply rrD)); exact HO_82.out⟩, ⟨by repeat (first | (with_reducible first | exact HB.out | apply zzA | apply zzN | apply zzD) | exact HB.out)⟩⟩
               ·
                rw [if_neg c35] at H
                exact absurd H (by simp)
              ·
               rw [if_neg c34] at H
               exact absurd H (by simp)
             ·
              rw [if_neg c33] at H
              exact absurd H (by simp)
            ·
             rw [if_neg c32] at H
             exact absurd H (by simp)
           ·
            rw [if_neg c31] at H
            have c31b0 : decide (x84_3 < (t291.length : Int)) = false := decide_eq_false c31
            clear c31
            by_cases c39 : ([] : List Int).length + l1.length < 17592186044416
            ·
             rw [if_pos c39] at H
             have LMc39 := Aside0.mk c39
             clear c39
             obtain ⟨y299, hy299⟩ : ∃ y_ : List Int, y_ = (([] : List Int) ++ l1) := ⟨_, rfl⟩
             replace H : (thrumlaw15_SoftClass.l1 k3 a0 l1 l2 a3 (Int.tmod a4 1099511627776) true t291 t295 y299 (l2.length : Int)) = some r := by first | (rw [hy299]; with_reducible exact H) | (have H2_ := (Option.bind_some _ _).symm.trans H; rw [hy299]; with_reducible exact H2_) | (have H2_ := (Option.bind_some _ _).symm.trans H; with_reducible exact H2_) | with_reducible exact H | (rw [hy299]; exact H) | exact H
             have Ny299 := Aside0.mk hy299
             clear hy299
             have H' := Aside0.mk H
             clear H
             go_wp2_with (first | ((with_reducible refine gate_builtin (b := .append) (xs := #[.const (.slice none 0 0), .tmp 107]) rfl ?_); at_builtin; refine Kd.R_append_rows (Kd.int .i64) (w0 := w) w.heap.size rfl (.const (.slice none 0 0)) (.tmp 107) 22 2 (.int .i64 0) 8 rfl Try.underlying22 info2 rfl (by decide) (by omega) (.slice none 0 0) ([] : List Int) l1 _ _ _ (fun k_ => (w.heap.size ≤ k_) ∧ some k_ ≠ (.slice Ao30 t291.length co30 : Value).ownBlock ∧ some k_ ≠ (.slice Ao30 t291.length co30 : Value).ownBlock) (fun _ => False) rfl rfl ?aO ?aR (fun _ _ h => h) (fun _ h => h.elim) ?aF ?aB ?aS ?aL ?_; (case aR => repeat (first | exact (Kd.C_below HR1.out HB.out) | (with_reducible refine ccA ?_ _) | (with_reducible refine ccN ?_ _) | (with_reducible refine ccD ?_))); (case aB => exact (by repeat (first | (with_reducible first | exact HB.out | apply zzA | apply zzN | apply zzD) | exact HB.out))); (case aF => exact (fun k_ hk => ⟨(Nat.le_trans (zzS (by repeat (first | (with_reducible first | exact HB.out | apply zzA | apply zzN | apply zzD) | exact HB.out))) hk), Kd.fresh' (Kd.R_lt (by (with_reducible repeat (first | apply rrA | apply rrN | apply rrD)); exact HO_12.out)) k_ hk, Kd.fresh' (Kd.R_lt (by (with_reducible repeat (first | apply rrA | apply rrN | apply rrD)); exact HO_82.out)) k_ hk⟩)); (case aO => exact ((Kd.R_nil _ _ _ _ (fun k_ => (w.heap.size ≤ k_) ∧ some k_ ≠ (.slice Ao30 t291.length co30 : Value).ownBlock ∧ some k_ ≠ (.slice Ao30 t291.length co30 : Value).ownBlock)))); (case aS => exact (zzS (by repeat (first | (with_reducible first | exact HB.out | apply zzA | apply zzN | apply zzD) | exact HB.out)))); (case aL => have := LMc39.out; omega); intro v300 w40 ho hb hg hat; rw [← Ny299.out] at ho; have n0_ := Aside0.mk (Kd.V_afterv (Kd.V_apart_nil (by (with_reducible repeat (first | apply Kd.V_alloc | apply Kd.V_drewN | apply Kd.V_drew)); exact HO_2.out)) hg hat); have n1_ := Aside0.mk (Kd.R_after (Kd.R_apart_nil (by (with_reducible repeat (first | apply rrA | apply rrN | apply rrD)); exact HO_12.out)) hg hat); have n2_ := Aside0.mk (Kd.R_after (Kd.R_apart_nil (by (with_reducible repeat (first | apply rrA | apply rrN | apply rrD)); exact HO_82.out)) hg hat); have n3_ := Aside0.mk (hb); have n4_ := Aside0.mk (ho); clear HO_2; clear HO_12; clear HO_82; clear HB; have HO_2 := n0_; have HO_12 := n1_; have HO_82 := n2_; have HB := n3_; have HO301 := n4_; clear n0_ n1_ n2_ n3_ n4_; clear ho hb hg hat))
             go_loopg [19] k3 (fun kq v19 w' => ∃ (x18_4 : List Int) (x19_4 : Int), v19 = .int .i64 x19_4 ∧ Aside0 (thrumlaw15_SoftClass.l1 kq a0 l1 l2 a3 (Int.tmod a4 1099511627776) true t291 t295 x18_4 x19_4 = some r) ∧ Aside0 (kq ≤ k3) ∧ Aside0 (Kd.V (Kd.int .i64) 2 w' w.heap.size (fun k_ => (P2_ k_ ∨ w.heap.size ≤ k_) ∧ some k_ ≠ ((.slice Ao30 t291.length co30) : Value).ownBlock ∧ some k_ ≠ (v300 : Value).ownBlock) (.slice A2 l2.length c2) l2) ∧ Aside0 (Kd.R (Kd.int .i64) 2 w' w.heap.size (fun k_ => (w.heap.size ≤ k_) ∧ some k_ ≠ (v300 : Value).ownBlock) (.slice Ao30 t291.length co30) t291) ∧ Aside0 (Kd.R (Kd.int .i64) 2 w' w.heap.size (fun k_ => (w.heap.size ≤ k_) ∧ some k_ ≠ ((.slice Ao30 t291.length co30) : Value).ownBlock) v300 x18_4) ∧ Aside0 (Below w.heap.size w w'))
             case atStart => exact ⟨(y299), ((l2.length : Int)), (by first | rfl | (simp; done) | (simp [*]; done)), H', ⟨Nat.le_refl _⟩, ⟨by (with_reducible repeat (first | apply Kd.V_alloc | apply Kd.V_drewN | apply Kd.V_drew)); exact Kd.V_mono HO_2.out (fun _ hk => ⟨hk.1.1, ⟨hk.1.2.1, hk.2⟩⟩)⟩, ⟨by (with_reducible repeat (first | apply rrA | apply rrN | apply rrD)); exact HO_12.out⟩, ⟨by (with_reducible repeat (first | apply rrA | apply rrN | apply rrD)); exact Kd.R_mono HO301.out (fun _ hk => ⟨hk.1, hk.2.1⟩)⟩, ⟨by repeat (first | (with_reducible first | exact HB.out | apply zzA | apply zzN | apply zzD) | exact HB.out)⟩⟩
             case round =>
              clear H'
              try clear c1
              try clear c2
              try clear p2
              try clear q2
              try clear hx2
              try clear c3
              try clear p6
              try clear c7
              try clear c8
              try clear c9
              try clear c20
              try clear c20b0
              try clear c20b1
              try clear c21
              try clear c22
              try clear c22b0
              try clear c22b1
              try clear c24
              try clear c24b0
              try clear c24b1
              try clear c25
              try clear c25b0
              try clear c29
              try clear p29
              try clear q29
              try clear hx29
              try clear c30
              try clear c31
              try clear c31b0
              try clear c32
              try clear c32b0
              try clear c33
              try clear c33b0
              try clear c34
              try clear c34b0
              try clear c35
              try clear c35b0
              try clear c36
              try clear c36b0
              try clear c37
              try clear c37b0
              try clear c38
              try clear c38b0
              try clear c39
              try clear hx297_0
              try clear hx298_0
              try clear p2
              try clear p297
              try clear p298
              try clear q297
              try clear q298
              obtain ⟨x18_4, x19_4, rfl, HA, HK4, HO_2, HO_12, HO_18, HB⟩ := hrel
              cases gk with
              | zero => exact absurd HA.out (by simp [thrumlaw15_SoftClass.l1])
              | succ k4 =>
               have H := HA.out
               clear HA
               simp only [thrumlaw15_SoftClass.l1] at H
               by_cases c41 : x19_4 < (x18_4.length : Int)
               ·
                rw [if_pos c41] at H
                have c41b0 : decide (x19_4 < (x18_4.length : Int)) = true := decide_eq_true c41
                clear c41
                by_cases c42 : 0 ≤ x19_4
                ·
                 rw [if_pos c42] at H
                 have c42b0 : decide (0 ≤ x19_4) = true := decide_eq_true c42
                 clear c42
                 by_cases c43 : (rd x18_4 x19_4) > 1099511627776
                 ·
                  rw [if_pos c43] at H
                  have c43b0 : decide (1099511627776 < (rd x18_4 x19_4)) = true := decide_eq_true c43
                  clear c43
                  obtain rfl := Option.some.inj H
                  obtain ⟨Ao44, co44, eo44⟩ := Kd.R_slice HO_18.out
                  subst eo44
                  have p302 : 0 ≤ (x19_4 : Int) := of_decide_eq_true (by first | (with_reducible assumption) | assumption)
                  have q302 : x19_4 < (x18_4.length : Int) := of_decide_eq_true (by first | (with_reducible assumption) | assumption)
                  obtain ⟨ad302, e302, hx302_0⟩ := Kd.at_int (Kd.R_reads' HO_18.out).2.2 x19_4 p302 q302
                  cases e302
                  replace p302 := eq_true p302
                  replace q302 := eq_true q302
                  go_wp2
                  go_ret
                  exact ⟨by first | rfl | (simp [errW_none, errW_some] <;> rfl) | (simp [*, errW_none, errW_some] <;> rfl), by repeat (first | (with_reducible first | exact HB.out | apply zzA | apply zzN | apply zzD) | exact HB.out)⟩
                 ·
                  rw [if_neg c43] at H
                  have c43b0 : decide (1099511627776 < (rd x18_4 x19_4)) = false := decide_eq_false c43
                  clear c43
                  by_cases c45 : (rd x18_4 x19_4) < (-1099511627776)
                  ·
                   rw [if_pos c45] at H
                   have c45b0 : decide ((rd x18_4 x19_4) < (-1099511627776)) = true := decide_eq_true c45
                   clear c45
                   obtain rfl := Option.some.inj H
                   obtain ⟨Ao46, co46, eo46⟩ := Kd.R_slice HO_18.out
                   subst eo46
                   have p302 : 0 ≤ (x19_4 : Int) := of_decide_eq_true (by first | (with_reducible assumption) | assumption)
                   have q302 : x19_4 < (x18_4.length : Int) := of_decide_eq_true (by first | (with_reducible assumption) | assumption)
                   obtain ⟨ad302, e302, hx302_0⟩ := Kd.at_int (Kd.R_reads' HO_18.out).2.2 x19_4 p302 q302
                   cases e302
                   replace p302 := eq_true p302
                   replace q302 := eq_true q302
                   have p303 : 0 ≤ (x19_4 : Int) := of_decide_eq_true (by first | (with_reducible assumption) | assumption)
                   have q303 : x19_4 < (x18_4.length : Int) := of_decide_eq_true (by first | (with_reducible assumption) | assumption)
                   obtain ⟨ad303, e303, hx303_0⟩ := Kd.at_int (Kd.R_reads' HO_18.out).2.2 x19_4 p303 q303
                   obtain rfl : ad302 = ad303 := (by injection e303)
                   replace p303 := eq_true p303
                   replace q303 := eq_true q303
                   go_wp2
                   go_ret
                   exact ⟨by first | rfl | (simp [errW_none, errW_some] <;> rfl) | (simp [*, errW_none, errW_some] <;> rfl), by repeat (first | (with_reducible first | exact HB.out | apply zzA | apply zzN | apply zzD) | exact HB.out)⟩
                  ·
                   rw [if_neg c45] at H
                   have c45b0 : decide ((rd x18_4 x19_4) < (-1099511627776)) = false := decide_eq_false c45
                   clear c45
                   obtain ⟨y305, hy305⟩ : ∃ y_ : List Int, y_ = (x18_4.set (x19_4 : Int).toNat (wrap64 ((rd x18_4 x19_4) + (Int.tmod a4 1099511627776)))) := ⟨_, rfl⟩
                   replace H : (thrumlaw15_SoftClass.l1 k4 a0 l1 l2 a3 (Int.tmod a4 1099511627776) true t291 t295 y305 (wrap64 (x19_4 + (wrap64 ((l2.length : Int) + 1))))) = some r := by first | (rw [hy305]; with_reducible exact H) | (have H2_ := (Option.bind_some _ _).symm.trans H; rw [hy305]; with_reducible exact H2_) | (have H2_ := (Option.bind_some _ _).symm.trans H; with_reducible exact H2_) | with_reducible exact H | (rw [hy305]; exact H) | exact H
                   have Ny305 := Aside0.mk hy305
                   clear hy305
                   have H' := Aside0.mk H
                   clear H
                   obtain ⟨Ao48, co48, eo48⟩ := Kd.R_slice HO_18.out
                   subst eo48
                   have p302 : 0 ≤ (x19_4 : Int) := of_decide_eq_true (by first | (with_reducible assumption) | assumption)
                   have q302 : x19_4 < (x18_4.length : Int) := of_decide_eq_true (by first | (with_reducible assumption) | assumption)
                   obtain ⟨ad302, e302, hx302_0⟩ := Kd.at_int (Kd.R_reads' HO_18.out).2.2 x19_4 p302 q302
                   cases e302
                   replace p302 := eq_true p302
                   replace q302 := eq_true q302
                   have p303 : 0 ≤ (x19_4 : Int) := of_decide_eq_true (by first | (with_reducible assumption) | assumption)
                   have q303 : x19_4 < (x18_4.length : Int) := of_decide_eq_true (by first | (with_reducible assumption) | assumption)
                   obtain ⟨ad303, e303, hx303_0⟩ := Kd.at_int (Kd.R_reads' HO_18.out).2.2 x19_4 p303 q303
                   obtain rfl : ad302 = ad303 := (by injection e303)
                   replace p303 := eq_true p303
                   replace q303 := eq_true q303
                   have p304 : 0 ≤ (x19_4 : Int) := of_decide_eq_true (by first | (with_reducible assumption) | assumption)
                   have q304 : x19_4 < (x18_4.length : Int) := of_decide_eq_true (by first | (with_reducible assumption) | assumption)
                   obtain ⟨ad304, e304, hx304_0⟩ := Kd.at_int (Kd.R_reads' HO_18.out).2.2 x19_4 p304 q304
                   obtain rfl : ad302 = ad304 := (by injection e304)
                   replace p304 := eq_true p304
                   replace q304 := eq_true q304
                   have p47 : 0 ≤ (x19_4 : Int) := of_decide_eq_true (by first | (with_reducible assumption) | assumption)
                   have q47 : (x19_4 : Int) < ((x18_4.length : Int) : Int) := of_decide_eq_true (by first | (with_reducible assumption) | assumption)
                   obtain ⟨go47, co47, eo47, gb47, gl47, cl47, HG47⟩ := Kd.R_form HO_18.out (by omega)
                   (first | cases eo47 | (injection eo47 with ea_ en_ ec_; (first | subst ea_ | (injection ea_ with ea_; subst ea_)); subst ec_; clear en_))
                   have GB47 := Aside0.mk gb47
                   have GG47 := Aside0.mk HG47
                   clear gb47 gl47 HG47
                   (first | simp only [add_plain] at hx302_0 | skip)
                   (first | simp only [add_plain] at hx303_0 | skip)
                   (first | simp only [add_plain] at hx304_0 | skip)
                   obtain ⟨hx47_0, hf47_0⟩ := Kd.R_celln 0 HO_18.out (x19_4 : Int) p47 q47
                   replace p47 := eq_true p47
                   replace q47 := eq_true q47
                   have HP49 := Kd.R_putg HO_18.out (x19_4 : Int) (wrap64 ((rd x18_4 x19_4) + (Int.tmod a4 1099511627776)))
                   go_wp2_with (first | ((with_reducible refine gate_store (t := 2) (p := 139) rfl ?_); refine store_event (t := 2) (p := 139) (v := ?vo_w50) (w1 := (wr.setCell ⟨go47, (x19_4 : Int).toNat, none⟩ (.int .i64 (wrap64 ((rd x18_4 x19_4) + (Int.tmod a4 1099511627776)))))) ?hg ?ho ?hn ?hr ?_; (case ho => rfl); (case hg => rfl); (case hn => rfl); (case hr => first | (go_simp; done) | (go_simp; rfl)); intro w50 hw; have hg : wr.grownBy w50 (some go47) := (by rw [hw]; exact HP49.2); have hp_ : Kd.R (Kd.int .i64) 2 w50 w.heap.size (fun k_ => (w.heap.size ≤ k_) ∧ some k_ ≠ (.slice Ao30 t291.length co30 : Value).ownBlock) (.slice (some ⟨go47, 0, none⟩) x18_4.length co48) y305 := (by rw [hw, Ny305.out]; exact HP49.1); clear HP49; have n0_ := Aside0.mk (Kd.V_afterv (v := (.slice (some ⟨go47, 0, none⟩) x18_4.length co48)) (v1 := (.slice (some ⟨go47, 0, none⟩) x18_4.length co48)) (ok := (fun k_ => (P2_ k_ ∨ w.heap.size ≤ k_) ∧ some k_ ≠ (.slice Ao30 t291.length co30 : Value).ownBlock)) (by (with_reducible repeat (first | apply Kd.V_alloc | apply Kd.V_drewN | apply Kd.V_drew)); exact Kd.V_mono HO_2.out (fun _ hk => ⟨⟨hk.1, hk.2.1⟩, hk.2.2⟩)) hg (.inl rfl)); have n1_ := Aside0.mk (Kd.R_after (v := (.slice (some ⟨go47, 0, none⟩) x18_4.length co48)) (v1 := (.slice (some ⟨go47, 0, none⟩) x18_4.length co48)) (ok := (fun k_ => (w.heap.size ≤ k_))) (by (with_reducible repeat (first | apply rrA | apply rrN | apply rrD)); exact HO_12.out) hg (.inl rfl)); have n2_ := Aside0.mk (hp_); have n3_ := Aside0.mk ((by rw [hw]; exact below_set (HB.out) GB47.out : Below w.heap.size w w50)); clear HO_2; clear HO_12; clear HO_18; clear HB; have HO_2 := n0_; have HO_12 := n1_; have HO_18 := n2_; have HB := n3_; clear n0_ n1_ n2_ n3_; clear hg hw hp_))
                   go_roundg k4
                   case measure => have := HJ11.out; have := HJ22.out; have := HK3.out; have := HK4.out; omega
                   case rel => exact ⟨(y305), (wrap64 (x19_4 + (wrap64 ((l2.length : Int) + 1)))), (by first | rfl | (simp; done) | (simp [*]; done)), H', ⟨by have := HJ11.out; have := HJ22.out; have := HK3.out; have := HK4.out; omega⟩, ⟨by (with_reducible repeat (first | apply Kd.V_alloc | apply Kd.V_drewN | apply Kd.V_drew)); exact Kd.V_mono HO_2.out (fun _ hk => ⟨hk.1.1, ⟨hk.1.2, hk.2⟩⟩)⟩, ⟨by (with_reducible repeat (first | apply rrA | apply rrN | apply rrD)); exact HO_12.out⟩, ⟨by (with_reducible repeat (first | apply rrA | apply rrN | apply rrD)); exact HO_18.out⟩, ⟨by repeat (first | (with_reducible first | exact HB.out | apply zzA | apply zzN | apply zzD) | exact HB.out)⟩⟩
                ·
                 rw [if_neg c42] at H
                 exact absurd H (by simp)
               ·
                rw [if_neg c41] at H
                have c41b0 : decide (x19_4 < (x18_4.length : Int)) = false := decide_eq_false c41
                clear c41
                have H' := Aside0.mk H
                clear H
                obtain ⟨Ao51, co51, eo51⟩ := Kd.R_slice HO_18.out
                subst eo51
                go_wp2
                go_loopg [142] k4 (fun kq v142 w' => ∃ (x142_5 : Int), v142 = .int .i64 x142_5 ∧ Aside0 (thrumlaw15_SoftClass.l2 kq a0 l1 l2 a3 true t291 t295 x18_4 (l1.length : Int) x142_5 = some r) ∧ Aside0 (kq ≤ k4) ∧ Aside0 (Kd.V (Kd.int .i64) 2 w' w.heap.size (fun k_ => (P2_ k_ ∨ w.heap.size ≤ k_) ∧ some k_ ≠ ((.slice Ao30 t291.length co30) : Value).ownBlock ∧ some k_ ≠ ((.slice Ao51 x18_4.length co51) : Value).ownBlock) (.slice A2 l2.length c2) l2) ∧ Aside0 (Kd.R (Kd.int .i64) 2 w' w.heap.size (fun k_ => (w.heap.size ≤ k_) ∧ some k_ ≠ ((.slice Ao51 x18_4.length co51) : Value).ownBlock) (.slice Ao30 t291.length co30) t291) ∧ Aside0 (Kd.R (Kd.int .i64) 2 w' w.heap.size (fun k_ => (w.heap.size ≤ k_) ∧ some k_ ≠ ((.slice Ao30 t291.length co30) : Value).ownBlock) (.slice Ao51 x18_4.length co51) x18_4) ∧ Aside0 (Below w.heap.size w w'))
                case atStart => exact ⟨(0), (by first | rfl | (simp; done) | (simp [*]; done)), H', ⟨Nat.le_refl _⟩, ⟨by (with_reducible repeat (first | apply Kd.V_alloc | apply Kd.V_drewN | apply Kd.V_drew)); exact HO_2.out⟩, ⟨by (with_reducible repeat (first | apply rrA | apply rrN | apply rrD)); exact HO_12.out⟩, ⟨by (with_reducible repeat (first | apply rrA | apply rrN | apply rrD)); exact HO_18.out⟩, ⟨by repeat (first | (with_reducible first | exact HB.out | apply zzA | apply zzN | apply zzD) | exact HB.out)⟩⟩
                case round =>
                 clear H'
                 try clear c1
                 try clear c2
                 try clear p2
                 try clear q2
                 try clear hx2
                 try clear c3
                 try clear p3
                 try clear q3
                 try clear hx3
                 try clear c4
                 try clear p4
                 try clear q4
                 try clear hx4
                 try clear p6
                 try clear c7
                 try clear c8
                 try clear c9
                 try clear c20
                 try clear c20b0
                 try clear c20b1
                 try clear c21
                 try clear c22
                 try clear c22b0
                 try clear c22b1
                 try clear c24
                 try clear c24b0
                 try clear c24b1
                 try clear c25
                 try clear c25b0
                 try clear c29
                 try clear p29
                 try clear q29
                 try clear hx29
                 try clear c30
                 try clear p30
                 try clear q30
                 try clear hx30
                 try clear c31
                 try clear c31b0
                 try clear c32
                 try clear c32b0
                 try clear c33
                 try clear c33b0
                 try clear c34
                 try clear c34b0
                 try clear c35
                 try clear c35b0
                 try clear c36
                 try clear c36b0
                 try clear c37
                 try clear c37b0
                 try clear c38
                 try clear c38b0
                 try clear c39
                 try clear c41
                 try clear c41b0
                 try clear c42
                 try clear c42b0
                 try clear c43
                 try clear c43b0
                 try clear c45
                 try clear c45b0
                 try clear p47
                 try clear q47
                 try clear hx47
                 try clear hf47
                 try clear hx297_0
                 try clear hx298_0
                 try clear hx302_0
                 try clear hx303_0
                 try clear hx304_0
                 try clear hx47_0
                 try clear p2
                 try clear p29
                 try clear p297
                 try clear p298
                 try clear p302
                 try clear p303
                 try clear p304
                 try clear p47
                 try clear p6
                 try clear q2
                 try clear q29
                 try clear q297
                 try clear q298
                 try clear q302
                 try clear q303
                 try clear q304
                 try clear q47
                 obtain ⟨x142_5, rfl, HA, HK5, HO_2, HO_12, HO_18, HB⟩ := hrel
                 cases gk with
                 | zero => exact absurd HA.out (by simp [thrumlaw15_SoftClass.l2])
                 | succ k5 =>
                  have H := HA.out
                  clear HA
                  simp only [thrumlaw15_SoftClass.l2] at H
                  by_cases c52 : x142_5 < (l1.length : Int)
                  ·
                   rw [if_pos c52] at H
                   have c52b0 : decide (x142_5 < (l1.length : Int)) = true := decide_eq_true c52
                   clear c52
                   by_cases c53 : 0 ≤ x142_5
                   ·
                    rw [if_pos c53] at H
                    have c53b0 : decide (0 ≤ x142_5) = true := decide_eq_true c53
                    clear c53
                    by_cases c54 : x142_5 < (l1.length : Int)
                    ·
                     rw [if_pos c54] at H
                     have c54b0 : decide (x142_5 < (l1.length : Int)) = true := decide_eq_true c54
                     clear c54
                     by_cases c55 : (rd l1 x142_5) > 1099511627776
                     ·
                      rw [if_pos c55] at H
                      have c55b0 : decide (1099511627776 < (rd l1 x142_5)) = true := decide_eq_true c55
                      clear c55
                      obtain rfl := Option.some.inj H
                      have p306 : 0 ≤ (x142_5 : Int) := of_decide_eq_true (by first | (with_reducible assumption) | assumption)
                      have q306 : x142_5 < (l1.length : Int) := of_decide_eq_true (by first | (with_reducible assumption) | assumption)
                      obtain ⟨ad306, e306, hx306_0⟩ := Kd.at_int HR1.out x142_5 p306 q306
                      cases e306
                      replace hx306_0 := (HB.out.cell (World.block_lt_of_cell? w _ hx306_0)).trans hx306_0
                      replace p306 := eq_true p306
                      replace q306 := eq_true q306
                      go_wp2
                      go_ret
                      exact ⟨by first | rfl | (simp [errW_none, errW_some] <;> rfl) | (simp [*, errW_none, errW_some] <;> rfl), by repeat (first | (with_reducible first | exact HB.out | apply zzA | apply zzN | apply zzD) | exact HB.out)⟩
                     ·
                      rw [if_neg c55] at H
                      have c55b0 : decide (1099511627776 < (rd l1 x142_5)) = false := decide_eq_false c55
                      clear c55
                      by_cases c56 : (rd l1 x142_5) < (-1099511627776)
                      ·
                       rw [if_pos c56] at H
                       have c56b0 : decide ((rd l1 x142_5) < (-1099511627776)) = true := decide_eq_true c56
                       clear c56
                       obtain rfl := Option.some.inj H
                       have p306 : 0 ≤ (x142_5 : Int) := of_decide_eq_true (by first | (with_reducible assumption) | assumption)
                       have q306 : x142_5 < (l1.length : Int) := of_decide_eq_true (by first | (with_reducible assumption) | assumption)
                       obtain ⟨ad306, e306, hx306_0⟩ := Kd.at_int HR1.out x142_5 p306 q306
                       cases e306
                       replace hx306_0 := (HB.out.cell (World.block_lt_of_cell? w _ hx306_0)).trans hx306_0
                       replace p306 := eq_true p306
                       replace q306 := eq_true q306
                       have p307 : 0 ≤ (x142_5 : Int) := of_decide_eq_true (by first | (with_reducible assumption) | assumption)
                       have q307 : x142_5 < (l1.length : Int) := of_decide_eq_true (by first | (with_reducible assumption) | assumption)
                       obtain ⟨ad307, e307, hx307_0⟩ := Kd.at_int HR1.out x142_5 p307 q307
                       obtain rfl : ad306 = ad307 := (by injection e307)
                       replace hx307_0 := (HB.out.cell (World.block_lt_of_cell? w _ hx307_0)).trans hx307_0
                       replace p307 := eq_true p307
                       replace q307 := eq_true q307
                       go_wp2
                       go_ret
                       exact ⟨by first | rfl | (simp [errW_none, errW_some] <;> rfl) | (simp [*, errW_none, errW_some] <;> rfl), by repeat (first | (with_reducible first | exact HB.out | apply zzA | apply zzN | apply zzD) | exact HB.out)⟩
                      ·
                       rw [if_neg c56] at H
                       have c56b0 : decide ((rd l1 x142_5) < (-1099511627776)) = false := decide_eq_false c56
                       clear c56
                       have H' := Aside0.mk H
                       clear H
                       have p306 : 0 ≤ (x142_5 : Int) := of_decide_eq_true (by first | (with_reducible assumption) | assumption)
                       have q306 : x142_5 < (l1.length : Int) := of_decide_eq_true (by first | (with_reducible assumption) | assumption)
                       obtain ⟨ad306, e306, hx306_0⟩ := Kd.at_int HR1.out x142_5 p306 q306
                       cases e306
                       replace hx306_0 := (HB.out.cell (World.block_lt_of_cell? w _ hx306_0)).trans hx306_0
                       replace p306 := eq_true p306
                       replace q306 := eq_true q306
                       have p307 : 0 ≤ (x142_5 : Int) := of_decide_eq_true (by first | (with_reducible assumption) | assumption)
                       have q307 : x142_5 < (l1.length : Int) := of_decide_eq_true (by first | (with_reducible assumption) | assumption)
                       obtain ⟨ad307, e307, hx307_0⟩ := Kd.at_int HR1.out x142_5 p307 q307
                       obtain rfl : ad306 = ad307 := (by injection e307)
                       replace hx307_0 := (HB.out.cell (World.block_lt_of_cell? w _ hx307_0)).trans hx307_0
                       replace p307 := eq_true p307
                       replace q307 := eq_true q307
                       go_wp2
                       go_roundg k5
                       case measure => have := HJ11.out; have := HJ22.out; have := HK3.out; have := HK4.out; have := HK5.out; omega
                       case rel => exact ⟨(wrap64 (x142_5 + 1)), (by first | rfl | (simp; done) | (simp [*]; done)), H', ⟨by have := HJ11.out; have := HJ22.out; have := HK3.out; have := HK4.out; have := HK5.out; omega⟩, ⟨by (with_reducible repeat (first | apply Kd.V_alloc | apply Kd.V_drewN | apply Kd.V_drew)); exact HO_2.out⟩, ⟨by (with_reducible repeat (first | apply rrA | apply rrN | apply rrD)); exact HO_12.out⟩, ⟨by (with_reducible repeat (first | apply rrA | apply rrN | apply rrD)); exact HO_18.out⟩, ⟨by repeat (first | (with_reducible first | exact HB.out | apply zzA | apply zzN | apply zzD) | exact HB.out)⟩⟩
                    ·
                     rw [if_neg c54] at H
                     exact absurd H (by simp)
                   ·
                    rw [if_neg c53] at H
                    exact absurd H (by simp)
                  ·
                   rw [if_neg c52] at H
                   have c52b0 : decide (x142_5 < (l1.length : Int)) = false := decide_eq_false c52
                   clear c52
                   have H' := Aside0.mk H
                   clear H
                   go_wp2
                   go_loopg [161] k5 (fun kq v161 w' => ∃ (x161_6 : Int), v161 = .int .i64 x161_6 ∧ Aside0 (thrumlaw15_SoftClass.l3 kq a0 l2 a3 true t291 t295 x18_4 l2 (l2.length : Int) x161_6 = some r) ∧ Aside0 (kq ≤ k5) ∧ Aside0 (Kd.V (Kd.int .i64) 2 w' w.heap.size (fun k_ => (P2_ k_ ∨ w.heap.size ≤ k_) ∧ some k_ ≠ ((.slice Ao30 t291.length co30) : Value).ownBlock ∧ some k_ ≠ ((.slice Ao51 x18_4.length co51) : Value).ownBlock) (.slice A2 l2.length c2) l2) ∧ Aside0 (Kd.R (Kd.int .i64) 2 w' w.heap.size (fun k_ => (w.heap.size ≤ k_) ∧ some k_ ≠ ((.slice Ao51 x18_4.length co51) : Value).ownBlock) (.slice Ao30 t291.length co30) t291) ∧ Aside0 (Kd.R (Kd.int .i64) 2 w' w.heap.size (fun k_ => (w.heap.size ≤ k_) ∧ some k_ ≠ ((.slice Ao30 t291.length co30) : Value).ownBlock) (.slice Ao51 x18_4.length co51) x18_4) ∧ Aside0 (Kd.V (Kd.int .i64) 2 w' w.heap.size (fun k_ => (P2_ k_ ∨ w.heap.size ≤ k_) ∧ some k_ ≠ ((.slice Ao30 t291.length co30) : Value).ownBlock ∧ some k_ ≠ ((.slice Ao51 x18_4.length co51) : Value).ownBlock) (.slice A2 l2.length c2) l2) ∧ Aside0 (Below w.heap.size w w'))
                   case atStart => exact ⟨(0), (by first | rfl | (simp; done) | (simp [*]; done)), H', ⟨Nat.le_refl _⟩, ⟨by (with_reducible repeat (first | apply Kd.V_alloc | apply Kd.V_drewN | apply Kd.V_drew)); exact HO_2.out⟩, ⟨by (with_reducible repeat (first | apply rrA | apply rrN | apply rrD)); exact HO_12.out⟩, ⟨by (with_reducible repeat (first | apply rrA | apply rrN | apply rrD)); exact HO_18.out⟩, ⟨by (with_reducible repeat (first | apply Kd.V_alloc | apply Kd.V_drewN | apply Kd.V_drew)); exact HO_2.out⟩, ⟨by repeat (first | (with_reducible first | exact HB.out | apply zzA | apply zzN | apply zzD) | exact HB.out)⟩⟩
                   case round =>
                    clear H'
                    try clear c1
                    try clear c2
                    try clear p2
                    try clear q2
                    try clear hx2
                    try clear c3
                    try clear p3
                    try clear q3
                    try clear hx3
                    try clear c4
                    try clear p4
                    try clear q4
                    try clear hx4
                    try clear c5
                    try clear p6
                    try clear c7
                    try clear c8
                    try clear c9
                    try clear c20
                    try clear c20b0
                    try clear c20b1
                    try clear c21
                    try clear c22
                    try clear c22b0
                    try clear c22b1
                    try clear c24
                    try clear c24b0
                    try clear c24b1
                    try clear c25
                    try clear c25b0
                    try clear c29
                    try clear p29
                    try clear q29
                    try clear hx29
                    try clear c30
                    try clear p30
                    try clear q30
                    try clear hx30
                    try clear c31
                    try clear c31b0
                    try clear c32
                    try clear c32b0
                    try clear c33
                    try clear c33b0
                    try clear c34
                    try clear c34b0
                    try clear c35
                    try clear c35b0
                    try clear c36
                    try clear c36b0
                    try clear c37
                    try clear c37b0
                    try clear c38
                    try clear c38b0
                    try clear c39
                    try clear c41
                    try clear c41b0
                    try clear c42
                    try clear c42b0
                    try clear c43
                    try clear c43b0
                    try clear c45
                    try clear c45b0
                    try clear p47
                    try clear q47
                    try clear hx47
                    try clear hf47
                    try clear c52
                    try clear c52b0
                    try clear c53
                    try clear c53b0
                    try clear c54
                    try clear c54b0
                    try clear c55
                    try clear c55b0
                    try clear c56
                    try clear c56b0
                    try clear hx297_0
                    try clear hx298_0
                    try clear hx302_0
                    try clear hx303_0
                    try clear hx304_0
                    try clear hx306_0
                    try clear hx307_0
                    try clear hx47_0
                    try clear p2
                    try clear p29
                    try clear p297
                    try clear p298
                    try clear p3
                    try clear p30
                    try clear p302
                    try clear p303
                    try clear p304
                    try clear p306
                    try clear p307
                    try clear p4
                    try clear p47
                    try clear p6
                    try clear q2
                    try clear q29
                    try clear q297
                    try clear q298
                    try clear q3
                    try clear q30
                    try clear q302
                    try clear q303
                    try clear q304
                    try clear q306
                    try clear q307
                    try clear q4
                    try clear q47
                    obtain ⟨x161_6, rfl, HA, HK6, HO_2, HO_12, HO_18, HO_159, HB⟩ := hrel
                    cases gk with
                    | zero => exact absurd HA.out (by simp [thrumlaw15_SoftClass.l3])
                    | succ k6 =>
                     have H := HA.out
                     clear HA
                     simp only [thrumlaw15_SoftClass.l3] at H
                     by_cases c57 : x161_6 < (l2.length : Int)
                     ·
                      rw [if_pos c57] at H
                      have c57b0 : decide (x161_6 < (l2.length : Int)) = true := decide_eq_true c57
                      clear c57
                      by_cases c58 : 0 ≤ x161_6
                      ·
                       rw [if_pos c58] at H
                       have c58b0 : decide (0 ≤ x161_6) = true := decide_eq_true c58
                       clear c58
                       by_cases c59 : x161_6 < (l2.length : Int)
                       ·
                        rw [if_pos c59] at H
                        have c59b0 : decide (x161_6 < (l2.length : Int)) = true := decide_eq_true c59
                        clear c59
                        by_cases c60 : (rd l2 x161_6) > 32768
                        ·
                         rw [if_pos c60] at H
                         have c60b0 : decide (32768 < (rd l2 x161_6)) = true := decide_eq_true c60
                         clear c60
                         obtain rfl := Option.some.inj H
                         have p308 : 0 ≤ (x161_6 : Int) := of_decide_eq_true (by first | (with_reducible assumption) | assumption)
                         have q308 : x161_6 < (l2.length : Int) := of_decide_eq_true (by first | (with_reducible assumption) | assumption)
                         obtain ⟨ad308, e308, hx308_0⟩ := Kd.at_int (Kd.V_reads' HO_159.out).2.2 x161_6 p308 q308
                         cases e308
                         replace p308 := eq_true p308
                         replace q308 := eq_true q308
                         go_wp2
                         go_ret
                         exact ⟨by first | rfl | (simp [errW_none, errW_some] <;> rfl) | (simp [*, errW_none, errW_some] <;> rfl), by repeat (first | (with_reducible first | exact HB.out | apply zzA | apply zzN | apply zzD) | exact HB.out)⟩
                        ·
                         rw [if_neg c60] at H
                         have c60b0 : decide (32768 < (rd l2 x161_6)) = false := decide_eq_false c60
                         clear c60
                         by_cases c61 : (rd l2 x161_6) < (-32768)
                         ·
                          rw [if_pos c61] at H
                          have c61b0 : decide ((rd l2 x161_6) < (-32768)) = true := decide_eq_true c61
                          clear c61
                          obtain rfl := Option.some.inj H
                          have p308 : 0 ≤ (x161_6 : Int) := of_decide_eq_true (by first | (with_reducible assumption) | assumption)
                          have q308 : x161_6 < (l2.length : Int) := of_decide_eq_true (by first | (with_reducible assumption) | assumption)
                          obtain ⟨ad308, e308, hx308_0⟩ := Kd.at_int (Kd.V_reads' HO_159.out).2.2 x161_6 p308 q308
                          cases e308
                          replace p308 := eq_true p308
                          replace q308 := eq_true q308
                          go_wp2
                          go_ret
                          exact ⟨by first | rfl | (simp [errW_none, errW_some] <;> rfl) | (simp [*, errW_none, errW_some] <;> rfl), by repeat (first | (with_reducible first | exact HB.out | apply zzA | apply zzN | apply zzD) | exact HB.out)⟩
                         ·
                          rw [if_neg c61] at H
                          have c61b0 : decide ((rd l2 x161_6) < (-32768)) = false := decide_eq_false c61
                          clear c61
                          have H' := Aside0.mk H
                          clear H
                          have p308 : 0 ≤ (x161_6 : Int) := of_decide_eq_true (by first | (with_reducible assumption) | assumption)
                          have q308 : x161_6 < (l2.length : Int) := of_decide_eq_true (by first | (with_reducible assumption) | assumption)
                          obtain ⟨ad308, e308, hx308_0⟩ := Kd.at_int (Kd.V_reads' HO_159.out).2.2 x161_6 p308 q308
                          cases e308
                          replace p308 := eq_true p308
                          replace q308 := eq_true q308
                          go_wp2
                          go_roundg k6
                          case measure => have := HJ11.out; have := HJ22.out; have := HK3.out; have := HK4.out; have := HK5.out; have := HK6.out; omega
                          case rel => exact ⟨(wrap64 (x161_6 + 1)), (by first | rfl | (simp; done) | (simp [*]; done)), H', ⟨by have := HJ11.out; have := HJ22.out; have := HK3.out; have := HK4.out; have := HK5.out; have := HK6.out; omega⟩, ⟨by (with_reducible repeat (first | apply Kd.V_alloc | apply Kd.V_drewN | apply Kd.V_drew)); exact HO_2.out⟩, ⟨by (with_reducible repeat (first | apply rrA | apply rrN | apply rrD)); exact HO_12.out⟩, ⟨by (with_reducible repeat (first | apply rrA | apply rrN | apply rrD)); exact HO_18.out⟩, ⟨by (with_reducible repeat (first | apply Kd.V_alloc | apply Kd.V_drewN | apply Kd.V_drew)); exact HO_159.out⟩, ⟨by repeat (first | (with_reducible first | exact HB.out | apply zzA | apply zzN | apply zzD) | exact HB.out)⟩⟩
                       ·
                        rw [if_neg c59] at H
                        exact absurd H (by simp)
                      ·
                       rw [if_neg c58] at H
                       exact absurd H (by simp)
                     ·
                      rw [if_neg c57] at H
                      have c57b0 : decide (x161_6 < (l2.length : Int)) = false := decide_eq_false c57
                      clear c57
                      replace H := Option.bind_eq_some_iff.mp H
                      obtain ⟨⟨t309, t310⟩, A620, H⟩ := H
                      replace H : ((soft_Class.f a0 x18_4 l2 a3).bind fun bt313 => (if true = true then (if t310 = 0 then (if bt313.2 = 0 then ((thrumref02_Same.f t291 t309).bind fun t315 => (if t315 = true then (some (t295 == bt313.1)) else (some false))) else (some false)) else (some false)) else (some false))) = some r := H
                      have A62 := Aside0.mk A620
                      clear A620
                      replace H := Option.bind_eq_some_iff.mp H
                      obtain ⟨⟨t313, t314⟩, A630, H⟩ := H
                      replace H : (if true = true then (if t310 = 0 then (if t314 = 0 then ((thrumref02_Same.f t291 t309).bind fun t315 => (if t315 = true then (some (t295 == t313)) else (some false))) else (some false)) else (some false)) else (some false)) = some r := H
                      have A63 := Aside0.mk A630
                      clear A630
                      first | rw [if_pos rfl] at H | rw [if_pos trivial] at H
                      by_cases c64 : t310 = 0
                      ·
                       rw [if_pos c64] at H
                       have c64b0 : (t310 == 0) = true := beq_iff_eq.mpr c64
                       have c64b1 : (t310 != 0) = false := bne_eq_false_iff_eq.mpr c64
                       clear c64
                       by_cases c65 : t314 = 0
                       ·
                        rw [if_pos c65] at H
                        have c65b0 : (t314 == 0) = true := beq_iff_eq.mpr c65
                        have c65b1 : (t314 != 0) = false := bne_eq_false_iff_eq.mpr c65
                        clear c65
                        replace H := Option.bind_eq_some_iff.mp H
                        obtain ⟨t315, A660, H⟩ := H
                        replace H : (if t315 = true then (some (t295 == t313)) else (some false)) = some r := H
                        have A66 := Aside0.mk A660
                        clear A660
                        by_cases c67 : t315 = true
                        ·
                         subst c67
                         have H1 : (some (t295 == t313)) = some r := by rw [if_pos rfl] at H; exact H
                         clear H
                         have H := H1
                         clear H1
                         obtain rfl := Option.some.inj H
                         go_wp2_with (first | ((with_reducible refine gate_callee (f := 83) rfl ?_); refine goesL_ (some 178) rfl rfl Try.func83 (by kernel_rfl) rfl #[.int .i64 a0, .slice Ao51 x18_4.length co51, .slice A2 l2.length c2, .int .i64 a3] rfl (by (try simp only [List.map_toArray, List.map_cons, List.map_nil]); first | done | rfl | (simp only [List.length_drop, List.length_take]; rfl)) ?_; (with_reducible refine (soft_Tell.calls a0 _ _ x18_4 _ _ l2 a3 t309 t310 _ ?side1 ?side2 ?side3 ?side4 A62.out).mono ?_); (case side1 => repeat (first | exact (Kd.R_reads' HO_18.out).2.2 | (with_reducible refine ccA ?_ _) | (with_reducible refine ccN ?_ _) | (with_reducible refine ccD ?_))); (case side2 => exact (Kd.R_reads' HO_18.out).2.1); (case side3 => repeat (first | exact (Kd.V_reads' HO_2.out).2.2 | (with_reducible refine ccA ?_ _) | (with_reducible refine ccN ?_ _) | (with_reducible refine ccD ?_))); (case side4 => exact (Kd.V_reads' HO_2.out).2.1); rintro e w68 ⟨v311, rfl, ho0, hb⟩; refine ⟨_, rfl, ?_⟩; have n0_ := Aside0.mk (Kd.V_elder' (by (with_reducible repeat (first | apply Kd.V_alloc | apply Kd.V_drewN | apply Kd.V_drew)); exact HO_2.out) (Kd.R_base ho0) hb); have n1_ := Aside0.mk (Kd.R_elder' (by (with_reducible repeat (first | apply rrA | apply rrN | apply rrD)); exact HO_12.out) (Kd.R_base ho0) hb); have n2_ := Aside0.mk (Kd.R_elder' (by (with_reducible repeat (first | apply rrA | apply rrN | apply rrD)); exact HO_18.out) (Kd.R_base ho0) hb); have n3_ := Aside0.mk (Kd.V_elder' (by (with_reducible repeat (first | apply Kd.V_alloc | apply Kd.V_drewN | apply Kd.V_drew)); exact HO_159.out) (Kd.R_base ho0) hb); have n4_ := Aside0.mk (Kd.R_lower (Kd.R_new' (Kd.R_new' (Kd.R_newM (M := fun k_ => (w.heap.size ≤ k_)) ho0 (zzS (by repeat (first | (with_reducible first | exact HB.out | apply zzA | apply zzN | apply zzD) | exact HB.out))) (fun k_ h_ => h_)) (Kd.R_lt (by (with_reducible repeat (first | apply rrA | apply rrN | apply rrD)); exact HO_12.out))) (Kd.R_lt (by (with_reducible repeat (first | apply rrA | apply rrN | apply rrD)); exact HO_18.out))) (zzS (by repeat (first | (with_reducible first | exact HB.out | apply zzA | apply zzN | apply zzD) | exact HB.out)))); have n5_ := Aside0.mk (zzT (by repeat (first | (with_reducible first | exact HB.out | apply zzA | apply zzN | apply zzD) | exact HB.out)) hb); clear HO_2; clear HO_12; clear HO_18; clear HO_159; clear HB; have HO_2 := n0_; have HO_12 := n1_; have HO_18 := n2_; have HO_159 := n3_; have HO312 := n4_; have HB := n5_; clear n0_ n1_ n2_ n3_ n4_ n5_; (try clear hb); (try clear hb2); (try clear hk); (try clear hi); (try clear ho0)) | ((with_reducible refine gate_callee (f := 85) rfl ?_); refine goesL_ (some 186) rfl rfl Try.func85 (by kernel_rfl) rfl #[.int .i64 a0, .slice Ao51 x18_4.length co51, .slice A2 l2.length c2, .int .i64 a3] rfl (by (try simp only [List.map_toArray, List.map_cons, List.map_nil]); first | done | rfl | (simp only [List.length_drop, List.length_take]; rfl)) ?_; (with_reducible refine (soft_Class.calls a0 _ _ x18_4 _ _ l2 a3 t313 t314 _ ?side1 ?side2 ?side3 ?side4 A63.out).mono ?_); (case side1 => repeat (first | exact (Kd.R_reads' HO_18.out).2.2 | (with_reducible refine ccA ?_ _) | (with_reducible refine ccN ?_ _) | (with_reducible refine ccD ?_))); (case side2 => exact (Kd.R_reads' HO_18.out).2.1); (case side3 => repeat (first | exact (Kd.V_reads' HO_2.out).2.2 | (with_reducible refine ccA ?_ _) | (with_reducible refine ccN ?_ _) | (with_reducible refine ccD ?_))); (case side4 => exact (Kd.V_reads' HO_2.out).2.1); rintro e w69 ⟨rfl, hb⟩; refine ⟨_, rfl, ?_⟩; have n0_ := Aside0.mk (Kd.V_below (by (with_reducible repeat (first | apply Kd.V_alloc | apply Kd.V_drewN | apply Kd.V_drew)); exact HO_2.out) hb); have n1_ := Aside0.mk (Kd.R_below (by (with_reducible repeat (first | apply rrA | apply rrN | apply rrD)); exact HO_12.out) hb); have n2_ := Aside0.mk (Kd.R_below (by (with_reducible repeat (first | apply rrA | apply rrN | apply rrD)); exact HO_18.out) hb); have n3_ := Aside0.mk (Kd.V_below (by (with_reducible repeat (first | apply Kd.V_alloc | apply Kd.V_drewN | apply Kd.V_drew)); exact HO_159.out) hb); have n4_ := Aside0.mk (Kd.R_below (by (with_reducible repeat (first | apply rrA | apply rrN | apply rrD)); exact HO312.out) hb); have n5_ := Aside0.mk (zzT (by repeat (first | (with_reducible first | exact HB.out | apply zzA | apply zzN | apply zzD) | exact HB.out)) hb); clear HO_2; clear HO_12; clear HO_18; clear HO_159; clear HO312; clear HB; have HO_2 := n0_; have HO_12 := n1_; have HO_18 := n2_; have HO_159 := n3_; have HO312 := n4_; have HB := n5_; clear n0_ n1_ n2_ n3_ n4_ n5_; (try clear hb); (try clear hb2); (try clear hk); (try clear hi); obtain ⟨Ao70, co70, eo70⟩ := Kd.R_slice HO312.out; subst eo70) | (go_at_call 44; (with_reducible refine (thrumref02_Same.calls _ _ t291 _ _ t309 true _ ?side1 ?side2 ?side3 ?side4 A66.out).mono ?_); (case side1 => repeat (first | exact (Kd.R_reads' HO_12.out).2.2 | (with_reducible refine ccA ?_ _) | (with_reducible refine ccN ?_ _) | (with_reducible refine ccD ?_))); (case side2 => exact (Kd.R_reads' HO_12.out).2.1); (case side3 => repeat (first | exact (Kd.R_reads' HO312.out).2.2 | (with_reducible refine ccA ?_ _) | (with_reducible refine ccN ?_ _) | (with_reducible refine ccD ?_))); (case side4 => exact (Kd.R_reads' HO312.out).2.1); rintro e w' ⟨rfl, ⟨nd, rfl⟩⟩))
                         go_ret
                         exact ⟨by first | rfl | (simp [errW_none, errW_some] <;> rfl) | (simp [*, errW_none, errW_some] <;> rfl), by repeat (first | (with_reducible first | exact HB.out | apply zzA | apply zzN | apply zzD) | exact HB.out)⟩
                        ·
                         replace c67 := Bool.eq_false_iff.mpr c67
                         subst c67
                         have H1 : (some false) = some r := by rw [if_neg (show ¬ (false = true) by decide)] at H; exact H
                         exact absurd (Option.some.inj H1) (by rw [HR_.out]; decide)
                       ·
                        rw [if_neg c65] at H
                        exact absurd (Option.some.inj H) (by rw [HR_.out]; decide)
                      ·
                       rw [if_neg c64] at H
                       exact absurd (Option.some.inj H) (by rw [HR_.out]; decide)
            ·
             rw [if_neg c39] at H
             exact absurd H (by simp)
  ·
   replace c9 := Bool.eq_false_iff.mpr c9
   subst c9
   have H1 : (some true) = some r := by rw [if_neg (show ¬ (false = true) by decide)] at H; exact H
   clear H
   have H := H1
   clear H1
   obtain rfl := Option.some.inj H
   go_enter Try.func25, Try.ntmps25
   go_wp2_with (first | ((with_reducible refine gate_callee (f := 79) rfl ?_); refine goesL_ (some 27) rfl rfl Try.func79 (by kernel_rfl) rfl #[] rfl (by (try simp only [List.map_toArray, List.map_cons, List.map_nil]); first | done | rfl | (simp only [List.length_drop, List.length_take]; rfl)) ?_; (with_reducible refine (thrumlaw15_live.calls  true _ A6.out).mono ?_); rintro e w78 ⟨rfl, hb⟩; refine ⟨_, rfl, ?_⟩; have n0_ := Aside0.mk (Kd.V_below (by (with_reducible repeat (first | apply Kd.V_alloc | apply Kd.V_drewN | apply Kd.V_drew)); exact HO2.out) hb); have n1_ := Aside0.mk (zzT (by repeat (first | (with_reducible first | exact HB.out | apply zzA | apply zzN | apply zzD) | exact HB.out)) hb); clear HO2; clear HB; have HO2 := n0_; have HB := n1_; clear n0_ n1_; (try clear hb); (try clear hb2); (try clear hk); (try clear hi)) | ((with_reducible refine gate_dst (N := 33) rfl ?_); refine Kd.N_lit k26 _ 26 ?hg (N' := 33) ?hd (xs := ([(⟨l2, 0⟩ : S26)] : List (S26))) (inner := [.slice A2 l2.length c2, .int .i64 0]) (ok := (fun k_ => (P2_ k_ ∨ w.heap.size ≤ k_))) (okp := (fun k_ => (P2_ k_ ∨ w.heap.size ≤ k_))) ?hr ?hp (fun _ hk => hk) ((show ∀ k_, w78.heap.size ≤ k_ → (fun k_ => (P2_ k_ ∨ w.heap.size ≤ k_)) k_ from fun k_ hk => (.inr (Nat.le_trans (zzS (by repeat (first | (with_reducible first | exact HB.out | apply zzA | apply zzN | apply zzD) | exact HB.out))) hk))) _ (Nat.le_refl _)) (Below.refl _ _) (Nat.le_refl _) (by simp) ?_; (case hd => rfl); (case hg => rfl); (case hr => first | (go_simp; done) | (go_simp; rfl)); (case hp => exact (Reps.c2 (show Kd.FK k26 _ _ (⟨l2, 0⟩ : S26) [.slice A2 l2.length c2, .int .i64 0] from (k26_mkF _ _ (⟨l2, 0⟩ : S26) (Kd.V_reads' (Kd.V_mono (ok' := (fun k_ => (P2_ k_ ∨ w.heap.size ≤ k_))) (HO2.out) (fun k_ hk => hk))).2.1 (Kd.V_F (Kd.V_mono (ok' := (fun k_ => (P2_ k_ ∨ w.heap.size ≤ k_))) (HO2.out) (fun k_ hk => hk))))) (Reps.none _ _))); intro v288 w79 ho80 hb hg_ hnew_; clear hg_ hnew_; (first | rw [← Ny287.out] at ho80 | (simp only [Int.reduceToNat] at ho80; rw [← Ny287.out] at ho80)); have n0_ := Aside0.mk (Kd.V_elder' (by (with_reducible repeat (first | apply Kd.V_alloc | apply Kd.V_drewN | apply Kd.V_drew)); exact HO2.out) (Kd.N_base ho80) hb); have n1_ := Aside0.mk (Kd.N_lower ho80 (zzS (by repeat (first | (with_reducible first | exact HB.out | apply zzA | apply zzN | apply zzD) | exact HB.out)))); have n2_ := Aside0.mk (zzT (by repeat (first | (with_reducible first | exact HB.out | apply zzA | apply zzN | apply zzD) | exact HB.out)) hb); clear HO2; clear HB; have HO2 := n0_; have HO289 := n1_; have HB := n2_; clear n0_ n1_ n2_; clear hb ho80; obtain ⟨Ao81, co81, eo81⟩ := Kd.N_slice HO289.out; subst eo81) | ((with_reducible refine gate_callee (f := 30) rfl ?_); refine goesL_ (some 34) rfl rfl Try.func30 (by kernel_rfl) rfl #[.slice A1 l1.length c1, .slice Ao81 y287.length co81] rfl (by (try simp only [List.map_toArray, List.map_cons, List.map_nil]); first | done | rfl | (simp only [List.length_drop, List.length_take]; rfl)) ?_; (with_reducible refine (thrumref14_Few.calls _ _ l1 _ _ y287 false _ ?side1 ?side2 ?side3 ?side4 A8.out).mono ?_); (case side1 => repeat (first | exact (Kd.C_below HR1.out HB.out) | (with_reducible refine ccA ?_ _) | (with_reducible refine ccN ?_ _) | (with_reducible refine ccD ?_))); (case side2 => exact HC1.out); (case side3 => repeat (first | exact (Kd.N_reads' HO289.out).2.2 | (with_reducible refine ccA ?_ _) | (with_reducible refine ccN ?_ _) | (with_reducible refine ccD ?_))); (case side4 => exact (Kd.N_reads' HO289.out).2.1); rintro e w82 ⟨rfl, hb⟩; refine ⟨_, rfl, ?_⟩; have n0_ := Aside0.mk (Kd.V_below (by (with_reducible repeat (first | apply Kd.V_alloc | apply Kd.V_drewN | apply Kd.V_drew)); exact HO2.out) hb); have n1_ := Aside0.mk (Kd.N_below (by (with_reducible repeat (first | apply Kd.N_alloc | apply Kd.N_drewN | apply Kd.N_drew)); exact HO289.out) hb); have n2_ := Aside0.mk (zzT (by repeat (first | (with_reducible first | exact HB.out | apply zzA | apply zzN | apply zzD) | exact HB.out)) hb); clear HO2; clear HO289; clear HB; have HO2 := n0_; have HO289 := n1_; have HB := n2_; clear n0_ n1_ n2_; (try clear hb); (try clear hb2); (try clear hk); (try clear hi)))
   go_ret
   exact ⟨by first | rfl | (simp [errW_none, errW_some] <;> rfl) | (simp [*, errW_none, errW_some] <;> rfl), by repeat (first | (with_reducible first | exact HB.out | apply zzA | apply zzN | apply zzD) | exact HB.out)⟩
 ·
  replace c7 := Bool.eq_false_iff.mpr c7
  subst c7
  have H1 : (some false) = some r := by rw [if_neg (show ¬ (false = true) by decide)] at H; exact H
  exact absurd (Option.some.inj H1) (by rw [HR_.out]; decide)

/-- THE ONE PURE STATEMENT of thrumlaw15_SoftClass: yours. -/
def thrumlaw15_SoftClass.Pure : Prop := ∀ (a0 : Int) (l1 : List Int) (l2 : List Int) (a3 : Int) (a4 : Int), (Lit.int .i64 a0).wf = true → l1.length ≤ maxLen → l1.length * 8 ≤ 140737488351232 → (∀ x ∈ l1, (Lit.int .i64 x).wf = true) → l2.length ≤ maxLen → l2.length * 8 ≤ 140737488351232 → (∀ x ∈ l2, (Lit.int .i64 x).wf = true) → (Lit.int .i64 a3).wf = true → (Lit.int .i64 a4).wf = true → ∃ k, thrumlaw15_SoftClass.f k a0 l1 l2 a3 a4 = some true
theorem thrumlaw15_SoftClass.walk (P : thrumlaw15_SoftClass.Pure) (a0 : Int) (a1 : Option Addr) (len1 cap1 : Nat) (z1 : List Int) (a2 : Option Addr) (len2 cap2 : Nat) (z2 : List Int) (a3 : Int) (a4 : Int) (w : World) (w0 : (Lit.int .i64 a0).wf = true) (w1 : (a1 = none ∧ len1 = 0 ∧ cap1 = 0 ∧ z1 = []) ∨ ∃ x, a1 = some x ∧ len1 ≤ cap1 ∧ cap1 ≤ maxLen ∧ z1.length = cap1 ∧ (∀ i, i < z1.length → w.cell? (x.add i) = some (.int .i64 (z1.getD i 0))) ∧ ∀ n ∈ z1, (Lit.int .i64 n).wf = true) (y1 : len1 * 8 ≤ 140737488351232) (w2 : (a2 = none ∧ len2 = 0 ∧ cap2 = 0 ∧ z2 = []) ∨ ∃ x, a2 = some x ∧ len2 ≤ cap2 ∧ cap2 ≤ maxLen ∧ z2.length = cap2 ∧ (∀ i, i < z2.length → w.cell? (x.add i) = some (.int .i64 (z2.getD i 0))) ∧ ∀ n ∈ z2, (Lit.int .i64 n).wf = true) (y2 : len2 * 8 ≤ 140737488351232) (w3 : (Lit.int .i64 a3).wf = true) (w4 : (Lit.int .i64 a4).wf = true) :
  Calls Try.prog 25 #[.int .i64 a0, .slice a1 len1 cap1, .slice a2 len2 cap2, .int .i64 a3, .int .i64 a4] w fun e w' => e = .returned (.bool true) ∧ Below w.heap.size w w' := by
 obtain ⟨l1, rfl, hr1, hm1, hw1, hc1⟩ := ReadsInt.ofRowC w1
 obtain ⟨l2, rfl, hr2, hm2, hw2, hc2⟩ := ReadsInt.ofRowC w2
 obtain ⟨k, h⟩ := P a0 l1 l2 a3 a4 w0 hm1 y1 hw1 hm2 y2 hw2 w3 w4
 refine (thrumlaw15_SoftClass.calls k a0 _ _ l1 (fun k_ => k_ < w.heap.size) _ _ l2 a3 a4 true w (Kd.C_of_reads (d := (0 : Int)) (h1 := fun _ => rfl) hr1) hc1 (Kd.V_mk hc2 (Kd.C_F (Kd.heap_int _) (Kd.C_of_reads (d := (0 : Int)) (h1 := fun _ => rfl) hr2))) h rfl).mono ?_
 rintro e w' ⟨rfl, hd⟩
 exact ⟨rfl, hd⟩



















































































































































































































































































































































































































































































































































end Go.Proofs.Ytfbdalnjijdknaa.HS
