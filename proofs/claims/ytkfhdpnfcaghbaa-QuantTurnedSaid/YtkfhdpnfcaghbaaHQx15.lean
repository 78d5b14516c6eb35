/- What Go functions do, each as a plain Lean function with the same answers, and the proof of it, in every world: printed by the session's driver over the kit's print, with texts by hand. -/
import Derived.Test.YtkfhdpnfcaghbaaHQx0
import Derived.Test.YtkfhdpnfcaghbaaHQx6
import Derived.Test.YtkfhdpnfcaghbaaHQx13
import Derived.Test.YtkfhdpnfcaghbaaHQx14
namespace Go.Proofs.Ytkfhdpnfcaghbaa.HQ
open Go.RowKit Go.Proofs.YtkfhdpnfcaghbaaW.PrintWords Go.Proofs.YtkfhdpnfcaghbaaW.PrintLast Go.Proofs.YtkfhdpnfcaghbaaW.PrintMore
attribute [local go_sem] max2_int min2_int max_two min_two max_three min_three max_four min_four   -- for this text's walks alone
open Go.Proofs.Ytkfhdpnfcaghbaa.Sp
attribute [local go_sem] Go.Proofs.Ytkfhdpnfcaghbaa.Sp.u64_not
set_option linter.unusedVariables false
set_option linter.unusedSimpArgs false

/-! ### thrumlaw10_QuantTurned: function 8 -/
mutual
def thrumlaw10_QuantTurned.j0 : Nat → List Int → Int → Int → List Int → Bool → Bool → Option (Bool)
 | 0, _, _, _, _, _, _ => none
 | k + 1, x0, x1, x2, x3, x9, x32 => if x32 = true then (some x9) else ((quant_Press.f k x0 x1 x2 x3).bind fun bt201 => (thrumlaw10_QuantTurned.l0 k x0 x1 x2 x3 x9 bt201.2.2.2.2.2.2.2.2 ([] : List Int) x0 (x0.length : Int) 0 bt201.1 bt201.2.1 bt201.2.2.1 bt201.2.2.2.1 bt201.2.2.2.2.1 bt201.2.2.2.2.2.1 bt201.2.2.2.2.2.2.1 bt201.2.2.2.2.2.2.2.1))
def thrumlaw10_QuantTurned.l0 : Nat → List Int → Int → Int → List Int → Bool → Int → List Int → List Int → Int → Int → Int → Int → List Int → List Int → Int → Int → List Int → List Bool → Option (Bool)
 | 0, _, _, _, _, _, _, _, _, _, _, _, _, _, _, _, _, _, _ => none
 | k + 1, x0, x1, x2, x3, x9, x11, x12, x42, x43, x44, x219000, x219001, x219002, x219003, x219004, x219005, x219006, x219007 => if x44 < x43 then (if 0 ≤ x44 then (if x44 < (x42.length : Int) then (if x12.length < 17592186044416 then (thrumlaw10_QuantTurned.l0 k x0 x1 x2 x3 x9 x11 (x12 ++ [wrap64 (-(rd x42 x44))]) x42 x43 (wrap64 (x44 + 1)) x219000 x219001 x219002 x219003 x219004 x219005 x219006 x219007) else (none)) else (none)) else (none)) else ((quant_Press.f k x12 x1 x2 x3).bind fun bt223 => (if ([] : List Int).length + x0.length < 17592186044416 then ((some (([] : List Int) ++ x0 : List Int)).bind fun y241 => (if y241.length + x12.length < 17592186044416 then ((quant_Press.f k (y241 ++ x12) x1 x2 x3).bind fun bt247 => (if x11 = bt223.2.2.2.2.2.2.2.2 then (thrumlaw10_QuantTurned.j2 k x0 x9 x11 (x11 != bt247.2.2.2.2.2.2.2.2) x219000 x219001 x219002 x219003 x219004 x219005 x219006 x219007 bt223.1 bt223.2.1 bt223.2.2.1 bt223.2.2.2.1 bt223.2.2.2.2.1 bt223.2.2.2.2.2.1 bt223.2.2.2.2.2.2.1 bt223.2.2.2.2.2.2.2.1 bt247.1 bt247.2.1 bt247.2.2.1 bt247.2.2.2.1 bt247.2.2.2.2.1 bt247.2.2.2.2.2.1 bt247.2.2.2.2.2.2.1 bt247.2.2.2.2.2.2.2.1) else (thrumlaw10_QuantTurned.j2 k x0 x9 x11 true x219000 x219001 x219002 x219003 x219004 x219005 x219006 x219007 bt223.1 bt223.2.1 bt223.2.2.1 bt223.2.2.2.1 bt223.2.2.2.2.1 bt223.2.2.2.2.2.1 bt223.2.2.2.2.2.2.1 bt223.2.2.2.2.2.2.2.1 bt247.1 bt247.2.1 bt247.2.2.1 bt247.2.2.2.1 bt247.2.2.2.2.1 bt247.2.2.2.2.2.1 bt247.2.2.2.2.2.2.1 bt247.2.2.2.2.2.2.2.1))) else (none))) else (none)))
def thrumlaw10_QuantTurned.j2 : Nat → List Int → Bool → Int → Bool → Int → Int → List Int → List Int → Int → Int → List Int → List Bool → Int → Int → List Int → List Int → Int → Int → List Int → List Bool → Int → Int → List Int → List Int → Int → Int → List Int → List Bool → Option (Bool)
 | 0, _, _, _, _, _, _, _, _, _, _, _, _, _, _, _, _, _, _, _, _, _, _, _, _, _, _, _, _ => none
 | k + 1, x0, x9, x11, x80, x219000, x219001, x219002, x219003, x219004, x219005, x219006, x219007, x241000, x241001, x241002, x241003, x241004, x241005, x241006, x241007, x265000, x265001, x265002, x265003, x265004, x265005, x265006, x265007 => if x80 = true then (some false) else (if x11 = 0 then (if x219004 = x241004 then (if x219004 = x265004 then (if (x219006.length : Int) = (x0.length : Int) then (if (x241006.length : Int) = (x0.length : Int) then (if (x265006.length : Int) = (wrap64 (2 * (x0.length : Int))) then (if (x219007.length : Int) = (x0.length : Int) then (if (x241007.length : Int) = (x0.length : Int) then (thrumlaw10_QuantTurned.j3 k x0 x9 ((x265007.length : Int) != (wrap64 (2 * (x0.length : Int)))) x219000 x219001 x219002 x219003 x219004 x219005 x219006 x219007 x241000 x241001 x241002 x241003 x241004 x241005 x241006 x241007 x265000 x265001 x265002 x265003 x265004 x265005 x265006 x265007) else (thrumlaw10_QuantTurned.j3 k x0 x9 true x219000 x219001 x219002 x219003 x219004 x219005 x219006 x219007 x241000 x241001 x241002 x241003 x241004 x241005 x241006 x241007 x265000 x265001 x265002 x265003 x265004 x265005 x265006 x265007)) else (thrumlaw10_QuantTurned.j3 k x0 x9 true x219000 x219001 x219002 x219003 x219004 x219005 x219006 x219007 x241000 x241001 x241002 x241003 x241004 x241005 x241006 x241007 x265000 x265001 x265002 x265003 x265004 x265005 x265006 x265007)) else (thrumlaw10_QuantTurned.j3 k x0 x9 true x219000 x219001 x219002 x219003 x219004 x219005 x219006 x219007 x241000 x241001 x241002 x241003 x241004 x241005 x241006 x241007 x265000 x265001 x265002 x265003 x265004 x265005 x265006 x265007)) else (thrumlaw10_QuantTurned.j3 k x0 x9 true x219000 x219001 x219002 x219003 x219004 x219005 x219006 x219007 x241000 x241001 x241002 x241003 x241004 x241005 x241006 x241007 x265000 x265001 x265002 x265003 x265004 x265005 x265006 x265007)) else (thrumlaw10_QuantTurned.j3 k x0 x9 true x219000 x219001 x219002 x219003 x219004 x219005 x219006 x219007 x241000 x241001 x241002 x241003 x241004 x241005 x241006 x241007 x265000 x265001 x265002 x265003 x265004 x265005 x265006 x265007)) else (thrumlaw10_QuantTurned.j3 k x0 x9 true x219000 x219001 x219002 x219003 x219004 x219005 x219006 x219007 x241000 x241001 x241002 x241003 x241004 x241005 x241006 x241007 x265000 x265001 x265002 x265003 x265004 x265005 x265006 x265007)) else (thrumlaw10_QuantTurned.j3 k x0 x9 true x219000 x219001 x219002 x219003 x219004 x219005 x219006 x219007 x241000 x241001 x241002 x241003 x241004 x241005 x241006 x241007 x265000 x265001 x265002 x265003 x265004 x265005 x265006 x265007)) else (some x9))
def thrumlaw10_QuantTurned.j3 : Nat → List Int → Bool → Bool → Int → Int → List Int → List Int → Int → Int → List Int → List Bool → Int → Int → List Int → List Int → Int → Int → List Int → List Bool → Int → Int → List Int → List Int → Int → Int → List Int → List Bool → Option (Bool)
 | 0, _, _, _, _, _, _, _, _, _, _, _, _, _, _, _, _, _, _, _, _, _, _, _, _, _, _, _ => none
 | k + 1, x0, x9, x145, x219000, x219001, x219002, x219003, x219004, x219005, x219006, x219007, x241000, x241001, x241002, x241003, x241004, x241005, x241006, x241007, x265000, x265001, x265002, x265003, x265004, x265005, x265006, x265007 => if x145 = true then (some false) else (thrumlaw10_QuantTurned.l1 k x9 x0 (x0.length : Int) 0 x219000 x219001 x219002 x219003 x219004 x219005 x219006 x219007 x241000 x241001 x241002 x241003 x241004 x241005 x241006 x241007 x265000 x265001 x265002 x265003 x265004 x265005 x265006 x265007)
def thrumlaw10_QuantTurned.l1 : Nat → Bool → List Int → Int → Int → Int → Int → List Int → List Int → Int → Int → List Int → List Bool → Int → Int → List Int → List Int → Int → Int → List Int → List Bool → Int → Int → List Int → List Int → Int → Int → List Int → List Bool → Option (Bool)
 | 0, _, _, _, _, _, _, _, _, _, _, _, _, _, _, _, _, _, _, _, _, _, _, _, _, _, _, _, _ => none
 | k + 1, x9, x146, x147, x148, x219000, x219001, x219002, x219003, x219004, x219005, x219006, x219007, x241000, x241001, x241002, x241003, x241004, x241005, x241006, x241007, x265000, x265001, x265002, x265003, x265004, x265005, x265006, x265007 => if x148 < x147 then (if 0 ≤ x148 then (if x148 < (x146.length : Int) then (if x148 < (x219006.length : Int) then (if x148 < (x241006.length : Int) then (if (rd x219006 x148) = (rd x241006 x148) then (if x148 < (x265006.length : Int) then (if (rd x219006 x148) = (rd x265006 x148) then (if x148 < (x219007.length : Int) then (if x148 < (x265007.length : Int) then (if ((rdOf false x219007 x148) != (rdOf false x265007 x148)) = true then (some false) else (if (rd x146 x148) = 0 then (thrumlaw10_QuantTurned.l1 k x9 x146 x147 (wrap64 (x148 + 1)) x219000 x219001 x219002 x219003 x219004 x219005 x219006 x219007 x241000 x241001 x241002 x241003 x241004 x241005 x241006 x241007 x265000 x265001 x265002 x265003 x265004 x265005 x265006 x265007) else (if x148 < (x241007.length : Int) then (if ((rdOf false x219007 x148) == (rdOf false x241007 x148)) = true then (some false) else (thrumlaw10_QuantTurned.l1 k x9 x146 x147 (wrap64 (x148 + 1)) x219000 x219001 x219002 x219003 x219004 x219005 x219006 x219007 x241000 x241001 x241002 x241003 x241004 x241005 x241006 x241007 x265000 x265001 x265002 x265003 x265004 x265005 x265006 x265007)) else (none)))) else (none)) else (none)) else (some false)) else (none)) else (some false)) else (none)) else (none)) else (none)) else (none)) else (some x9)
end
def thrumlaw10_QuantTurned.f (k : Nat) (l0 : List Int) (a1 : Int) (a2 : Int) (l3 : List Int) : Option (Bool) := (thrumlaw10_live.f).bind fun t199 => (if t199 = true then ((thrumlaw10_few.f l0 l3).bind fun t200 => (if t200 = true then (thrumlaw10_QuantTurned.j0 k l0 a1 a2 l3 t199 (decide ((l0.length : Int) > 200))) else (thrumlaw10_QuantTurned.j0 k l0 a1 a2 l3 t199 true))) else (some false))
theorem thrumlaw10_QuantTurned.mono_l : ∀ k, (∀ y0 y1 y2 y3 y4 y5, LeO (thrumlaw10_QuantTurned.j0 k y0 y1 y2 y3 y4 y5) (thrumlaw10_QuantTurned.j0 (k + 1) y0 y1 y2 y3 y4 y5)) ∧ (∀ y0 y1 y2 y3 y4 y5 y6 y7 y8 y9 y10 y11 y12 y13 y14 y15 y16 y17, LeO (thrumlaw10_QuantTurned.l0 k y0 y1 y2 y3 y4 y5 y6 y7 y8 y9 y10 y11 y12 y13 y14 y15 y16 y17) (thrumlaw10_QuantTurned.l0 (k + 1) y0 y1 y2 y3 y4 y5 y6 y7 y8 y9 y10 y11 y12 y13 y14 y15 y16 y17)) ∧ (∀ y0 y1 y2 y3 y4 y5 y6 y7 y8 y9 y10 y11 y12 y13 y14 y15 y16 y17 y18 y19 y20 y21 y22 y23 y24 y25 y26 y27, LeO (thrumlaw10_QuantTurned.j2 k y0 y1 y2 y3 y4 y5 y6 y7 y8 y9 y10 y11 y12 y13 y14 y15 y16 y17 y18 y19 y20 y21 y22 y23 y24 y25 y26 y27) (thrumlaw10_QuantTurned.j2 (k + 1) y0 y1 y2 y3 y4 y5 y6 y7 y8 y9 y10 y11 y12 y13 y14 y15 y16 y17 y18 y19 y20 y21 y22 y23 y24 y25 y26 y27)) ∧ (∀ y0 y1 y2 y3 y4 y5 y6 y7 y8 y9 y10 y11 y12 y13 y14 y15 y16 y17 y18 y19 y20 y21 y22 y23 y24 y25 y26, LeO (thrumlaw10_QuantTurned.j3 k y0 y1 y2 y3 y4 y5 y6 y7 y8 y9 y10 y11 y12 y13 y14 y15 y16 y17 y18 y19 y20 y21 y22 y23 y24 y25 y26) (thrumlaw10_QuantTurned.j3 (k + 1) y0 y1 y2 y3 y4 y5 y6 y7 y8 y9 y10 y11 y12 y13 y14 y15 y16 y17 y18 y19 y20 y21 y22 y23 y24 y25 y26)) ∧ (∀ y0 y1 y2 y3 y4 y5 y6 y7 y8 y9 y10 y11 y12 y13 y14 y15 y16 y17 y18 y19 y20 y21 y22 y23 y24 y25 y26 y27, LeO (thrumlaw10_QuantTurned.l1 k y0 y1 y2 y3 y4 y5 y6 y7 y8 y9 y10 y11 y12 y13 y14 y15 y16 y17 y18 y19 y20 y21 y22 y23 y24 y25 y26 y27) (thrumlaw10_QuantTurned.l1 (k + 1) y0 y1 y2 y3 y4 y5 y6 y7 y8 y9 y10 y11 y12 y13 y14 y15 y16 y17 y18 y19 y20 y21 y22 y23 y24 y25 y26 y27))
 | 0 => ⟨fun _ _ _ _ _ _ r h => by simp [thrumlaw10_QuantTurned.j0] at h, fun _ _ _ _ _ _ _ _ _ _ _ _ _ _ _ _ _ _ r h => by simp [thrumlaw10_QuantTurned.l0] at h, fun _ _ _ _ _ _ _ _ _ _ _ _ _ _ _ _ _ _ _ _ _ _ _ _ _ _ _ _ r h => by simp [thrumlaw10_QuantTurned.j2] at h, fun _ _ _ _ _ _ _ _ _ _ _ _ _ _ _ _ _ _ _ _ _ _ _ _ _ _ _ r h => by simp [thrumlaw10_QuantTurned.j3] at h, fun _ _ _ _ _ _ _ _ _ _ _ _ _ _ _ _ _ _ _ _ _ _ _ _ _ _ _ _ r h => by simp [thrumlaw10_QuantTurned.l1] at h⟩
 | k + 1 => by
  obtain ⟨ih0, ih1, ih2, ih3, ih4⟩ := thrumlaw10_QuantTurned.mono_l k
  refine ⟨?_, ?_, ?_, ?_, ?_⟩
  ·
   intro y0 y1 y2 y3 y4 y5
   unfold thrumlaw10_QuantTurned.j0
   repeat' first
   | (with_reducible exact ih0 _ _ _ _ _ _)
   | (with_reducible exact ih1 _ _ _ _ _ _ _ _ _ _ _ _ _ _ _ _ _ _)
   | (with_reducible exact ih2 _ _ _ _ _ _ _ _ _ _ _ _ _ _ _ _ _ _ _ _ _ _ _ _ _ _ _ _)
   | (with_reducible exact ih3 _ _ _ _ _ _ _ _ _ _ _ _ _ _ _ _ _ _ _ _ _ _ _ _ _ _ _)
   | (with_reducible exact ih4 _ _ _ _ _ _ _ _ _ _ _ _ _ _ _ _ _ _ _ _ _ _ _ _ _ _ _ _)
   | (with_reducible exact quant_Press.mono _ _ _ _ _)
   | (with_reducible exact LeO.refl _)
   | (with_reducible exact LeO.none _)
   | (with_reducible refine LeO.ite ?_ ?_)
   | (with_reducible refine LeO.bind ?_ (fun _ => ?_))
   | exact ih0 _ _ _ _ _ _
   | exact ih1 _ _ _ _ _ _ _ _ _ _ _ _ _ _ _ _ _ _
   | exact ih2 _ _ _ _ _ _ _ _ _ _ _ _ _ _ _ _ _ _ _ _ _ _ _ _ _ _ _ _
   | exact ih3 _ _ _ _ _ _ _ _ _ _ _ _ _ _ _ _ _ _ _ _ _ _ _ _ _ _ _
   | exact ih4 _ _ _ _ _ _ _ _ _ _ _ _ _ _ _ _ _ _ _ _ _ _ _ _ _ _ _ _
   | exact quant_Press.mono _ _ _ _ _
   | exact LeO.none _
   | refine LeO.ite ?_ ?_
   | refine LeO.bind ?_ (fun _ => ?_)
  ·
   intro y0 y1 y2 y3 y4 y5 y6 y7 y8 y9 y10 y11 y12 y13 y14 y15 y16 y17
   unfold thrumlaw10_QuantTurned.l0
   repeat' first
   | (with_reducible exact ih0 _ _ _ _ _ _)
   | (with_reducible exact ih1 _ _ _ _ _ _ _ _ _ _ _ _ _ _ _ _ _ _)
   | (with_reducible exact ih2 _ _ _ _ _ _ _ _ _ _ _ _ _ _ _ _ _ _ _ _ _ _ _ _ _ _ _ _)
   | (with_reducible exact ih3 _ _ _ _ _ _ _ _ _ _ _ _ _ _ _ _ _ _ _ _ _ _ _ _ _ _ _)
   | (with_reducible exact ih4 _ _ _ _ _ _ _ _ _ _ _ _ _ _ _ _ _ _ _ _ _ _ _ _ _ _ _ _)
   | (with_reducible exact quant_Press.mono _ _ _ _ _)
   | (with_reducible exact LeO.refl _)
   | (with_reducible exact LeO.none _)
   | (with_reducible refine LeO.ite ?_ ?_)
   | (with_reducible refine LeO.bind ?_ (fun _ => ?_))
   | exact ih0 _ _ _ _ _ _
   | exact ih1 _ _ _ _ _ _ _ _ _ _ _ _ _ _ _ _ _ _
   | exact ih2 _ _ _ _ _ _ _ _ _ _ _ _ _ _ _ _ _ _ _ _ _ _ _ _ _ _ _ _
   | exact ih3 _ _ _ _ _ _ _ _ _ _ _ _ _ _ _ _ _ _ _ _ _ _ _ _ _ _ _
   | exact ih4 _ _ _ _ _ _ _ _ _ _ _ _ _ _ _ _ _ _ _ _ _ _ _ _ _ _ _ _
   | exact quant_Press.mono _ _ _ _ _
   | exact LeO.none _
   | refine LeO.ite ?_ ?_
   | refine LeO.bind ?_ (fun _ => ?_)
  ·
   intro y0 y1 y2 y3 y4 y5 y6 y7 y8 y9 y10 y11 y12 y13 y14 y15 y16 y17 y18 y19 y20 y21 y22 y23 y24 y25 y26 y27
   unfold thrumlaw10_QuantTurned.j2
   repeat' first
   | (with_reducible exact ih0 _ _ _ _ _ _)
   | (with_reducible exact ih1 _ _ _ _ _ _ _ _ _ _ _ _ _ _ _ _ _ _)
   | (with_reducible exact ih2 _ _ _ _ _ _ _ _ _ _ _ _ _ _ _ _ _ _ _ _ _ _ _ _ _ _ _ _)
   | (with_reducible exact ih3 _ _ _ _ _ _ _ _ _ _ _ _ _ _ _ _ _ _ _ _ _ _ _ _ _ _ _)
   | (with_reducible exact ih4 _ _ _ _ _ _ _ _ _ _ _ _ _ _ _ _ _ _ _ _ _ _ _ _ _ _ _ _)
   | (with_reducible exact quant_Press.mono _ _ _ _ _)
   | (with_reducible exact LeO.refl _)
   | (with_reducible exact LeO.none _)
   | (with_reducible refine LeO.ite ?_ ?_)
   | (with_reducible refine LeO.bind ?_ (fun _ => ?_))
   | exact ih0 _ _ _ _ _ _
   | exact ih1 _ _ _ _ _ _ _ _ _ _ _ _ _ _ _ _ _ _
   | exact ih2 _ _ _ _ _ _ _ _ _ _ _ _ _ _ _ _ _ _ _ _ _ _ _ _ _ _ _ _
   | exact ih3 _ _ _ _ _ _ _ _ _ _ _ _ _ _ _ _ _ _ _ _ _ _ _ _ _ _ _
   | exact ih4 _ _ _ _ _ _ _ _ _ _ _ _ _ _ _ _ _ _ _ _ _ _ _ _ _ _ _ _
   | exact quant_Press.mono _ _ _ _ _
   | exact LeO.none _
   | refine LeO.ite ?_ ?_
   | refine LeO.bind ?_ (fun _ => ?_)
  ·
   intro y0 y1 y2 y3 y4 y5 y6 y7 y8 y9 y10 y11 y12 y13 y14 y15 y16 y17 y18 y19 y20 y21 y22 y23 y24 y25 y26
   unfold thrumlaw10_QuantTurned.j3
   repeat' first
   | (with_reducible exact ih0 _ _ _ _ _ _)
   | (with_reducible exact ih1 _ _ _ _ _ _ _ _ _ _ _ _ _ _ _ _ _ _)
   | (with_reducible exact ih2 _ _ _ _ _ _ _ _ _ _ _ _ _ _ _ _ _ _ _ _ _ _ _ _ _ _ _ _)
   | (with_reducible exact ih3 _ _ _ _ _ _ _ _ _ _ _ _ _ _ _ _ _ _ _ _ _ _ _ _ _ _ _)
   | (with_reducible exact ih4 _ _ _ _ _ _ _ _ _ _ _ _ _ _ _ _ _ _ _ _ _ _ _ _ _ _ _ _)
   | (with_reducible exact quant_Press.mono _ _ _ _ _)
   | (with_reducible exact LeO.refl _)
   | (with_reducible exact LeO.none _)
   | (with_reducible refine LeO.ite ?_ ?_)
   | (with_reducible refine LeO.bind ?_ (fun _ => ?_))
   | exact ih0 _ _ _ _ _ _
   | exact ih1 _ _ _ _ _ _ _ _ _ _ _ _ _ _ _ _ _ _
   | exact ih2 _ _ _ _ _ _ _ _ _ _ _ _ _ _ _ _ _ _ _ _ _ _ _ _ _ _ _ _
   | exact ih3 _ _ _ _ _ _ _ _ _ _ _ _ _ _ _ _ _ _ _ _ _ _ _ _ _ _ _
   | exact ih4 _ _ _ _ _ _ _ _ _ _ _ _ _ _ _ _ _ _ _ _ _ _ _ _ _ _ _ _
   | exact quant_Press.mono _ _ _ _ _
   | exact LeO.none _
   | refine LeO.ite ?_ ?_
   | refine LeO.bind ?_ (fun _ => ?_)
  ·
   intro y0 y1 y2 y3 y4 y5 y6 y7 y8 y9 y10 y11 y12 y13 y14 y15 y16 y17 y18 y19 y20 y21 y22 y23 y24 y25 y26 y27
   unfold thrumlaw10_QuantTurned.l1
   repeat' first
   | (with_reducible exact ih0 _ _ _ _ _ _)
   | (with_reducible exact ih1 _ _ _ _ _ _ _ _ _ _ _ _ _ _ _ _ _ _)
   | (with_reducible exact ih2 _ _ _ _ _ _ _ _ _ _ _ _ _ _ _ _ _ _ _ _ _ _ _ _ _ _ _ _)
   | (with_reducible exact ih3 _ _ _ _ _ _ _ _ _ _ _ _ _ _ _ _ _ _ _ _ _ _ _ _ _ _ _)
   | (with_reducible exact ih4 _ _ _ _ _ _ _ _ _ _ _ _ _ _ _ _ _ _ _ _ _ _ _ _ _ _ _ _)
   | (with_reducible exact quant_Press.mono _ _ _ _ _)
   | (with_reducible exact LeO.refl _)
   | (with_reducible exact LeO.none _)
   | (with_reducible refine LeO.ite ?_ ?_)
   | (with_reducible refine LeO.bind ?_ (fun _ => ?_))
   | exact ih0 _ _ _ _ _ _
   | exact ih1 _ _ _ _ _ _ _ _ _ _ _ _ _ _ _ _ _ _
   | exact ih2 _ _ _ _ _ _ _ _ _ _ _ _ _ _ _ _ _ _ _ _ _ _ _ _ _ _ _ _
   | exact ih3 _ _ _ _ _ _ _ _ _ _ _ _ _ _ _ _ _ _ _ _ _ _ _ _ _ _ _
   | exact ih4 _ _ _ _ _ _ _ _ _ _ _ _ _ _ _ _ _ _ _ _ _ _ _ _ _ _ _ _
   | exact quant_Press.mono _ _ _ _ _
   | exact LeO.none _
   | refine LeO.ite ?_ ?_
   | refine LeO.bind ?_ (fun _ => ?_)
theorem thrumlaw10_QuantTurned.mono : ∀ a0 a1 a2 a3 k, LeO (thrumlaw10_QuantTurned.f k a0 a1 a2 a3) (thrumlaw10_QuantTurned.f (k + 1) a0 a1 a2 a3) := by
 intro a0 a1 a2 a3 k
 obtain ⟨ih0, ih1, ih2, ih3, ih4⟩ := thrumlaw10_QuantTurned.mono_l k
 unfold thrumlaw10_QuantTurned.f
 repeat' first
   | (with_reducible exact ih0 _ _ _ _ _ _)
   | (with_reducible exact ih1 _ _ _ _ _ _ _ _ _ _ _ _ _ _ _ _ _ _)
   | (with_reducible exact ih2 _ _ _ _ _ _ _ _ _ _ _ _ _ _ _ _ _ _ _ _ _ _ _ _ _ _ _ _)
   | (with_reducible exact ih3 _ _ _ _ _ _ _ _ _ _ _ _ _ _ _ _ _ _ _ _ _ _ _ _ _ _ _)
   | (with_reducible exact ih4 _ _ _ _ _ _ _ _ _ _ _ _ _ _ _ _ _ _ _ _ _ _ _ _ _ _ _ _)
   | (with_reducible exact quant_Press.mono _ _ _ _ _)
   | (with_reducible exact LeO.refl _)
   | (with_reducible exact LeO.none _)
   | (with_reducible refine LeO.ite ?_ ?_)
   | (with_reducible refine LeO.bind ?_ (fun _ => ?_))
   | exact ih0 _ _ _ _ _ _
   | exact ih1 _ _ _ _ _ _ _ _ _ _ _ _ _ _ _ _ _ _
   | exact ih2 _ _ _ _ _ _ _ _ _ _ _ _ _ _ _ _ _ _ _ _ _ _ _ _ _ _ _ _
   | exact ih3 _ _ _ _ _ _ _ _ _ _ _ _ _ _ _ _ _ _ _ _ _ _ _ _ _ _ _
   | exact ih4 _ _ _ _ _ _ _ _ _ _ _ _ _ _ _ _ _ _ _ _ _ _ _ _ _ _ _ _
   | exact quant_Press.mono _ _ _ _ _
   | exact LeO.none _
   | refine LeO.ite ?_ ?_
   | refine LeO.bind ?_ (fun _ => ?_)
theorem thrumlaw10_QuantTurned.j2_not {k : Nat} {y0} {y1} {y2} {y4} {y5} {y6} {y7} {y8} {y9} {y10} {y11} {y12} {y13} {y14} {y15} {y16} {y17} {y18} {y19} {y20} {y21} {y22} {y23} {y24} {y25} {y26} {y27} (h : thrumlaw10_QuantTurned.j2 k y0 y1 y2 true y4 y5 y6 y7 y8 y9 y10 y11 y12 y13 y14 y15 y16 y17 y18 y19 y20 y21 y22 y23 y24 y25 y26 y27 = some true) : False := by cases k <;> simp [thrumlaw10_QuantTurned.j2] at h
theorem thrumlaw10_QuantTurned.j3_not {k : Nat} {y0} {y1} {y3} {y4} {y5} {y6} {y7} {y8} {y9} {y10} {y11} {y12} {y13} {y14} {y15} {y16} {y17} {y18} {y19} {y20} {y21} {y22} {y23} {y24} {y25} {y26} (h : thrumlaw10_QuantTurned.j3 k y0 y1 true y3 y4 y5 y6 y7 y8 y9 y10 y11 y12 y13 y14 y15 y16 y17 y18 y19 y20 y21 y22 y23 y24 y25 y26 = some true) : False := by cases k <;> simp [thrumlaw10_QuantTurned.j3] at h

end Go.Proofs.Ytkfhdpnfcaghbaa.HQ
