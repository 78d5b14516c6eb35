/- What Go functions do, each as a plain Lean function with the same answers, and the proof of it, in every world: printed by the session's driver over the kit's print, with texts by hand. -/
import Derived.Test.YtkfhdpnfcaghbaaHQx0
import Derived.Test.YtkfhdpnfcaghbaaHQx3
import Derived.Test.YtkfhdpnfcaghbaaHQx6
import Derived.Test.YtkfhdpnfcaghbaaHQx11
import Derived.Test.YtkfhdpnfcaghbaaHQx13
import Derived.Test.YtkfhdpnfcaghbaaHQx14
namespace Go.Proofs.Ytkfhdpnfcaghbaa.HQ
open Go.RowKit Go.Proofs.YtkfhdpnfcaghbaaW.PrintWords Go.Proofs.YtkfhdpnfcaghbaaW.PrintLast Go.Proofs.YtkfhdpnfcaghbaaW.PrintMore
attribute [local go_sem] max2_int min2_int max_two min_two max_three min_three max_four min_four   -- for this text's walks alone
open Go.Proofs.Ytkfhdpnfcaghbaa.Sp
attribute [local go_sem] Go.Proofs.Ytkfhdpnfcaghbaa.Sp.u64_not
set_option linter.unusedVariables false
set_option linter.unusedSimpArgs false

/-! ### thrumlaw10_QuantSure: function 12 -/
mutual
def thrumlaw10_QuantSure.j0 : Nat → List Int → Int → Bool → Int → Int → Bool → Int → Int → List Int → List Int → Int → Int → List Int → List Bool → Int → Int → List Int → List Int → Int → Int → List Int → List Bool → Option (Bool)
 | 0, _, _, _, _, _, _, _, _, _, _, _, _, _, _, _, _, _, _, _, _, _, _ => none
 | k + 1, x0, x1, x9, x11, x13, x47, x236000, x236001, x236002, x236003, x236004, x236005, x236006, x236007, x254000, x254001, x254002, x254003, x254004, x254005, x254006, x254007 => if x47 = true then (if x9 = true then (some (x11 == x13)) else (some false)) else ((quant_Loosen.f k x236000 x236001 x236002 x236003 x236004 x236005 x236006 x236007).bind fun bt254 => (if bt254.2 = 0 then (if (bt254.1.length : Int) = (x0.length : Int) then ((frame_May.f x236000 x236001 x236002 x236003 x236004 x236005 x236006 x236007).bind fun t258 => (if t258 = true then ((frame_May.f x254000 x254001 x254002 x254003 x254004 x254005 x254006 x254007).bind fun t259 => (if t259 = true then (if x236001 = (x0.length : Int) then (if x254001 = (x0.length : Int) then (if (x236006.length : Int) = (x254006.length : Int) then (if (x236007.length : Int) = (x0.length : Int) then (if (x254007.length : Int) = (x0.length : Int) then (thrumlaw10_QuantSure.j1 k x0 x1 x9 bt254.1 ((x236006.length : Int) != (x0.length : Int)) x236000 x236001 x236002 x236003 x236004 x236005 x236006 x236007 x254000 x254001 x254002 x254003 x254004 x254005 x254006 x254007) else (thrumlaw10_QuantSure.j1 k x0 x1 x9 bt254.1 true x236000 x236001 x236002 x236003 x236004 x236005 x236006 x236007 x254000 x254001 x254002 x254003 x254004 x254005 x254006 x254007)) else (thrumlaw10_QuantSure.j1 k x0 x1 x9 bt254.1 true x236000 x236001 x236002 x236003 x236004 x236005 x236006 x236007 x254000 x254001 x254002 x254003 x254004 x254005 x254006 x254007)) else (thrumlaw10_QuantSure.j1 k x0 x1 x9 bt254.1 true x236000 x236001 x236002 x236003 x236004 x236005 x236006 x236007 x254000 x254001 x254002 x254003 x254004 x254005 x254006 x254007)) else (thrumlaw10_QuantSure.j1 k x0 x1 x9 bt254.1 true x236000 x236001 x236002 x236003 x236004 x236005 x236006 x236007 x254000 x254001 x254002 x254003 x254004 x254005 x254006 x254007)) else (thrumlaw10_QuantSure.j1 k x0 x1 x9 bt254.1 true x236000 x236001 x236002 x236003 x236004 x236005 x236006 x236007 x254000 x254001 x254002 x254003 x254004 x254005 x254006 x254007)) else (thrumlaw10_QuantSure.j1 k x0 x1 x9 bt254.1 true x236000 x236001 x236002 x236003 x236004 x236005 x236006 x236007 x254000 x254001 x254002 x254003 x254004 x254005 x254006 x254007))) else (thrumlaw10_QuantSure.j1 k x0 x1 x9 bt254.1 true x236000 x236001 x236002 x236003 x236004 x236005 x236006 x236007 x254000 x254001 x254002 x254003 x254004 x254005 x254006 x254007))) else (thrumlaw10_QuantSure.j1 k x0 x1 x9 bt254.1 true x236000 x236001 x236002 x236003 x236004 x236005 x236006 x236007 x254000 x254001 x254002 x254003 x254004 x254005 x254006 x254007)) else (thrumlaw10_QuantSure.j1 k x0 x1 x9 bt254.1 true x236000 x236001 x236002 x236003 x236004 x236005 x236006 x236007 x254000 x254001 x254002 x254003 x254004 x254005 x254006 x254007)))
def thrumlaw10_QuantSure.j1 : Nat → List Int → Int → Bool → List Int → Bool → Int → Int → List Int → List Int → Int → Int → List Int → List Bool → Int → Int → List Int → List Int → Int → Int → List Int → List Bool → Option (Bool)
 | 0, _, _, _, _, _, _, _, _, _, _, _, _, _, _, _, _, _, _, _, _, _ => none
 | k + 1, x0, x1, x9, x14, x124, x236000, x236001, x236002, x236003, x236004, x236005, x236006, x236007, x254000, x254001, x254002, x254003, x254004, x254005, x254006, x254007 => if x124 = true then (some false) else (thrumlaw10_QuantSure.l0 k x1 x9 x14 x0 (x0.length : Int) 0 x236000 x236001 x236002 x236003 x236004 x236005 x236006 x236007 x254000 x254001 x254002 x254003 x254004 x254005 x254006 x254007)
def thrumlaw10_QuantSure.l0 : Nat → Int → Bool → List Int → List Int → Int → Int → Int → Int → List Int → List Int → Int → Int → List Int → List Bool → Int → Int → List Int → List Int → Int → Int → List Int → List Bool → Option (Bool)
 | 0, _, _, _, _, _, _, _, _, _, _, _, _, _, _, _, _, _, _, _, _, _, _ => none
 | k + 1, x1, x9, x14, x125, x126, x127, x236000, x236001, x236002, x236003, x236004, x236005, x236006, x236007, x254000, x254001, x254002, x254003, x254004, x254005, x254006, x254007 => if x127 < x126 then (if 0 ≤ x127 then (if x127 < (x125.length : Int) then ((quant_Level.f (rd x125 x127) x236004 x1).bind fun bt261 => (if bt261.2.2 = 0 then (if bt261.2.1 = 0 then (if x127 < (x236006.length : Int) then (if x127 < (x254006.length : Int) then (if (rd x236006 x127) = (rd x254006 x127) then (if x127 < (x236007.length : Int) then (if x127 < (x254007.length : Int) then (thrumlaw10_QuantSure.j3 k x1 x9 x14 x127 (rd x125 x127) x125 x126 x127 ((rdOf false x236007 x127) != (rdOf false x254007 x127)) x236000 x236001 x236002 x236003 x236004 x236005 x236006 x236007 x254000 x254001 x254002 x254003 x254004 x254005 x254006 x254007) else (none)) else (none)) else (thrumlaw10_QuantSure.j3 k x1 x9 x14 x127 (rd x125 x127) x125 x126 x127 true x236000 x236001 x236002 x236003 x236004 x236005 x236006 x236007 x254000 x254001 x254002 x254003 x254004 x254005 x254006 x254007)) else (none)) else (none)) else (if x127 < (x236007.length : Int) then (if x127 < (x254007.length : Int) then (thrumlaw10_QuantSure.j3 k x1 x9 x14 x127 (rd x125 x127) x125 x126 x127 ((rdOf false x236007 x127) != (rdOf false x254007 x127)) x236000 x236001 x236002 x236003 x236004 x236005 x236006 x236007 x254000 x254001 x254002 x254003 x254004 x254005 x254006 x254007) else (none)) else (none))) else (thrumlaw10_QuantSure.j3 k x1 x9 x14 x127 (rd x125 x127) x125 x126 x127 true x236000 x236001 x236002 x236003 x236004 x236005 x236006 x236007 x254000 x254001 x254002 x254003 x254004 x254005 x254006 x254007))) else (none)) else (none)) else (if x9 = true then (some (x236004 == x254004)) else (some false))
def thrumlaw10_QuantSure.j3 : Nat → Int → Bool → List Int → Int → Int → List Int → Int → Int → Bool → Int → Int → List Int → List Int → Int → Int → List Int → List Bool → Int → Int → List Int → List Int → Int → Int → List Int → List Bool → Option (Bool)
 | 0, _, _, _, _, _, _, _, _, _, _, _, _, _, _, _, _, _, _, _, _, _, _, _, _, _ => none
 | k + 1, x1, x9, x14, x16, x17, x125, x126, x127, x172, x236000, x236001, x236002, x236003, x236004, x236005, x236006, x236007, x254000, x254001, x254002, x254003, x254004, x254005, x254006, x254007 => if x172 = true then (some false) else (if x17 = x236004 then (if 0 ≤ x16 then (if x16 < (x14.length : Int) then (if (rd x14 x16) = x17 then (thrumlaw10_QuantSure.l0 k x1 x9 x14 x125 x126 (wrap64 (x127 + 1)) x236000 x236001 x236002 x236003 x236004 x236005 x236006 x236007 x254000 x254001 x254002 x254003 x254004 x254005 x254006 x254007) else (some false)) else (none)) else (none)) else (if x17 = (wrap64 (-x236004)) then (if 0 ≤ x16 then (if x16 < (x14.length : Int) then (if (rd x14 x16) = x17 then (thrumlaw10_QuantSure.l0 k x1 x9 x14 x125 x126 (wrap64 (x127 + 1)) x236000 x236001 x236002 x236003 x236004 x236005 x236006 x236007 x254000 x254001 x254002 x254003 x254004 x254005 x254006 x254007) else (some false)) else (none)) else (none)) else (if x17 = 0 then (if 0 ≤ x16 then (if x16 < (x14.length : Int) then (if (rd x14 x16) = x17 then (thrumlaw10_QuantSure.l0 k x1 x9 x14 x125 x126 (wrap64 (x127 + 1)) x236000 x236001 x236002 x236003 x236004 x236005 x236006 x236007 x254000 x254001 x254002 x254003 x254004 x254005 x254006 x254007) else (some false)) else (none)) else (none)) else (thrumlaw10_QuantSure.l0 k x1 x9 x14 x125 x126 (wrap64 (x127 + 1)) x236000 x236001 x236002 x236003 x236004 x236005 x236006 x236007 x254000 x254001 x254002 x254003 x254004 x254005 x254006 x254007))))
end
def thrumlaw10_QuantSure.f (k : Nat) (l0 : List Int) (a1 : Int) (a2 : Int) (a3 : Int) : Option (Bool) := (thrumlaw10_live.f).bind fun t216 => (if t216 = true then ((thrumlaw10_few.f l0 ([] : List Int)).bind fun t217 => (if t217 = true then ((quant_Press.f k l0 a1 a2 ([] : List Int)).bind fun bt218 => ((quant_Press.f k l0 a1 a3 ([] : List Int)).bind fun bt236 => (if bt218.2.2.2.2.2.2.2.2 = 0 then (thrumlaw10_QuantSure.j0 k l0 a1 t216 bt218.2.2.2.2.2.2.2.2 bt236.2.2.2.2.2.2.2.2 (bt236.2.2.2.2.2.2.2.2 != 0) bt218.1 bt218.2.1 bt218.2.2.1 bt218.2.2.2.1 bt218.2.2.2.2.1 bt218.2.2.2.2.2.1 bt218.2.2.2.2.2.2.1 bt218.2.2.2.2.2.2.2.1 bt236.1 bt236.2.1 bt236.2.2.1 bt236.2.2.2.1 bt236.2.2.2.2.1 bt236.2.2.2.2.2.1 bt236.2.2.2.2.2.2.1 bt236.2.2.2.2.2.2.2.1) else (thrumlaw10_QuantSure.j0 k l0 a1 t216 bt218.2.2.2.2.2.2.2.2 bt236.2.2.2.2.2.2.2.2 true bt218.1 bt218.2.1 bt218.2.2.1 bt218.2.2.2.1 bt218.2.2.2.2.1 bt218.2.2.2.2.2.1 bt218.2.2.2.2.2.2.1 bt218.2.2.2.2.2.2.2.1 bt236.1 bt236.2.1 bt236.2.2.1 bt236.2.2.2.1 bt236.2.2.2.2.1 bt236.2.2.2.2.2.1 bt236.2.2.2.2.2.2.1 bt236.2.2.2.2.2.2.2.1)))) else (some t216))) else (some false))
theorem thrumlaw10_QuantSure.mono_l : ∀ k, (∀ y0 y1 y2 y3 y4 y5 y6 y7 y8 y9 y10 y11 y12 y13 y14 y15 y16 y17 y18 y19 y20 y21, LeO (thrumlaw10_QuantSure.j0 k y0 y1 y2 y3 y4 y5 y6 y7 y8 y9 y10 y11 y12 y13 y14 y15 y16 y17 y18 y19 y20 y21) (thrumlaw10_QuantSure.j0 (k + 1) y0 y1 y2 y3 y4 y5 y6 y7 y8 y9 y10 y11 y12 y13 y14 y15 y16 y17 y18 y19 y20 y21)) ∧ (∀ y0 y1 y2 y3 y4 y5 y6 y7 y8 y9 y10 y11 y12 y13 y14 y15 y16 y17 y18 y19 y20, LeO (thrumlaw10_QuantSure.j1 k y0 y1 y2 y3 y4 y5 y6 y7 y8 y9 y10 y11 y12 y13 y14 y15 y16 y17 y18 y19 y20) (thrumlaw10_QuantSure.j1 (k + 1) y0 y1 y2 y3 y4 y5 y6 y7 y8 y9 y10 y11 y12 y13 y14 y15 y16 y17 y18 y19 y20)) ∧ (∀ y0 y1 y2 y3 y4 y5 y6 y7 y8 y9 y10 y11 y12 y13 y14 y15 y16 y17 y18 y19 y20 y21, LeO (thrumlaw10_QuantSure.l0 k y0 y1 y2 y3 y4 y5 y6 y7 y8 y9 y10 y11 y12 y13 y14 y15 y16 y17 y18 y19 y20 y21) (thrumlaw10_QuantSure.l0 (k + 1) y0 y1 y2 y3 y4 y5 y6 y7 y8 y9 y10 y11 y12 y13 y14 y15 y16 y17 y18 y19 y20 y21)) ∧ (∀ y0 y1 y2 y3 y4 y5 y6 y7 y8 y9 y10 y11 y12 y13 y14 y15 y16 y17 y18 y19 y20 y21 y22 y23 y24, LeO (thrumlaw10_QuantSure.j3 k y0 y1 y2 y3 y4 y5 y6 y7 y8 y9 y10 y11 y12 y13 y14 y15 y16 y17 y18 y19 y20 y21 y22 y23 y24) (thrumlaw10_QuantSure.j3 (k + 1) y0 y1 y2 y3 y4 y5 y6 y7 y8 y9 y10 y11 y12 y13 y14 y15 y16 y17 y18 y19 y20 y21 y22 y23 y24))
 | 0 => ⟨fun _ _ _ _ _ _ _ _ _ _ _ _ _ _ _ _ _ _ _ _ _ _ r h => by simp [thrumlaw10_QuantSure.j0] at h, fun _ _ _ _ _ _ _ _ _ _ _ _ _ _ _ _ _ _ _ _ _ r h => by simp [thrumlaw10_QuantSure.j1] at h, fun _ _ _ _ _ _ _ _ _ _ _ _ _ _ _ _ _ _ _ _ _ _ r h => by simp [thrumlaw10_QuantSure.l0] at h, fun _ _ _ _ _ _ _ _ _ _ _ _ _ _ _ _ _ _ _ _ _ _ _ _ _ r h => by simp [thrumlaw10_QuantSure.j3] at h⟩
 | k + 1 => by
  obtain ⟨ih0, ih1, ih2, ih3⟩ := thrumlaw10_QuantSure.mono_l k
  refine ⟨?_, ?_, ?_, ?_⟩
  ·
   intro y0 y1 y2 y3 y4 y5 y6 y7 y8 y9 y10 y11 y12 y13 y14 y15 y16 y17 y18 y19 y20 y21
   unfold thrumlaw10_QuantSure.j0
   repeat' first
   | (with_reducible exact ih0 _ _ _ _ _ _ _ _ _ _ _ _ _ _ _ _ _ _ _ _ _ _)
   | (with_reducible exact ih1 _ _ _ _ _ _ _ _ _ _ _ _ _ _ _ _ _ _ _ _ _)
   | (with_reducible exact ih2 _ _ _ _ _ _ _ _ _ _ _ _ _ _ _ _ _ _ _ _ _ _)
   | (with_reducible exact ih3 _ _ _ _ _ _ _ _ _ _ _ _ _ _ _ _ _ _ _ _ _ _ _ _ _)
   | (with_reducible exact quant_Loosen.mono _ _ _ _ _ _ _ _ _)
   | (with_reducible exact quant_Press.mono _ _ _ _ _)
   | (with_reducible exact LeO.refl _)
   | (with_reducible exact LeO.none _)
   | (with_reducible refine LeO.ite ?_ ?_)
   | (with_reducible refine LeO.bind ?_ (fun _ => ?_))
   | exact ih0 _ _ _ _ _ _ _ _ _ _ _ _ _ _ _ _ _ _ _ _ _ _
   | exact ih1 _ _ _ _ _ _ _ _ _ _ _ _ _ _ _ _ _ _ _ _ _
   | exact ih2 _ _ _ _ _ _ _ _ _ _ _ _ _ _ _ _ _ _ _ _ _ _
   | exact ih3 _ _ _ _ _ _ _ _ _ _ _ _ _ _ _ _ _ _ _ _ _ _ _ _ _
   | exact quant_Loosen.mono _ _ _ _ _ _ _ _ _
   | exact quant_Press.mono _ _ _ _ _
   | exact LeO.none _
   | refine LeO.ite ?_ ?_
   | refine LeO.bind ?_ (fun _ => ?_)
  ·
   intro y0 y1 y2 y3 y4 y5 y6 y7 y8 y9 y10 y11 y12 y13 y14 y15 y16 y17 y18 y19 y20
   unfold thrumlaw10_QuantSure.j1
   repeat' first
   | (with_reducible exact ih0 _ _ _ _ _ _ _ _ _ _ _ _ _ _ _ _ _ _ _ _ _ _)
   | (with_reducible exact ih1 _ _ _ _ _ _ _ _ _ _ _ _ _ _ _ _ _ _ _ _ _)
   | (with_reducible exact ih2 _ _ _ _ _ _ _ _ _ _ _ _ _ _ _ _ _ _ _ _ _ _)
   | (with_reducible exact ih3 _ _ _ _ _ _ _ _ _ _ _ _ _ _ _ _ _ _ _ _ _ _ _ _ _)
   | (with_reducible exact quant_Loosen.mono _ _ _ _ _ _ _ _ _)
   | (with_reducible exact quant_Press.mono _ _ _ _ _)
   | (with_reducible exact LeO.refl _)
   | (with_reducible exact LeO.none _)
   | (with_reducible refine LeO.ite ?_ ?_)
   | (with_reducible refine LeO.bind ?_ (fun _ => ?_))
   | exact ih0 _ _ _ _ _ _ _ _ _ _ _ _ _ _ _ _ _ _ _ _ _ _
   | exact ih1 _ _ _ _ _ _ _ _ _ _ _ _ _ _ _ _ _ _ _ _ _
   | exact ih2 _ _ _ _ _ _ _ _ _ _ _ _ _ _ _ _ _ _ _ _ _ _
   | exact ih3 _ _ _ _ _ _ _ _ _ _ _ _ _ _ _ _ _ _ _ _ _ _ _ _ _
   | exact quant_Loosen.mono _ _ _ _ _ _ _ _ _
   | exact quant_Press.mono _ _ _ _ _
   | exact LeO.none _
   | refine LeO.ite ?_ ?_
   | refine LeO.bind ?_ (fun _ => ?_)
  ·
   intro y0 y1 y2 y3 y4 y5 y6 y7 y8 y9 y10 y11 y12 y13 y14 y15 y16 y17 y18 y19 y20 y21
   unfold thrumlaw10_QuantSure.l0
   repeat' first
   | (with_reducible exact ih0 _ _ _ _ _ _ _ _ _ _ _ _ _ _ _ _ _ _ _ _ _ _)
   | (with_reducible exact ih1 _ _ _ _ _ _ _ _ _ _ _ _ _ _ _ _ _ _ _ _ _)
   | (with_reducible exact ih2 _ _ _ _ _ _ _ _ _ _ _ _ _ _ _ _ _ _ _ _ _ _)
   | (with_reducible exact ih3 _ _ _ _ _ _ _ _ _ _ _ _ _ _ _ _ _ _ _ _ _ _ _ _ _)
   | (with_reducible exact quant_Loosen.mono _ _ _ _ _ _ _ _ _)
   | (with_reducible exact quant_Press.mono _ _ _ _ _)
   | (with_reducible exact LeO.refl _)
   | (with_reducible exact LeO.none _)
   | (with_reducible refine LeO.ite ?_ ?_)
   | (with_reducible refine LeO.bind ?_ (fun _ => ?_))
   | exact ih0 _ _ _ _ _ _ _ _ _ _ _ _ _ _ _ _ _ _ _ _ _ _
   | exact ih1 _ _ _ _ _ _ _ _ _ _ _ _ _ _ _ _ _ _ _ _ _
   | exact ih2 _ _ _ _ _ _ _ _ _ _ _ _ _ _ _ _ _ _ _ _ _ _
   | exact ih3 _ _ _ _ _ _ _ _ _ _ _ _ _ _ _ _ _ _ _ _ _ _ _ _ _
   | exact quant_Loosen.mono _ _ _ _ _ _ _ _ _
   | exact quant_Press.mono _ _ _ _ _
   | exact LeO.none _
   | refine LeO.ite ?_ ?_
   | refine LeO.bind ?_ (fun _ => ?_)
  ·
   intro y0 y1 y2 y3 y4 y5 y6 y7 y8 y9 y10 y11 y12 y13 y14 y15 y16 y17 y18 y19 y20 y21 y22 y23 y24
   unfold thrumlaw10_QuantSure.j3
   repeat' first
   | (with_reducible exact ih0 _ _ _ _ _ _ _ _ _ _ _ _ _ _ _ _ _ _ _ _ _ _)
   | (with_reducible exact ih1 _ _ _ _ _ _ _ _ _ _ _ _ _ _ _ _ _ _ _ _ _)
   | (with_reducible exact ih2 _ _ _ _ _ _ _ _ _ _ _ _ _ _ _ _ _ _ _ _ _ _)
   | (with_reducible exact ih3 _ _ _ _ _ _ _ _ _ _ _ _ _ _ _ _ _ _ _ _ _ _ _ _ _)
   | (with_reducible exact quant_Loosen.mono _ _ _ _ _ _ _ _ _)
   | (with_reducible exact quant_Press.mono _ _ _ _ _)
   | (with_reducible exact LeO.refl _)
   | (with_reducible exact LeO.none _)
   | (with_reducible refine LeO.ite ?_ ?_)
   | (with_reducible refine LeO.bind ?_ (fun _ => ?_))
   | exact ih0 _ _ _ _ _ _ _ _ _ _ _ _ _ _ _ _ _ _ _ _ _ _
   | exact ih1 _ _ _ _ _ _ _ _ _ _ _ _ _ _ _ _ _ _ _ _ _
   | exact ih2 _ _ _ _ _ _ _ _ _ _ _ _ _ _ _ _ _ _ _ _ _ _
   | exact ih3 _ _ _ _ _ _ _ _ _ _ _ _ _ _ _ _ _ _ _ _ _ _ _ _ _
   | exact quant_Loosen.mono _ _ _ _ _ _ _ _ _
   | exact quant_Press.mono _ _ _ _ _
   | exact LeO.none _
   | refine LeO.ite ?_ ?_
   | refine LeO.bind ?_ (fun _ => ?_)
theorem thrumlaw10_QuantSure.mono : ∀ a0 a1 a2 a3 k, LeO (thrumlaw10_QuantSure.f k a0 a1 a2 a3) (thrumlaw10_QuantSure.f (k + 1) a0 a1 a2 a3) := by
 intro a0 a1 a2 a3 k
 obtain ⟨ih0, ih1, ih2, ih3⟩ := thrumlaw10_QuantSure.mono_l k
 unfold thrumlaw10_QuantSure.f
 repeat' first
   | (with_reducible exact ih0 _ _ _ _ _ _ _ _ _ _ _ _ _ _ _ _ _ _ _ _ _ _)
   | (with_reducible exact ih1 _ _ _ _ _ _ _ _ _ _ _ _ _ _ _ _ _ _ _ _ _)
   | (with_reducible exact ih2 _ _ _ _ _ _ _ _ _ _ _ _ _ _ _ _ _ _ _ _ _ _)
   | (with_reducible exact ih3 _ _ _ _ _ _ _ _ _ _ _ _ _ _ _ _ _ _ _ _ _ _ _ _ _)
   | (with_reducible exact quant_Loosen.mono _ _ _ _ _ _ _ _ _)
   | (with_reducible exact quant_Press.mono _ _ _ _ _)
   | (with_reducible exact LeO.refl _)
   | (with_reducible exact LeO.none _)
   | (with_reducible refine LeO.ite ?_ ?_)
   | (with_reducible refine LeO.bind ?_ (fun _ => ?_))
   | exact ih0 _ _ _ _ _ _ _ _ _ _ _ _ _ _ _ _ _ _ _ _ _ _
   | exact ih1 _ _ _ _ _ _ _ _ _ _ _ _ _ _ _ _ _ _ _ _ _
   | exact ih2 _ _ _ _ _ _ _ _ _ _ _ _ _ _ _ _ _ _ _ _ _ _
   | exact ih3 _ _ _ _ _ _ _ _ _ _ _ _ _ _ _ _ _ _ _ _ _ _ _ _ _
   | exact quant_Loosen.mono _ _ _ _ _ _ _ _ _
   | exact quant_Press.mono _ _ _ _ _
   | exact LeO.none _
   | refine LeO.ite ?_ ?_
   | refine LeO.bind ?_ (fun _ => ?_)
theorem thrumlaw10_QuantSure.j1_not {k : Nat} {y0} {y1} {y2} {y3} {y5} {y6} {y7} {y8} {y9} {y10} {y11} {y12} {y13} {y14} {y15} {y16} {y17} {y18} {y19} {y20} (h : thrumlaw10_QuantSure.j1 k y0 y1 y2 y3 true y5 y6 y7 y8 y9 y10 y11 y12 y13 y14 y15 y16 y17 y18 y19 y20 = some true) : False := by cases k <;> simp [thrumlaw10_QuantSure.j1] at h
theorem thrumlaw10_QuantSure.j3_not {k : Nat} {y0} {y1} {y2} {y3} {y4} {y5} {y6} {y7} {y9} {y10} {y11} {y12} {y13} {y14} {y15} {y16} {y17} {y18} {y19} {y20} {y21} {y22} {y23} {y24} (h : thrumlaw10_QuantSure.j3 k y0 y1 y2 y3 y4 y5 y6 y7 true y9 y10 y11 y12 y13 y14 y15 y16 y17 y18 y19 y20 y21 y22 y23 y24 = some true) : False := by cases k <;> simp [thrumlaw10_QuantSure.j3] at h

end Go.Proofs.Ytkfhdpnfcaghbaa.HQ
