/- What Go functions do, each as a plain Lean function with the same answers, and the proof of it, in every world: printed by the session's driver over the kit's print, with texts by hand. -/
import Derived.Test.YtkfhdpnfcaghbaaHQx0
import Derived.Test.YtkfhdpnfcaghbaaHQx1
import Derived.Test.YtkfhdpnfcaghbaaHQx6
import Derived.Test.YtkfhdpnfcaghbaaHQx11
import Derived.Test.YtkfhdpnfcaghbaaHQx12
import Derived.Test.YtkfhdpnfcaghbaaHQx13
import Derived.Test.YtkfhdpnfcaghbaaHQx14
import Derived.Test.YtkfhdpnfcaghbaaHQx16
namespace Go.Proofs.Ytkfhdpnfcaghbaa.HQ
open Go.RowKit Go.Proofs.YtkfhdpnfcaghbaaW.PrintWords Go.Proofs.YtkfhdpnfcaghbaaW.PrintLast Go.Proofs.YtkfhdpnfcaghbaaW.PrintMore
attribute [local go_sem] max2_int min2_int max_two min_two max_three min_three max_four min_four   -- for this text's walks alone
open Go.Proofs.Ytkfhdpnfcaghbaa.Sp
attribute [local go_sem] Go.Proofs.Ytkfhdpnfcaghbaa.Sp.u64_not
set_option linter.unusedVariables false
set_option linter.unusedSimpArgs false

/-! ### thrumlaw10_QuantNear: function 13 -/
mutual
def thrumlaw10_QuantNear.j0 : Nat → List Int → Bool → List Int → Int → Bool → Int → Int → List Int → List Int → Int → Int → List Int → List Bool → Option (Bool)
 | 0, _, _, _, _, _, _, _, _, _, _, _, _, _ => none
 | k + 1, x0, x9, x12, x14, x76, x236000, x236001, x236002, x236003, x236004, x236005, x236006, x236007 => if x76 = true then (some false) else (thrumlaw10_QuantNear.l0 k x0 x9 x12 x14 (x0.length : Int) 0 x236000 x236001 x236002 x236003 x236004 x236005 x236006 x236007)
def thrumlaw10_QuantNear.l0 : Nat → List Int → Bool → List Int → Int → Int → Int → Int → Int → List Int → List Int → Int → Int → List Int → List Bool → Option (Bool)
 | 0, _, _, _, _, _, _, _, _, _, _, _, _, _, _ => none
 | k + 1, x0, x9, x12, x14, x78, x79, x236000, x236001, x236002, x236003, x236004, x236005, x236006, x236007 => if x79 < x78 then (if 0 ≤ x79 then (if x79 < (x0.length : Int) then (if x79 < (x12.length : Int) then ((vec_Size.f (([wrap64 ((rd x0 x79) - (rd x12 x79))] : List Int))).bind fun bt249 => (if bt249.2 = 0 then (if x14 = 0 then (none) else (thrumlaw10_QuantNear.j2 k x0 x9 x12 x14 x79 x78 x79 (decide ((IntKind.u64.wrap (bt249.1)) > (IntKind.u64.wrap ((IntKind.u64.wrap (Int.tdiv (IntKind.u64.wrap (x236004)) x14)) + 1)))) x236000 x236001 x236002 x236003 x236004 x236005 x236006 x236007)) else (thrumlaw10_QuantNear.j2 k x0 x9 x12 x14 x79 x78 x79 true x236000 x236001 x236002 x236003 x236004 x236005 x236006 x236007))) else (none)) else (none)) else (none)) else (some x9)
def thrumlaw10_QuantNear.j2 : Nat → List Int → Bool → List Int → Int → Int → Int → Int → Bool → Int → Int → List Int → List Int → Int → Int → List Int → List Bool → Option (Bool)
 | 0, _, _, _, _, _, _, _, _, _, _, _, _, _, _, _, _ => none
 | k + 1, x0, x9, x12, x14, x16, x78, x79, x108, x236000, x236001, x236002, x236003, x236004, x236005, x236006, x236007 => if x108 = true then (some false) else (if 0 ≤ x16 then (if x16 < (x12.length : Int) then (if (rd x12 x16) > 0 then (if x16 < (x0.length : Int) then (if (rd x0 x16) < 0 then (some false) else (if (rd x12 x16) < 0 then (if (rd x0 x16) > 0 then (some false) else ((thrumref09_Size.f (rd x12 x16)).bind fun t256 => (if t256 > (IntKind.u64.wrap (x236004)) then (some false) else (thrumlaw10_QuantNear.l0 k x0 x9 x12 x14 x78 (wrap64 (x79 + 1)) x236000 x236001 x236002 x236003 x236004 x236005 x236006 x236007)))) else ((thrumref09_Size.f (rd x12 x16)).bind fun t258 => (if t258 > (IntKind.u64.wrap (x236004)) then (some false) else (thrumlaw10_QuantNear.l0 k x0 x9 x12 x14 x78 (wrap64 (x79 + 1)) x236000 x236001 x236002 x236003 x236004 x236005 x236006 x236007))))) else (none)) else (if (rd x12 x16) < 0 then (if x16 < (x0.length : Int) then (if (rd x0 x16) > 0 then (some false) else ((thrumref09_Size.f (rd x12 x16)).bind fun t262 => (if t262 > (IntKind.u64.wrap (x236004)) then (some false) else (thrumlaw10_QuantNear.l0 k x0 x9 x12 x14 x78 (wrap64 (x79 + 1)) x236000 x236001 x236002 x236003 x236004 x236005 x236006 x236007)))) else (none)) else ((thrumref09_Size.f (rd x12 x16)).bind fun t264 => (if t264 > (IntKind.u64.wrap (x236004)) then (some false) else (thrumlaw10_QuantNear.l0 k x0 x9 x12 x14 x78 (wrap64 (x79 + 1)) x236000 x236001 x236002 x236003 x236004 x236005 x236006 x236007))))) else (none)) else (none))
end
def thrumlaw10_QuantNear.f (k : Nat) (l0 : List Int) (a1 : Int) (a2 : Int) (l3 : List Int) : Option (Bool) := (thrumlaw10_live.f).bind fun t216 => (if t216 = true then ((thrumlaw10_few.f l0 l3).bind fun t217 => (if t217 = true then ((quant_Press.f k l0 a1 a2 l3).bind fun bt218 => (if bt218.2.2.2.2.2.2.2.2 = 0 then ((quant_Loosen.f k bt218.1 bt218.2.1 bt218.2.2.1 bt218.2.2.2.1 bt218.2.2.2.2.1 bt218.2.2.2.2.2.1 bt218.2.2.2.2.2.2.1 bt218.2.2.2.2.2.2.2.1).bind fun bt236 => ((quant_Steps.f a1).bind fun bt240 => ((quant_Near.f l0 bt218.1 bt218.2.1 bt218.2.2.1 bt218.2.2.2.1 bt218.2.2.2.2.1 bt218.2.2.2.2.2.1 bt218.2.2.2.2.2.2.1 bt218.2.2.2.2.2.2.2.1).bind fun t242 => (if t242 = true then ((frame_May.f bt218.1 bt218.2.1 bt218.2.2.1 bt218.2.2.2.1 bt218.2.2.2.2.1 bt218.2.2.2.2.2.1 bt218.2.2.2.2.2.2.1 bt218.2.2.2.2.2.2.2.1).bind fun t243 => (if t243 = true then (if bt236.2 = 0 then (if bt240.2 = 0 then (thrumlaw10_QuantNear.j0 k l0 t216 bt236.1 bt240.1 ((bt236.1.length : Int) != (l0.length : Int)) bt218.1 bt218.2.1 bt218.2.2.1 bt218.2.2.2.1 bt218.2.2.2.2.1 bt218.2.2.2.2.2.1 bt218.2.2.2.2.2.2.1 bt218.2.2.2.2.2.2.2.1) else (thrumlaw10_QuantNear.j0 k l0 t216 bt236.1 bt240.1 true bt218.1 bt218.2.1 bt218.2.2.1 bt218.2.2.2.1 bt218.2.2.2.2.1 bt218.2.2.2.2.2.1 bt218.2.2.2.2.2.2.1 bt218.2.2.2.2.2.2.2.1)) else (thrumlaw10_QuantNear.j0 k l0 t216 bt236.1 bt240.1 true bt218.1 bt218.2.1 bt218.2.2.1 bt218.2.2.2.1 bt218.2.2.2.2.1 bt218.2.2.2.2.2.1 bt218.2.2.2.2.2.2.1 bt218.2.2.2.2.2.2.2.1)) else (thrumlaw10_QuantNear.j0 k l0 t216 bt236.1 bt240.1 true bt218.1 bt218.2.1 bt218.2.2.1 bt218.2.2.2.1 bt218.2.2.2.2.1 bt218.2.2.2.2.2.1 bt218.2.2.2.2.2.2.1 bt218.2.2.2.2.2.2.2.1))) else (thrumlaw10_QuantNear.j0 k l0 t216 bt236.1 bt240.1 true bt218.1 bt218.2.1 bt218.2.2.1 bt218.2.2.2.1 bt218.2.2.2.2.1 bt218.2.2.2.2.2.1 bt218.2.2.2.2.2.2.1 bt218.2.2.2.2.2.2.2.1))))) else (some (bt218.2.1 == 0)))) else (some t216))) else (some false))
theorem thrumlaw10_QuantNear.mono_l : ∀ k, (∀ y0 y1 y2 y3 y4 y5 y6 y7 y8 y9 y10 y11 y12, LeO (thrumlaw10_QuantNear.j0 k y0 y1 y2 y3 y4 y5 y6 y7 y8 y9 y10 y11 y12) (thrumlaw10_QuantNear.j0 (k + 1) y0 y1 y2 y3 y4 y5 y6 y7 y8 y9 y10 y11 y12)) ∧ (∀ y0 y1 y2 y3 y4 y5 y6 y7 y8 y9 y10 y11 y12 y13, LeO (thrumlaw10_QuantNear.l0 k y0 y1 y2 y3 y4 y5 y6 y7 y8 y9 y10 y11 y12 y13) (thrumlaw10_QuantNear.l0 (k + 1) y0 y1 y2 y3 y4 y5 y6 y7 y8 y9 y10 y11 y12 y13)) ∧ (∀ y0 y1 y2 y3 y4 y5 y6 y7 y8 y9 y10 y11 y12 y13 y14 y15, LeO (thrumlaw10_QuantNear.j2 k y0 y1 y2 y3 y4 y5 y6 y7 y8 y9 y10 y11 y12 y13 y14 y15) (thrumlaw10_QuantNear.j2 (k + 1) y0 y1 y2 y3 y4 y5 y6 y7 y8 y9 y10 y11 y12 y13 y14 y15))
 | 0 => ⟨fun _ _ _ _ _ _ _ _ _ _ _ _ _ r h => by simp [thrumlaw10_QuantNear.j0] at h, fun _ _ _ _ _ _ _ _ _ _ _ _ _ _ r h => by simp [thrumlaw10_QuantNear.l0] at h, fun _ _ _ _ _ _ _ _ _ _ _ _ _ _ _ _ r h => by simp [thrumlaw10_QuantNear.j2] at h⟩
 | k + 1 => by
  obtain ⟨ih0, ih1, ih2⟩ := thrumlaw10_QuantNear.mono_l k
  refine ⟨?_, ?_, ?_⟩
  ·
   intro y0 y1 y2 y3 y4 y5 y6 y7 y8 y9 y10 y11 y12
   unfold thrumlaw10_QuantNear.j0
   repeat' first
   | (with_reducible exact ih0 _ _ _ _ _ _ _ _ _ _ _ _ _)
   | (with_reducible exact ih1 _ _ _ _ _ _ _ _ _ _ _ _ _ _)
   | (with_reducible exact ih2 _ _ _ _ _ _ _ _ _ _ _ _ _ _ _ _)
   | (with_reducible exact quant_Loosen.mono _ _ _ _ _ _ _ _ _)
   | (with_reducible exact quant_Press.mono _ _ _ _ _)
   | (with_reducible exact LeO.refl _)
   | (with_reducible exact LeO.none _)
   | (with_reducible refine LeO.ite ?_ ?_)
   | (with_reducible refine LeO.bind ?_ (fun _ => ?_))
   | exact ih0 _ _ _ _ _ _ _ _ _ _ _ _ _
   | exact ih1 _ _ _ _ _ _ _ _ _ _ _ _ _ _
   | exact ih2 _ _ _ _ _ _ _ _ _ _ _ _ _ _ _ _
   | exact quant_Loosen.mono _ _ _ _ _ _ _ _ _
   | exact quant_Press.mono _ _ _ _ _
   | exact LeO.none _
   | refine LeO.ite ?_ ?_
   | refine LeO.bind ?_ (fun _ => ?_)
  ·
   intro y0 y1 y2 y3 y4 y5 y6 y7 y8 y9 y10 y11 y12 y13
   unfold thrumlaw10_QuantNear.l0
   repeat' first
   | (with_reducible exact ih0 _ _ _ _ _ _ _ _ _ _ _ _ _)
   | (with_reducible exact ih1 _ _ _ _ _ _ _ _ _ _ _ _ _ _)
   | (with_reducible exact ih2 _ _ _ _ _ _ _ _ _ _ _ _ _ _ _ _)
   | (with_reducible exact quant_Loosen.mono _ _ _ _ _ _ _ _ _)
   | (with_reducible exact quant_Press.mono _ _ _ _ _)
   | (with_reducible exact LeO.refl _)
   | (with_reducible exact LeO.none _)
   | (with_reducible refine LeO.ite ?_ ?_)
   | (with_reducible refine LeO.bind ?_ (fun _ => ?_))
   | exact ih0 _ _ _ _ _ _ _ _ _ _ _ _ _
   | exact ih1 _ _ _ _ _ _ _ _ _ _ _ _ _ _
   | exact ih2 _ _ _ _ _ _ _ _ _ _ _ _ _ _ _ _
   | exact quant_Loosen.mono _ _ _ _ _ _ _ _ _
   | exact quant_Press.mono _ _ _ _ _
   | exact LeO.none _
   | refine LeO.ite ?_ ?_
   | refine LeO.bind ?_ (fun _ => ?_)
  ·
   intro y0 y1 y2 y3 y4 y5 y6 y7 y8 y9 y10 y11 y12 y13 y14 y15
   unfold thrumlaw10_QuantNear.j2
   repeat' first
   | (with_reducible exact ih0 _ _ _ _ _ _ _ _ _ _ _ _ _)
   | (with_reducible exact ih1 _ _ _ _ _ _ _ _ _ _ _ _ _ _)
   | (with_reducible exact ih2 _ _ _ _ _ _ _ _ _ _ _ _ _ _ _ _)
   | (with_reducible exact quant_Loosen.mono _ _ _ _ _ _ _ _ _)
   | (with_reducible exact quant_Press.mono _ _ _ _ _)
   | (with_reducible exact LeO.refl _)
   | (with_reducible exact LeO.none _)
   | (with_reducible refine LeO.ite ?_ ?_)
   | (with_reducible refine LeO.bind ?_ (fun _ => ?_))
   | exact ih0 _ _ _ _ _ _ _ _ _ _ _ _ _
   | exact ih1 _ _ _ _ _ _ _ _ _ _ _ _ _ _
   | exact ih2 _ _ _ _ _ _ _ _ _ _ _ _ _ _ _ _
   | exact quant_Loosen.mono _ _ _ _ _ _ _ _ _
   | exact quant_Press.mono _ _ _ _ _
   | exact LeO.none _
   | refine LeO.ite ?_ ?_
   | refine LeO.bind ?_ (fun _ => ?_)
theorem thrumlaw10_QuantNear.mono : ∀ a0 a1 a2 a3 k, LeO (thrumlaw10_QuantNear.f k a0 a1 a2 a3) (thrumlaw10_QuantNear.f (k + 1) a0 a1 a2 a3) := by
 intro a0 a1 a2 a3 k
 obtain ⟨ih0, ih1, ih2⟩ := thrumlaw10_QuantNear.mono_l k
 unfold thrumlaw10_QuantNear.f
 repeat' first
   | (with_reducible exact ih0 _ _ _ _ _ _ _ _ _ _ _ _ _)
   | (with_reducible exact ih1 _ _ _ _ _ _ _ _ _ _ _ _ _ _)
   | (with_reducible exact ih2 _ _ _ _ _ _ _ _ _ _ _ _ _ _ _ _)
   | (with_reducible exact quant_Loosen.mono _ _ _ _ _ _ _ _ _)
   | (with_reducible exact quant_Press.mono _ _ _ _ _)
   | (with_reducible exact LeO.refl _)
   | (with_reducible exact LeO.none _)
   | (with_reducible refine LeO.ite ?_ ?_)
   | (with_reducible refine LeO.bind ?_ (fun _ => ?_))
   | exact ih0 _ _ _ _ _ _ _ _ _ _ _ _ _
   | exact ih1 _ _ _ _ _ _ _ _ _ _ _ _ _ _
   | exact ih2 _ _ _ _ _ _ _ _ _ _ _ _ _ _ _ _
   | exact quant_Loosen.mono _ _ _ _ _ _ _ _ _
   | exact quant_Press.mono _ _ _ _ _
   | exact LeO.none _
   | refine LeO.ite ?_ ?_
   | refine LeO.bind ?_ (fun _ => ?_)
def thrumlaw10_QuantNear.T16 : Bool × List (List Nat × List Nat) := (true, [([], []), ([], []), ([0, 1], [0, 1]), ([2], [2]), ([], []), ([], []), ([4, 5], [4, 5]), ([6], [6]), ([3, 7], [3, 7]), ([8], [8]), ([9], [9]), ([10], [10]), ([11], [11]), ([11], [11]), ([12, 10, 0, 1, 2, 3, 4, 5, 6, 7, 8, 9, 10, 11, 12], [12]), ([13, 14, 0, 1, 2, 3, 4, 5, 6, 7, 8, 9, 10, 11, 12, 13, 14], [13])])
def thrumlaw10_QuantNear.B16 : List Nat := [0, 0, 3, 7, 0, 0, 48, 112, 255, 511, 1023, 2047, 4095, 4095, 8191, 32767]
theorem thrumlaw10_QuantNear.tab16 : rtab .any (opsOf Try.f13 16) = thrumlaw10_QuantNear.T16 := by kernel_rfl
theorem thrumlaw10_QuantNear.bits16 : waitsOk thrumlaw10_QuantNear.T16.2 thrumlaw10_QuantNear.B16 = true := by kernel_rfl
def thrumlaw10_QuantNear.T19 : Bool × List (List Nat × List Nat) := (true, [([], []), ([], []), ([0, 1], [0, 1]), ([2], [2]), ([3], [3]), ([4], [4]), ([5], [5]), ([5], [5]), ([6, 7, 5], [5, 6, 7]), ([8, 5], [5, 8]), ([9, 5], [5, 9]), ([5, 10], [5, 10]), ([11, 5], [11]), ([12], [12]), ([12], [12]), ([13, 14, 12], [12, 13, 14]), ([15, 12], [12, 15]), ([16, 12], [12, 16]), ([17, 12, 12], [12, 17]), ([18], [18]), ([18], [18]), ([19, 20, 18], [18, 19, 20]), ([21, 18], [18, 21]), ([22, 18], [18, 22]), ([18, 23, 12], [12, 18, 23]), ([12, 24], [12, 24]), ([25, 18], [25]), ([26], [26]), ([26], [26]), ([27, 28, 26], [26, 27, 28]), ([29, 26], [26, 29]), ([30, 26, 26], [26, 30]), ([26], [26]), ([32, 26], [26, 32]), ([33, 26], [26, 33]), ([31, 34, 26], [26, 31, 34]), ([26, 35], [26, 35])])
def thrumlaw10_QuantNear.B19 : List Nat := [0, 0, 3, 7, 15, 31, 63, 63, 255, 511, 1023, 2047, 4095, 8191, 8191, 32767, 65535, 131071, 262143, 524287, 524287, 2097151, 4194303, 8388607, 16777215, 33554431, 67108863, 134217727, 134217727, 536870911, 1073741823, 2147483647, 134217727, 4429185023, 13019119615, 34359738367, 68719476735]
theorem thrumlaw10_QuantNear.tab19 : rtab .any (opsOf Try.f13 19) = thrumlaw10_QuantNear.T19 := by kernel_rfl
theorem thrumlaw10_QuantNear.bits19 : waitsOk thrumlaw10_QuantNear.T19.2 thrumlaw10_QuantNear.B19 = true := by kernel_rfl
theorem thrumlaw10_QuantNear.j0_not {k : Nat} {y0} {y1} {y2} {y3} {y5} {y6} {y7} {y8} {y9} {y10} {y11} {y12} (h : thrumlaw10_QuantNear.j0 k y0 y1 y2 y3 true y5 y6 y7 y8 y9 y10 y11 y12 = some true) : False := by cases k <;> simp [thrumlaw10_QuantNear.j0] at h
theorem thrumlaw10_QuantNear.j2_not {k : Nat} {y0} {y1} {y2} {y3} {y4} {y5} {y6} {y8} {y9} {y10} {y11} {y12} {y13} {y14} {y15} (h : thrumlaw10_QuantNear.j2 k y0 y1 y2 y3 y4 y5 y6 true y8 y9 y10 y11 y12 y13 y14 y15 = some true) : False := by cases k <;> simp [thrumlaw10_QuantNear.j2] at h

end Go.Proofs.Ytkfhdpnfcaghbaa.HQ
