/- What Go functions do, each as a plain Lean function with the same answers, and the proof of it, in every world: printed by the session's driver over the kit's print, with texts by hand. -/
import Derived.Test.YtnhdeljkoackfaaHCx0
import Derived.Test.YtnhdeljkoackfaaHCx1
import Derived.Test.YtnhdeljkoackfaaHCx7
import Derived.Test.YtnhdeljkoackfaaHCx8
import Derived.Test.YtnhdeljkoackfaaHCx9
namespace Go.Proofs.Ytnhdeljkoackfaa.HC
open Go.RowKit Go.Proofs.YtnhdeljkoackfaaW.PrintWords Go.Proofs.YtnhdeljkoackfaaW.PrintLast Go.Proofs.YtnhdeljkoackfaaW.PrintMore
attribute [local go_sem] max2_int min2_int max_two min_two max_three min_three max_four min_four   -- for this text's walks alone
open Go.Proofs.Ytnhdeljkoackfaa.Sp
attribute [local go_sem] Go.Proofs.Ytnhdeljkoackfaa.Sp.u64_not
set_option linter.unusedVariables false
set_option linter.unusedSimpArgs false

/-! ### thrumlaw11_SignTurned: function 3 -/
mutual
def thrumlaw11_SignTurned.l0 : Nat → List Int → Bool → List Int → List Int → Int → Int → Int → Int → List Int → List Int → Int → Int → List Int → List Bool → Option (Bool)
 | 0, _, _, _, _, _, _, _, _, _, _, _, _, _, _ => none
 | k + 1, x0, x3, x6, x32, x33, x34, x180000, x180001, x180002, x180003, x180004, x180005, x180006, x180007 => if x34 < x33 then (if 0 ≤ x34 then (if x34 < (x32.length : Int) then (if x6.length < 17592186044416 then (thrumlaw11_SignTurned.l0 k x0 x3 (x6 ++ [wrap64 (-(rd x32 x34))]) x32 x33 (wrap64 (x34 + 1)) x180000 x180001 x180002 x180003 x180004 x180005 x180006 x180007) else (none)) else (none)) else (none)) else ((sign_Press.f x6).bind fun bt184 => ((sign_Loosen.f x180000 x180001 x180002 x180003 x180004 x180005 x180006 x180007).bind fun bt202 => ((sign_Press.f bt202.1).bind fun bt206 => (if bt184.2.2.2.2.2.2.2.2 = 0 then (if bt202.2 = 0 then (if bt206.2.2.2.2.2.2.2.2 = 0 then (if bt184.2.2.2.2.1 = x180004 then (if (bt184.2.2.2.2.2.2.2.1.length : Int) = (x0.length : Int) then (if (x180007.length : Int) = (x0.length : Int) then (if (bt206.2.2.2.2.2.2.2.1.length : Int) = (x0.length : Int) then (thrumlaw11_SignTurned.j1 k x0 x3 (bt206.2.2.2.2.1 != x180004) x180000 x180001 x180002 x180003 x180004 x180005 x180006 x180007 bt184.1 bt184.2.1 bt184.2.2.1 bt184.2.2.2.1 bt184.2.2.2.2.1 bt184.2.2.2.2.2.1 bt184.2.2.2.2.2.2.1 bt184.2.2.2.2.2.2.2.1 bt206.1 bt206.2.1 bt206.2.2.1 bt206.2.2.2.1 bt206.2.2.2.2.1 bt206.2.2.2.2.2.1 bt206.2.2.2.2.2.2.1 bt206.2.2.2.2.2.2.2.1) else (thrumlaw11_SignTurned.j1 k x0 x3 true x180000 x180001 x180002 x180003 x180004 x180005 x180006 x180007 bt184.1 bt184.2.1 bt184.2.2.1 bt184.2.2.2.1 bt184.2.2.2.2.1 bt184.2.2.2.2.2.1 bt184.2.2.2.2.2.2.1 bt184.2.2.2.2.2.2.2.1 bt206.1 bt206.2.1 bt206.2.2.1 bt206.2.2.2.1 bt206.2.2.2.2.1 bt206.2.2.2.2.2.1 bt206.2.2.2.2.2.2.1 bt206.2.2.2.2.2.2.2.1)) else (thrumlaw11_SignTurned.j1 k x0 x3 true x180000 x180001 x180002 x180003 x180004 x180005 x180006 x180007 bt184.1 bt184.2.1 bt184.2.2.1 bt184.2.2.2.1 bt184.2.2.2.2.1 bt184.2.2.2.2.2.1 bt184.2.2.2.2.2.2.1 bt184.2.2.2.2.2.2.2.1 bt206.1 bt206.2.1 bt206.2.2.1 bt206.2.2.2.1 bt206.2.2.2.2.1 bt206.2.2.2.2.2.1 bt206.2.2.2.2.2.2.1 bt206.2.2.2.2.2.2.2.1)) else (thrumlaw11_SignTurned.j1 k x0 x3 true x180000 x180001 x180002 x180003 x180004 x180005 x180006 x180007 bt184.1 bt184.2.1 bt184.2.2.1 bt184.2.2.2.1 bt184.2.2.2.2.1 bt184.2.2.2.2.2.1 bt184.2.2.2.2.2.2.1 bt184.2.2.2.2.2.2.2.1 bt206.1 bt206.2.1 bt206.2.2.1 bt206.2.2.2.1 bt206.2.2.2.2.1 bt206.2.2.2.2.2.1 bt206.2.2.2.2.2.2.1 bt206.2.2.2.2.2.2.2.1)) else (thrumlaw11_SignTurned.j1 k x0 x3 true x180000 x180001 x180002 x180003 x180004 x180005 x180006 x180007 bt184.1 bt184.2.1 bt184.2.2.1 bt184.2.2.2.1 bt184.2.2.2.2.1 bt184.2.2.2.2.2.1 bt184.2.2.2.2.2.2.1 bt184.2.2.2.2.2.2.2.1 bt206.1 bt206.2.1 bt206.2.2.1 bt206.2.2.2.1 bt206.2.2.2.2.1 bt206.2.2.2.2.2.1 bt206.2.2.2.2.2.2.1 bt206.2.2.2.2.2.2.2.1)) else (thrumlaw11_SignTurned.j1 k x0 x3 true x180000 x180001 x180002 x180003 x180004 x180005 x180006 x180007 bt184.1 bt184.2.1 bt184.2.2.1 bt184.2.2.2.1 bt184.2.2.2.2.1 bt184.2.2.2.2.2.1 bt184.2.2.2.2.2.2.1 bt184.2.2.2.2.2.2.2.1 bt206.1 bt206.2.1 bt206.2.2.1 bt206.2.2.2.1 bt206.2.2.2.2.1 bt206.2.2.2.2.2.1 bt206.2.2.2.2.2.2.1 bt206.2.2.2.2.2.2.2.1)) else (thrumlaw11_SignTurned.j1 k x0 x3 true x180000 x180001 x180002 x180003 x180004 x180005 x180006 x180007 bt184.1 bt184.2.1 bt184.2.2.1 bt184.2.2.2.1 bt184.2.2.2.2.1 bt184.2.2.2.2.2.1 bt184.2.2.2.2.2.2.1 bt184.2.2.2.2.2.2.2.1 bt206.1 bt206.2.1 bt206.2.2.1 bt206.2.2.2.1 bt206.2.2.2.2.1 bt206.2.2.2.2.2.1 bt206.2.2.2.2.2.2.1 bt206.2.2.2.2.2.2.2.1)) else (thrumlaw11_SignTurned.j1 k x0 x3 true x180000 x180001 x180002 x180003 x180004 x180005 x180006 x180007 bt184.1 bt184.2.1 bt184.2.2.1 bt184.2.2.2.1 bt184.2.2.2.2.1 bt184.2.2.2.2.2.1 bt184.2.2.2.2.2.2.1 bt184.2.2.2.2.2.2.2.1 bt206.1 bt206.2.1 bt206.2.2.1 bt206.2.2.2.1 bt206.2.2.2.2.1 bt206.2.2.2.2.2.1 bt206.2.2.2.2.2.2.1 bt206.2.2.2.2.2.2.2.1)))))
def thrumlaw11_SignTurned.j1 : Nat → List Int → Bool → Bool → Int → Int → List Int → List Int → Int → Int → List Int → List Bool → Int → Int → List Int → List Int → Int → Int → List Int → List Bool → Int → Int → List Int → List Int → Int → Int → List Int → List Bool → Option (Bool)
 | 0, _, _, _, _, _, _, _, _, _, _, _, _, _, _, _, _, _, _, _, _, _, _, _, _, _, _, _ => none
 | k + 1, x0, x3, x106, x180000, x180001, x180002, x180003, x180004, x180005, x180006, x180007, x202000, x202001, x202002, x202003, x202004, x202005, x202006, x202007, x224000, x224001, x224002, x224003, x224004, x224005, x224006, x224007 => if x106 = true then (some false) else (thrumlaw11_SignTurned.l1 k x3 x0 (x0.length : Int) 0 x180000 x180001 x180002 x180003 x180004 x180005 x180006 x180007 x202000 x202001 x202002 x202003 x202004 x202005 x202006 x202007 x224000 x224001 x224002 x224003 x224004 x224005 x224006 x224007)
def thrumlaw11_SignTurned.l1 : Nat → Bool → List Int → Int → Int → Int → Int → List Int → List Int → Int → Int → List Int → List Bool → Int → Int → List Int → List Int → Int → Int → List Int → List Bool → Int → Int → List Int → List Int → Int → Int → List Int → List Bool → Option (Bool)
 | 0, _, _, _, _, _, _, _, _, _, _, _, _, _, _, _, _, _, _, _, _, _, _, _, _, _, _, _, _ => none
 | k + 1, x3, x107, x108, x109, x180000, x180001, x180002, x180003, x180004, x180005, x180006, x180007, x202000, x202001, x202002, x202003, x202004, x202005, x202006, x202007, x224000, x224001, x224002, x224003, x224004, x224005, x224006, x224007 => if x109 < x108 then (if 0 ≤ x109 then (if x109 < (x107.length : Int) then (if (rd x107 x109) = 0 then (if x180004 > 0 then (if x109 < (x224007.length : Int) then (if x109 < (x180007.length : Int) then (if ((rdOf false x224007 x109) != (rdOf false x180007 x109)) = true then (some false) else (thrumlaw11_SignTurned.l1 k x3 x107 x108 (wrap64 (x109 + 1)) x180000 x180001 x180002 x180003 x180004 x180005 x180006 x180007 x202000 x202001 x202002 x202003 x202004 x202005 x202006 x202007 x224000 x224001 x224002 x224003 x224004 x224005 x224006 x224007)) else (none)) else (none)) else (thrumlaw11_SignTurned.l1 k x3 x107 x108 (wrap64 (x109 + 1)) x180000 x180001 x180002 x180003 x180004 x180005 x180006 x180007 x202000 x202001 x202002 x202003 x202004 x202005 x202006 x202007 x224000 x224001 x224002 x224003 x224004 x224005 x224006 x224007)) else (if x109 < (x202007.length : Int) then (if x109 < (x180007.length : Int) then (if ((rdOf false x202007 x109) == (rdOf false x180007 x109)) = true then (some false) else (if x180004 > 0 then (if x109 < (x224007.length : Int) then (if ((rdOf false x224007 x109) != (rdOf false x180007 x109)) = true then (some false) else (thrumlaw11_SignTurned.l1 k x3 x107 x108 (wrap64 (x109 + 1)) x180000 x180001 x180002 x180003 x180004 x180005 x180006 x180007 x202000 x202001 x202002 x202003 x202004 x202005 x202006 x202007 x224000 x224001 x224002 x224003 x224004 x224005 x224006 x224007)) else (none)) else (thrumlaw11_SignTurned.l1 k x3 x107 x108 (wrap64 (x109 + 1)) x180000 x180001 x180002 x180003 x180004 x180005 x180006 x180007 x202000 x202001 x202002 x202003 x202004 x202005 x202006 x202007 x224000 x224001 x224002 x224003 x224004 x224005 x224006 x224007))) else (none)) else (none))) else (none)) else (none)) else (some x3)
end
def thrumlaw11_SignTurned.f (k : Nat) (l0 : List Int) : Option (Bool) := (thrumlaw11_live.f).bind fun t160 => (if t160 = true then ((thrumlaw11_few.f k l0 ([] : List (List Bool))).bind fun t161 => (if t161 = true then ((sign_Press.f l0).bind fun bt162 => (if bt162.2.2.2.2.2.2.2.2 = 0 then (thrumlaw11_SignTurned.l0 k l0 t160 ([] : List Int) l0 (l0.length : Int) 0 bt162.1 bt162.2.1 bt162.2.2.1 bt162.2.2.2.1 bt162.2.2.2.2.1 bt162.2.2.2.2.2.1 bt162.2.2.2.2.2.2.1 bt162.2.2.2.2.2.2.2.1) else (some t160))) else (some t160))) else (some false))
theorem thrumlaw11_SignTurned.mono_l : ∀ k, (∀ y0 y1 y2 y3 y4 y5 y6 y7 y8 y9 y10 y11 y12 y13, LeO (thrumlaw11_SignTurned.l0 k y0 y1 y2 y3 y4 y5 y6 y7 y8 y9 y10 y11 y12 y13) (thrumlaw11_SignTurned.l0 (k + 1) y0 y1 y2 y3 y4 y5 y6 y7 y8 y9 y10 y11 y12 y13)) ∧ (∀ y0 y1 y2 y3 y4 y5 y6 y7 y8 y9 y10 y11 y12 y13 y14 y15 y16 y17 y18 y19 y20 y21 y22 y23 y24 y25 y26, LeO (thrumlaw11_SignTurned.j1 k y0 y1 y2 y3 y4 y5 y6 y7 y8 y9 y10 y11 y12 y13 y14 y15 y16 y17 y18 y19 y20 y21 y22 y23 y24 y25 y26) (thrumlaw11_SignTurned.j1 (k + 1) y0 y1 y2 y3 y4 y5 y6 y7 y8 y9 y10 y11 y12 y13 y14 y15 y16 y17 y18 y19 y20 y21 y22 y23 y24 y25 y26)) ∧ (∀ y0 y1 y2 y3 y4 y5 y6 y7 y8 y9 y10 y11 y12 y13 y14 y15 y16 y17 y18 y19 y20 y21 y22 y23 y24 y25 y26 y27, LeO (thrumlaw11_SignTurned.l1 k y0 y1 y2 y3 y4 y5 y6 y7 y8 y9 y10 y11 y12 y13 y14 y15 y16 y17 y18 y19 y20 y21 y22 y23 y24 y25 y26 y27) (thrumlaw11_SignTurned.l1 (k + 1) y0 y1 y2 y3 y4 y5 y6 y7 y8 y9 y10 y11 y12 y13 y14 y15 y16 y17 y18 y19 y20 y21 y22 y23 y24 y25 y26 y27))
 | 0 => ⟨fun _ _ _ _ _ _ _ _ _ _ _ _ _ _ r h => by simp [thrumlaw11_SignTurned.l0] at h, fun _ _ _ _ _ _ _ _ _ _ _ _ _ _ _ _ _ _ _ _ _ _ _ _ _ _ _ r h => by simp [thrumlaw11_SignTurned.j1] at h, fun _ _ _ _ _ _ _ _ _ _ _ _ _ _ _ _ _ _ _ _ _ _ _ _ _ _ _ _ r h => by simp [thrumlaw11_SignTurned.l1] at h⟩
 | k + 1 => by
  obtain ⟨ih0, ih1, ih2⟩ := thrumlaw11_SignTurned.mono_l k
  refine ⟨?_, ?_, ?_⟩
  ·
   intro y0 y1 y2 y3 y4 y5 y6 y7 y8 y9 y10 y11 y12 y13
   unfold thrumlaw11_SignTurned.l0
   repeat' first
   | (with_reducible exact ih0 _ _ _ _ _ _ _ _ _ _ _ _ _ _)
   | (with_reducible exact ih1 _ _ _ _ _ _ _ _ _ _ _ _ _ _ _ _ _ _ _ _ _ _ _ _ _ _ _)
   | (with_reducible exact ih2 _ _ _ _ _ _ _ _ _ _ _ _ _ _ _ _ _ _ _ _ _ _ _ _ _ _ _ _)
   | (with_reducible exact thrumlaw11_few.mono _ _ _)
   | (with_reducible exact LeO.refl _)
   | (with_reducible exact LeO.none _)
   | (with_reducible refine LeO.ite ?_ ?_)
   | (with_reducible refine LeO.bind ?_ (fun _ => ?_))
   | exact ih0 _ _ _ _ _ _ _ _ _ _ _ _ _ _
   | exact ih1 _ _ _ _ _ _ _ _ _ _ _ _ _ _ _ _ _ _ _ _ _ _ _ _ _ _ _
   | exact ih2 _ _ _ _ _ _ _ _ _ _ _ _ _ _ _ _ _ _ _ _ _ _ _ _ _ _ _ _
   | exact thrumlaw11_few.mono _ _ _
   | exact LeO.none _
   | refine LeO.ite ?_ ?_
   | refine LeO.bind ?_ (fun _ => ?_)
  ·
   intro y0 y1 y2 y3 y4 y5 y6 y7 y8 y9 y10 y11 y12 y13 y14 y15 y16 y17 y18 y19 y20 y21 y22 y23 y24 y25 y26
   unfold thrumlaw11_SignTurned.j1
   repeat' first
   | (with_reducible exact ih0 _ _ _ _ _ _ _ _ _ _ _ _ _ _)
   | (with_reducible exact ih1 _ _ _ _ _ _ _ _ _ _ _ _ _ _ _ _ _ _ _ _ _ _ _ _ _ _ _)
   | (with_reducible exact ih2 _ _ _ _ _ _ _ _ _ _ _ _ _ _ _ _ _ _ _ _ _ _ _ _ _ _ _ _)
   | (with_reducible exact thrumlaw11_few.mono _ _ _)
   | (with_reducible exact LeO.refl _)
   | (with_reducible exact LeO.none _)
   | (with_reducible refine LeO.ite ?_ ?_)
   | (with_reducible refine LeO.bind ?_ (fun _ => ?_))
   | exact ih0 _ _ _ _ _ _ _ _ _ _ _ _ _ _
   | exact ih1 _ _ _ _ _ _ _ _ _ _ _ _ _ _ _ _ _ _ _ _ _ _ _ _ _ _ _
   | exact ih2 _ _ _ _ _ _ _ _ _ _ _ _ _ _ _ _ _ _ _ _ _ _ _ _ _ _ _ _
   | exact thrumlaw11_few.mono _ _ _
   | exact LeO.none _
   | refine LeO.ite ?_ ?_
   | refine LeO.bind ?_ (fun _ => ?_)
  ·
   intro y0 y1 y2 y3 y4 y5 y6 y7 y8 y9 y10 y11 y12 y13 y14 y15 y16 y17 y18 y19 y20 y21 y22 y23 y24 y25 y26 y27
   unfold thrumlaw11_SignTurned.l1
   repeat' first
   | (with_reducible exact ih0 _ _ _ _ _ _ _ _ _ _ _ _ _ _)
   | (with_reducible exact ih1 _ _ _ _ _ _ _ _ _ _ _ _ _ _ _ _ _ _ _ _ _ _ _ _ _ _ _)
   | (with_reducible exact ih2 _ _ _ _ _ _ _ _ _ _ _ _ _ _ _ _ _ _ _ _ _ _ _ _ _ _ _ _)
   | (with_reducible exact thrumlaw11_few.mono _ _ _)
   | (with_reducible exact LeO.refl _)
   | (with_reducible exact LeO.none _)
   | (with_reducible refine LeO.ite ?_ ?_)
   | (with_reducible refine LeO.bind ?_ (fun _ => ?_))
   | exact ih0 _ _ _ _ _ _ _ _ _ _ _ _ _ _
   | exact ih1 _ _ _ _ _ _ _ _ _ _ _ _ _ _ _ _ _ _ _ _ _ _ _ _ _ _ _
   | exact ih2 _ _ _ _ _ _ _ _ _ _ _ _ _ _ _ _ _ _ _ _ _ _ _ _ _ _ _ _
   | exact thrumlaw11_few.mono _ _ _
   | exact LeO.none _
   | refine LeO.ite ?_ ?_
   | refine LeO.bind ?_ (fun _ => ?_)
theorem thrumlaw11_SignTurned.mono : ∀ a0 k, LeO (thrumlaw11_SignTurned.f k a0) (thrumlaw11_SignTurned.f (k + 1) a0) := by
 intro a0 k
 obtain ⟨ih0, ih1, ih2⟩ := thrumlaw11_SignTurned.mono_l k
 unfold thrumlaw11_SignTurned.f
 repeat' first
   | (with_reducible exact ih0 _ _ _ _ _ _ _ _ _ _ _ _ _ _)
   | (with_reducible exact ih1 _ _ _ _ _ _ _ _ _ _ _ _ _ _ _ _ _ _ _ _ _ _ _ _ _ _ _)
   | (with_reducible exact ih2 _ _ _ _ _ _ _ _ _ _ _ _ _ _ _ _ _ _ _ _ _ _ _ _ _ _ _ _)
   | (with_reducible exact thrumlaw11_few.mono _ _ _)
   | (with_reducible exact LeO.refl _)
   | (with_reducible exact LeO.none _)
   | (with_reducible refine LeO.ite ?_ ?_)
   | (with_reducible refine LeO.bind ?_ (fun _ => ?_))
   | exact ih0 _ _ _ _ _ _ _ _ _ _ _ _ _ _
   | exact ih1 _ _ _ _ _ _ _ _ _ _ _ _ _ _ _ _ _ _ _ _ _ _ _ _ _ _ _
   | exact ih2 _ _ _ _ _ _ _ _ _ _ _ _ _ _ _ _ _ _ _ _ _ _ _ _ _ _ _ _
   | exact thrumlaw11_few.mono _ _ _
   | exact LeO.none _
   | refine LeO.ite ?_ ?_
   | refine LeO.bind ?_ (fun _ => ?_)
theorem thrumlaw11_SignTurned.j1_not {k : Nat} {y0} {y1} {y3} {y4} {y5} {y6} {y7} {y8} {y9} {y10} {y11} {y12} {y13} {y14} {y15} {y16} {y17} {y18} {y19} {y20} {y21} {y22} {y23} {y24} {y25} {y26} (h : thrumlaw11_SignTurned.j1 k y0 y1 true y3 y4 y5 y6 y7 y8 y9 y10 y11 y12 y13 y14 y15 y16 y17 y18 y19 y20 y21 y22 y23 y24 y25 y26 = some true) : False := by cases k <;> simp [thrumlaw11_SignTurned.j1] at h
theorem thrumlaw11_SignTurned.F8 {α : Type} {d : Kd α} {e : Nat} {W : World} {base : Nat} {ok : Nat → Prop} {v : Value} {xs : List α} {g : Nat} (h : d.R e W base (fun k => ok k ∧ k ≠ g) v xs) (x0 x1 x2 x3 x4 x5 x6 x7 : Value) : d.R e ((((((((W.setCell ⟨g, 0, none⟩ x0).setCell ⟨g, 1, none⟩ x1).setCell ⟨g, 2, none⟩ x2).setCell ⟨g, 3, none⟩ x3).setCell ⟨g, 4, none⟩ x4).setCell ⟨g, 5, none⟩ x5).setCell ⟨g, 6, none⟩ x6).setCell ⟨g, 7, none⟩ x7) base (fun k => ok k ∧ k ≠ g) v xs :=
  Kd.R_far (p := ⟨g, 7, none⟩) (Kd.R_far (p := ⟨g, 6, none⟩) (Kd.R_far (p := ⟨g, 5, none⟩) (Kd.R_far (p := ⟨g, 4, none⟩) (Kd.R_far (p := ⟨g, 3, none⟩) (Kd.R_far (p := ⟨g, 2, none⟩) (Kd.R_far (p := ⟨g, 1, none⟩) (Kd.R_far (p := ⟨g, 0, none⟩) h (fun _ hk => hk.2) x0) (fun _ hk => hk.2) x1) (fun _ hk => hk.2) x2) (fun _ hk => hk.2) x3) (fun _ hk => hk.2) x4) (fun _ hk => hk.2) x5) (fun _ hk => hk.2) x6) (fun _ hk => hk.2) x7
set_option maxHeartbeats 80000000 in
set_option maxRecDepth 100000 in
theorem thrumlaw11_SignTurned.calls (k : Nat) (A0 : Option Addr) (c0 : Nat) (l0 : List Int) (r : Bool) (w : World) (hr0 : Kd.C (Kd.int .i64) w A0 l0.length l0) (hc0 : l0.length ≤ c0) (h : thrumlaw11_SignTurned.f k l0 = some r) (hr_ : r = true) :
  Calls Try.prog 3 #[.slice A0 l0.length c0] w fun e w' => e = .returned (.bool r) ∧ Below w.heap.size w w' := by
 have HR_ := Aside0.mk hr_
 clear hr_
 have hu29 := Try.underlying29
 have HR0 := Aside0.mk hr0
 have HC0 := Aside0.mk hc0
 clear hr0 hc0
 have HB := Aside0.mk (Below.refl w.heap.size w)
 have H : ((thrumlaw11_live.f).bind fun t160 => (if t160 = true then ((thrumlaw11_few.f k l0 ([] : List (List Bool))).bind fun t161 => (if t161 = true then ((sign_Press.f l0).bind fun bt162 => (if bt162.2.2.2.2.2.2.2.2 = 0 then (thrumlaw11_SignTurned.l0 k l0 t160 ([] : List Int) l0 (l0.length : Int) 0 bt162.1 bt162.2.1 bt162.2.2.1 bt162.2.2.2.1 bt162.2.2.2.2.1 bt162.2.2.2.2.2.1 bt162.2.2.2.2.2.2.1 bt162.2.2.2.2.2.2.2.1) else (some t160))) else (some t160))) else (some false))) = some r := h
 clear h
 replace H := Option.bind_eq_some_iff.mp H
 obtain ⟨t160, A20, H⟩ := H
 replace H : (if t160 = true then ((thrumlaw11_few.f k l0 ([] : List (List Bool))).bind fun t161 => (if t161 = true then ((sign_Press.f l0).bind fun bt162 => (if bt162.2.2.2.2.2.2.2.2 = 0 then (thrumlaw11_SignTurned.l0 k l0 t160 ([] : List Int) l0 (l0.length : Int) 0 bt162.1 bt162.2.1 bt162.2.2.1 bt162.2.2.2.1 bt162.2.2.2.2.1 bt162.2.2.2.2.2.1 bt162.2.2.2.2.2.2.1 bt162.2.2.2.2.2.2.2.1) else (some t160))) else (some t160))) else (some false)) = some r := H
 have A2 := Aside0.mk A20
 clear A20
 by_cases c3 : t160 = true
 ·
  subst c3
  have H1 : ((thrumlaw11_few.f k l0 ([] : List (List Bool))).bind fun t161 => (if t161 = true then ((sign_Press.f l0).bind fun bt162 => (if bt162.2.2.2.2.2.2.2.2 = 0 then (thrumlaw11_SignTurned.l0 k l0 true ([] : List Int) l0 (l0.length : Int) 0 bt162.1 bt162.2.1 bt162.2.2.1 bt162.2.2.2.1 bt162.2.2.2.2.1 bt162.2.2.2.2.2.1 bt162.2.2.2.2.2.2.1 bt162.2.2.2.2.2.2.2.1) else (some true))) else (some true))) = some r := by rw [if_pos rfl] at H; exact H
  clear H
  have H := H1
  clear H1
  replace H := Option.bind_eq_some_iff.mp H
  obtain ⟨t161, A40, H⟩ := H
  replace H : (if t161 = true then ((sign_Press.f l0).bind fun bt162 => (if bt162.2.2.2.2.2.2.2.2 = 0 then (thrumlaw11_SignTurned.l0 k l0 true ([] : List Int) l0 (l0.length : Int) 0 bt162.1 bt162.2.1 bt162.2.2.1 bt162.2.2.2.1 bt162.2.2.2.2.1 bt162.2.2.2.2.2.1 bt162.2.2.2.2.2.2.1 bt162.2.2.2.2.2.2.2.1) else (some true))) else (some true)) = some r := H
  have A4 := Aside0.mk A40
  clear A40
  by_cases c5 : t161 = true
  ·
   subst c5
   have H1 : ((sign_Press.f l0).bind fun bt162 => (if bt162.2.2.2.2.2.2.2.2 = 0 then (thrumlaw11_SignTurned.l0 k l0 true ([] : List Int) l0 (l0.length : Int) 0 bt162.1 bt162.2.1 bt162.2.2.1 bt162.2.2.2.1 bt162.2.2.2.2.1 bt162.2.2.2.2.2.1 bt162.2.2.2.2.2.2.1 bt162.2.2.2.2.2.2.2.1) else (some true))) = some r := by rw [if_pos rfl] at H; exact H
   clear H
   have H := H1
   clear H1
   replace H := Option.bind_eq_some_iff.mp H
   obtain ⟨⟨t162, t163, t164, t167, t170, t171, t172, t175, t178⟩, A60, H⟩ := H
   replace H : (if t178 = 0 then (thrumlaw11_SignTurned.l0 k l0 true ([] : List Int) l0 (l0.length : Int) 0 t162 t163 t164 t167 t170 t171 t172 t175) else (some true)) = some r := H
   have A6 := Aside0.mk A60
   clear A60
   by_cases c7 : t178 = 0
   ·
    rw [if_pos c7] at H
    have c7b0 : (t178 == 0) = true := beq_iff_eq.mpr c7
    have c7b1 : (t178 != 0) = false := bne_eq_false_iff_eq.mpr c7
    clear c7
    have H' := Aside0.mk H
    clear H
    go_enter Try.func3, Try.ntmps3
    go_wp2_with (first | (go_at_call 6; (with_reducible refine (thrumlaw11_live.calls  true _ A2.out).mono ?_); rintro e w8 ⟨rfl, hb⟩; have n0_ := Aside0.mk (below_step (by repeat (first | (with_reducible first | exact HB.out | apply below_alloc | apply pw_below_drewN | apply below_drew1) | exact HB.out)) hb); clear HB; have HB := n0_; clear n0_; (try clear hb); (try clear hb2); (try clear hk); (try clear hi)) | (go_at_call 7; (refine (thrumlaw11_few.calls k _ _ l0 _ _ ([] : List (List Bool)) true _ ?side1 ?side2 ?side3 ?side4 A4.out).mono ?_); (case side1 => repeat (first | exact (Kd.C_below HR0.out HB.out) | (with_reducible refine Kd.C_alloc ?_ _) | (with_reducible refine Kd.C_drewN ?_ _) | (with_reducible refine Kd.C_drew ?_))); (case side2 => exact HC0.out); (case side3 => exact Kd.C_nil _ _); (case side4 => exact Nat.le_refl _); rintro e w9 ⟨rfl, hb⟩; have n0_ := Aside0.mk (below_step (by repeat (first | (with_reducible first | exact HB.out | apply below_alloc | apply pw_below_drewN | apply below_drew1) | exact HB.out)) hb); clear HB; have HB := n0_; clear n0_; (try clear hb); (try clear hb2); (try clear hk); (try clear hi)) | (go_at_call 8; (with_reducible refine (sign_Press.calls _ _ l0 t162 t163 t164 t167 t170 t171 t172 t175 t178 _ ?side1 ?side2 A6.out).mono ?_); (case side1 => repeat (first | exact (Kd.C_below HR0.out HB.out) | (with_reducible refine Kd.C_alloc ?_ _) | (with_reducible refine Kd.C_drewN ?_ _) | (with_reducible refine Kd.C_drew ?_))); (case side2 => exact HC0.out); rintro e w10 ⟨v165, v168, v173, v176, rfl, ho0, ho1, ho2, ho3, hb⟩; have n0_ := Aside0.mk (Kd.R_lower ho0 (below_size (by repeat (first | (with_reducible first | exact HB.out | apply below_alloc | apply pw_below_drewN | apply below_drew1) | exact HB.out)))); have n1_ := Aside0.mk (Kd.R_lower ho1 (below_size (by repeat (first | (with_reducible first | exact HB.out | apply below_alloc | apply pw_below_drewN | apply below_drew1) | exact HB.out)))); have n2_ := Aside0.mk (Kd.R_lower ho2 (below_size (by repeat (first | (with_reducible first | exact HB.out | apply below_alloc | apply pw_below_drewN | apply below_drew1) | exact HB.out)))); have n3_ := Aside0.mk (Kd.R_lower ho3 (below_size (by repeat (first | (with_reducible first | exact HB.out | apply below_alloc | apply pw_below_drewN | apply below_drew1) | exact HB.out)))); have n4_ := Aside0.mk (below_step (by repeat (first | (with_reducible first | exact HB.out | apply below_alloc | apply pw_below_drewN | apply below_drew1) | exact HB.out)) hb); clear HB; have HO166 := n0_; have HO169 := n1_; have HO174 := n2_; have HO177 := n3_; have HB := n4_; clear n0_ n1_ n2_ n3_ n4_; (try clear hb); (try clear hb2); (try clear hk); (try clear hi); (try clear ho0); (try clear ho1); (try clear ho2); (try clear ho3)) | ((with_reducible refine gate_dst (N := 4) rfl ?_); (try (refine gate_guard (by rfl) ?_; dsimp only)); refine box_event ?hg (N := 4) ?hd (cs := #[.int .i64 0, .int .i64 0, .slice none 0 0, .slice none 0 0, .int .i64 0, .int .i64 0, .slice none 0 0, .slice none 0 0]) (t := 29) ?hr ?_; (case hd => rfl); (case hg => rfl); (case hr => first | (go_simp; done) | (go_simp; rfl)); intro gb179 hg w11 hbox hb; have n0_ := Aside0.mk (Kd.R_below (by (with_reducible repeat (first | apply Kd.R_alloc | apply Kd.R_drewN | apply Kd.R_drew)); exact HO166.out) hb); have n1_ := Aside0.mk (Kd.R_below (by (with_reducible repeat (first | apply Kd.R_alloc | apply Kd.R_drewN | apply Kd.R_drew)); exact HO169.out) hb); have n2_ := Aside0.mk (Kd.R_below (by (with_reducible repeat (first | apply Kd.R_alloc | apply Kd.R_drewN | apply Kd.R_drew)); exact HO174.out) hb); have n3_ := Aside0.mk (Kd.R_below (by (with_reducible repeat (first | apply Kd.R_alloc | apply Kd.R_drewN | apply Kd.R_drew)); exact HO177.out) hb); have n4_ := Aside0.mk (below_step (by repeat (first | (with_reducible first | exact HB.out | apply below_alloc | apply pw_below_drewN | apply below_drew1) | exact HB.out)) hb); have n5_ := Aside0.mk (hbox); have n6_ := Aside0.mk ((by rw [hg]; exact (below_size (by repeat (first | (with_reducible first | exact HB.out | apply below_alloc | apply pw_below_drewN | apply below_drew1) | exact HB.out))) : w.heap.size ≤ gb179)); have n7_ := Aside0.mk ((by rw [hg]; exact (below_size (by repeat (first | (with_reducible first | exact HB.out | apply below_alloc | apply pw_below_drewN | apply below_drew1) | exact HB.out))) : w.heap.size ≤ gb179)); clear HO166; clear HO169; clear HO174; clear HO177; clear HB; have HO166 := n0_; have HO169 := n1_; have HO174 := n2_; have HO177 := n3_; have HB := n4_; have BK179 := n5_; have GW179 := n6_; have GE179 := n7_; clear n0_ n1_ n2_ n3_ n4_ n5_ n6_ n7_; clear hb hbox hg; have hcz12_0 : w11.cell? ⟨gb179, 0, none⟩ = some (.int .i64 0) := (blk_cell BK179.out 0).trans rfl; have hcz12_1 : w11.cell? ⟨gb179, 1, none⟩ = some (.int .i64 0) := (blk_cell BK179.out 1).trans rfl; have hcz12_2 : w11.cell? ⟨gb179, 2, none⟩ = some (.slice none 0 0) := (blk_cell BK179.out 2).trans rfl; have hcz12_3 : w11.cell? ⟨gb179, 3, none⟩ = some (.slice none 0 0) := (blk_cell BK179.out 3).trans rfl; have hcz12_4 : w11.cell? ⟨gb179, 4, none⟩ = some (.int .i64 0) := (blk_cell BK179.out 4).trans rfl; have hcz12_5 : w11.cell? ⟨gb179, 5, none⟩ = some (.int .i64 0) := (blk_cell BK179.out 5).trans rfl; have hcz12_6 : w11.cell? ⟨gb179, 6, none⟩ = some (.slice none 0 0) := (blk_cell BK179.out 6).trans rfl; have hcz12_7 : w11.cell? ⟨gb179, 7, none⟩ = some (.slice none 0 0) := (blk_cell BK179.out 7).trans rfl; have hfz12_0 := blk_frozen BK179.out 0; have hfz12_1 := blk_frozen BK179.out 1; have hfz12_2 := blk_frozen BK179.out 2; have hfz12_3 := blk_frozen BK179.out 3; have hfz12_4 := blk_frozen BK179.out 4; have hfz12_5 := blk_frozen BK179.out 5; have hfz12_6 := blk_frozen BK179.out 6; have hfz12_7 := blk_frozen BK179.out 7; obtain ⟨Ao13, co13, eo13⟩ := Kd.R_slice HO166.out; subst eo13; obtain ⟨Ao14, co14, eo14⟩ := Kd.R_slice HO169.out; subst eo14; obtain ⟨Ao15, co15, eo15⟩ := Kd.R_slice HO174.out; subst eo15; obtain ⟨Ao16, co16, eo16⟩ := Kd.R_slice HO177.out; subst eo16))
    go_loopg [6, 34] k (fun kq v6 v34 w' => ∃ (x6_1 : List Int) (x34_1 : Int), v34 = .int .i64 x34_1 ∧ Aside0 (thrumlaw11_SignTurned.l0 kq l0 true x6_1 l0 (l0.length : Int) x34_1 t162 t163 t164 t167 t170 t171 t172 t175 = some r) ∧ Aside0 (kq ≤ k) ∧ Aside0 (Kd.R (Kd.int .i64) 2 w' w.heap.size (fun k_ => some k_ ≠ ((.slice Ao14 t167.length co14) : Value).ownBlock) v6 x6_1) ∧ Aside0 (Kd.R (Kd.int .i64) 3 w' w.heap.size (fun _ => True) (.slice Ao13 t164.length co13) t164) ∧ Aside0 (Kd.R (Kd.int .i64) 2 w' w.heap.size (fun k_ => some k_ ≠ (v6 : Value).ownBlock) (.slice Ao14 t167.length co14) t167) ∧ Aside0 (Kd.R (Kd.int .u64) 58 w' w.heap.size (fun _ => True) (.slice Ao15 t172.length co15) t172) ∧ Aside0 (Kd.R Kd.bool 4 w' w.heap.size (fun _ => True) (.slice Ao16 t175.length co16) t175) ∧ Aside0 (w'.heap[gb179]? = some (.cells #[.int .i64 t162, .int .i64 t163, (.slice Ao13 t164.length co13), (.slice Ao14 t167.length co14), .int .i64 t170, .int .i64 t171, (.slice Ao15 t172.length co15), (.slice Ao16 t175.length co16)] 29 (0, 0))) ∧ Aside0 (Below w.heap.size w w'))
    case atStart => exact ⟨(([] : List Int)), (0), (by first | rfl | (simp; done) | (simp [*]; done)), H', ⟨Nat.le_refl _⟩, ⟨by first | exact Kd.R_nil _ _ _ _ _ | exact Kd.N_nil _ _ _ _ _ | exact Kd.V_nil _ _ _ _ _ | exact Kd.Q_nil _ _ _ _ _ | exact Kd.S_nil _ _ _ _ _⟩, ⟨by (with_reducible repeat (first | apply Kd.R_alloc | apply Kd.R_drewN | apply Kd.R_drew)); exact Kd.R_mono (thrumlaw11_SignTurned.F8 (Kd.R_types HO166.out BK179.out (by decide)) _ _ _ _ _ _ _ _) (fun _ hk => trivial)⟩, ⟨by (with_reducible repeat (first | apply Kd.R_alloc | apply Kd.R_drewN | apply Kd.R_drew)); exact Kd.R_mono (thrumlaw11_SignTurned.F8 (Kd.R_types HO169.out BK179.out (by decide)) _ _ _ _ _ _ _ _) (fun _ hk => (by simp [Value.ownBlock]))⟩, ⟨by (with_reducible repeat (first | apply Kd.R_alloc | apply Kd.R_drewN | apply Kd.R_drew)); exact Kd.R_mono (thrumlaw11_SignTurned.F8 (Kd.R_types HO174.out BK179.out (by decide)) _ _ _ _ _ _ _ _) (fun _ hk => trivial)⟩, ⟨by (with_reducible repeat (first | apply Kd.R_alloc | apply Kd.R_drewN | apply Kd.R_drew)); exact Kd.R_mono (thrumlaw11_SignTurned.F8 (Kd.R_types HO177.out BK179.out (by decide)) _ _ _ _ _ _ _ _) (fun _ hk => trivial)⟩, ⟨by (with_reducible repeat (first | refine blk_drewN ?_ _ | refine blk_drew ?_ | refine blk_alloc ?_ _)); refine blk_put (cs := #[.int .i64 t162, .int .i64 t163, .slice Ao13 t164.length co13, .slice Ao14 t167.length co14, .int .i64 t170, .int .i64 t171, .slice Ao15 t172.length co15, .slice none 0 0]) ?_ 7 _ rfl; (with_reducible repeat (first | refine blk_drewN ?_ _ | refine blk_drew ?_ | refine blk_alloc ?_ _)); refine blk_put (cs := #[.int .i64 t162, .int .i64 t163, .slice Ao13 t164.length co13, .slice Ao14 t167.length co14, .int .i64 t170, .int .i64 t171, .slice none 0 0, .slice none 0 0]) ?_ 6 _ rfl; (with_reducible repeat (first | refine blk_drewN ?_ _ | refine blk_drew ?_ | refine blk_alloc ?_ _)); refine blk_put (cs := #[.int .i64 t162, .int .i64 t163, .slice Ao13 t164.length co13, .slice Ao14 t167.length co14, .int .i64 t170, .int .i64 0, .slice none 0 0, .slice none 0 0]) ?_ 5 _ rfl; (with_reducible repeat (first | refine blk_drewN ?_ _ | refine blk_drew ?_ | refine blk_alloc ?_ _)); refine blk_put (cs := #[.int .i64 t162, .int .i64 t163, .slice Ao13 t164.length co13, .slice Ao14 t167.length co14, .int .i64 0, .int .i64 0, .slice none 0 0, .slice none 0 0]) ?_ 4 _ rfl; (with_reducible repeat (first | refine blk_drewN ?_ _ | refine blk_drew ?_ | refine blk_alloc ?_ _)); refine blk_put (cs := #[.int .i64 t162, .int .i64 t163, .slice Ao13 t164.length co13, .slice none 0 0, .int .i64 0, .int .i64 0, .slice none 0 0, .slice none 0 0]) ?_ 3 _ rfl; (with_reducible repeat (first | refine blk_drewN ?_ _ | refine blk_drew ?_ | refine blk_alloc ?_ _)); refine blk_put (cs := #[.int .i64 t162, .int .i64 t163, .slice none 0 0, .slice none 0 0, .int .i64 0, .int .i64 0, .slice none 0 0, .slice none 0 0]) ?_ 2 _ rfl; (with_reducible repeat (first | refine blk_drewN ?_ _ | refine blk_drew ?_ | refine blk_alloc ?_ _)); refine blk_put (cs := #[.int .i64 t162, .int .i64 0, .slice none 0 0, .slice none 0 0, .int .i64 0, .int .i64 0, .slice none 0 0, .slice none 0 0]) ?_ 1 _ rfl; (with_reducible repeat (first | refine blk_drewN ?_ _ | refine blk_drew ?_ | refine blk_alloc ?_ _)); refine blk_put (cs := #[.int .i64 0, .int .i64 0, .slice none 0 0, .slice none 0 0, .int .i64 0, .int .i64 0, .slice none 0 0, .slice none 0 0]) ?_ 0 _ rfl; (with_reducible repeat (first | refine blk_drewN ?_ _ | refine blk_drew ?_ | refine blk_alloc ?_ _)); exact BK179.out⟩, ⟨by repeat (first | (with_reducible first | exact HB.out | apply below_alloc | apply pw_below_drewN | apply below_drew1 | refine below_set ?_ GE179.out) | exact HB.out)⟩⟩
    case round =>
     clear H'
     try clear p2
     try clear c3
     try clear c5
     try clear c7
     try clear c7b0
     try clear c7b1
     try clear hcz12_0
     try clear hcz12_1
     try clear hcz12_2
     try clear hcz12_3
     try clear hcz12_4
     try clear hcz12_5
     try clear hcz12_6
     try clear hcz12_7
     try clear hfz12_0
     try clear hfz12_1
     try clear hfz12_2
     try clear hfz12_3
     try clear hfz12_4
     try clear hfz12_5
     try clear hfz12_6
     try clear hfz12_7
     obtain ⟨x6_1, x34_1, rfl, HA, HK1, HO_6, HO_180002, HO_180003, HO_180006, HO_180007, BK179, HB⟩ := hrel
     cases gk with
     | zero => exact absurd HA.out (by simp [thrumlaw11_SignTurned.l0])
     | succ k1 =>
      have H := HA.out
      clear HA
      simp only [thrumlaw11_SignTurned.l0] at H
      by_cases c17 : x34_1 < (l0.length : Int)
      ·
       rw [if_pos c17] at H
       have c17b0 : decide (x34_1 < (l0.length : Int)) = true := decide_eq_true c17
       clear c17
       by_cases c18 : 0 ≤ x34_1
       ·
        rw [if_pos c18] at H
        have c18b0 : decide (0 ≤ x34_1) = true := decide_eq_true c18
        clear c18
        by_cases c19 : x34_1 < (l0.length : Int)
        ·
         rw [if_pos c19] at H
         have c19b0 : decide (x34_1 < (l0.length : Int)) = true := decide_eq_true c19
         clear c19
         by_cases c20 : x6_1.length < 17592186044416
         ·
          rw [if_pos c20] at H
          have LMc20 := Aside0.mk c20
          clear c20
          obtain ⟨y181, hy181⟩ : ∃ y_ : List Int, y_ = (x6_1 ++ [wrap64 (-(rd l0 x34_1))]) := ⟨_, rfl⟩
          replace H : (thrumlaw11_SignTurned.l0 k1 l0 true y181 l0 (l0.length : Int) (wrap64 (x34_1 + 1)) t162 t163 t164 t167 t170 t171 t172 t175) = some r := by first | (rw [hy181]; with_reducible exact H) | (have H2_ := (Option.bind_some _ _).symm.trans H; rw [hy181]; with_reducible exact H2_) | (have H2_ := (Option.bind_some _ _).symm.trans H; with_reducible exact H2_) | with_reducible exact H | (rw [hy181]; exact H) | exact H
          have Ny181 := Aside0.mk hy181
          clear hy181
          focus
           have H' := Aside0.mk H
           clear H
           have p180 : 0 ≤ (x34_1 : Int) := of_decide_eq_true (by first | (with_reducible assumption) | assumption)
           have q180 : x34_1 < (l0.length : Int) := of_decide_eq_true (by first | (with_reducible assumption) | assumption)
           obtain ⟨ad180, e180, hx180_0⟩ := Kd.at_int HR0.out x34_1 p180 q180
           cases e180
           replace hx180_0 := (HB.out.cell (World.block_lt_of_cell? w _ hx180_0)).trans hx180_0
           replace p180 := eq_true p180
           replace q180 := eq_true q180
           go_wp2_with (first | ((with_reducible refine gate_builtin (b := .append) (xs := #[.tmp 38, .tmp 41]) rfl ?_); (try (refine gate_guard (by rfl) ?_; dsimp only)); at_builtin; refine Kd.R_append (Kd.int .i64) (w0 := w) w.heap.size rfl (.tmp 38) (.tmp 41) 22 2 (.int .i64 0) 8 rfl Try.underlying22 info2 rfl (by decide) (by omega) u6 x6_1 (wrap64 (-(rd l0 x34_1))) [.int .i64 (wrap64 (-(rd l0 x34_1)))] (fun k_ => some k_ ≠ (.slice Ao14 t167.length co14 : Value).ownBlock) (fun _ => False) rfl rfl ?aP (fun _ hk => hk.elim) ?aF ?aO ?aB ?aS ?aL ?_; (case aP => exact rfl); (case aB => exact (by repeat (first | (with_reducible first | exact HB.out | apply below_alloc | apply pw_below_drewN | apply below_drew1 | refine below_set ?_ GE179.out) | exact HB.out))); (case aF => exact (fun k_ hk => Kd.fresh' (Kd.R_lt (by (with_reducible repeat (first | apply Kd.R_alloc | apply Kd.R_drewN | apply Kd.R_drew)); exact HO_180003.out)) k_ hk)); (case aO => exact (by (with_reducible repeat (first | apply Kd.R_alloc | apply Kd.R_drewN | apply Kd.R_drew)); exact HO_6.out)); (case aS => exact (below_size (by repeat (first | (with_reducible first | exact HB.out | apply below_alloc | apply pw_below_drewN | apply below_drew1 | refine below_set ?_ GE179.out) | exact HB.out)))); (case aL => have := LMc20.out; omega); intro v182 w21 ho hb hg hat; rw [← Ny181.out] at ho; have n0_ := Aside0.mk (Kd.R_over' (by (with_reducible repeat (first | apply Kd.R_alloc | apply Kd.R_drewN | apply Kd.R_drew)); exact HO_180002.out) (Kd.R_typed (by (with_reducible repeat (first | apply Kd.R_alloc | apply Kd.R_drewN | apply Kd.R_drew)); exact HO_6.out)) (by decide) hg); have n1_ := Aside0.mk (Kd.R_after (ok := (fun _ => True)) (by (with_reducible repeat (first | apply Kd.R_alloc | apply Kd.R_drewN | apply Kd.R_drew)); exact Kd.R_mono HO_180003.out (fun _ hk => ⟨trivial, hk⟩)) hg hat); have n2_ := Aside0.mk (Kd.R_over' (by (with_reducible repeat (first | apply Kd.R_alloc | apply Kd.R_drewN | apply Kd.R_drew)); exact HO_180006.out) (Kd.R_typed (by (with_reducible repeat (first | apply Kd.R_alloc | apply Kd.R_drewN | apply Kd.R_drew)); exact HO_6.out)) (by decide) hg); have n3_ := Aside0.mk (Kd.R_over' (by (with_reducible repeat (first | apply Kd.R_alloc | apply Kd.R_drewN | apply Kd.R_drew)); exact HO_180007.out) (Kd.R_typed (by (with_reducible repeat (first | apply Kd.R_alloc | apply Kd.R_drewN | apply Kd.R_drew)); exact HO_6.out)) (by decide) hg); have n4_ := Aside0.mk (blk_grown (g := gb179) (o := .cells #[.int .i64 t162, .int .i64 t163, .slice Ao13 t164.length co13, .slice Ao14 t167.length co14, .int .i64 t170, .int .i64 t171, .slice Ao15 t172.length co15, .slice Ao16 t175.length co16] 29 (0, 0)) (by (with_reducible repeat (first | refine blk_drewN ?_ _ | refine blk_drew ?_ | refine blk_alloc ?_ _)); exact BK179.out) hg (Kd.R_ne HO_6.out BK179.out (by decide))); have n5_ := Aside0.mk (hb); have n6_ := Aside0.mk (ho); clear HO_180002; clear HO_180003; clear HO_180006; clear HO_180007; clear BK179; clear HB; clear HO_6; have HO_180002 := n0_; have HO_180003 := n1_; have HO_180006 := n2_; have HO_180007 := n3_; have BK179 := n4_; have HB := n5_; have HO183 := n6_; clear n0_ n1_ n2_ n3_ n4_ n5_ n6_; clear ho hb hg hat))
           go_roundg k1
           case measure => have := HK1.out; omega
           case rel => exact ⟨(y181), (wrap64 (x34_1 + 1)), (by first | rfl | (simp; done) | (simp [*]; done)), H', ⟨by have := HK1.out; omega⟩, ⟨by (with_reducible repeat (first | apply Kd.R_alloc | apply Kd.R_drewN | apply Kd.R_drew)); exact HO183.out⟩, ⟨by (with_reducible repeat (first | apply Kd.R_alloc | apply Kd.R_drewN | apply Kd.R_drew)); exact HO_180002.out⟩, ⟨by (with_reducible repeat (first | apply Kd.R_alloc | apply Kd.R_drewN | apply Kd.R_drew)); exact Kd.R_mono HO_180003.out (fun _ hk => hk.2)⟩, ⟨by (with_reducible repeat (first | apply Kd.R_alloc | apply Kd.R_drewN | apply Kd.R_drew)); exact HO_180006.out⟩, ⟨by (with_reducible repeat (first | apply Kd.R_alloc | apply Kd.R_drewN | apply Kd.R_drew)); exact HO_180007.out⟩, ⟨by (with_reducible repeat (first | refine blk_drewN ?_ _ | refine blk_drew ?_ | refine blk_alloc ?_ _)); exact BK179.out⟩, ⟨by repeat (first | (with_reducible first | exact HB.out | apply below_alloc | apply pw_below_drewN | apply below_drew1 | refine below_set ?_ GE179.out) | exact HB.out)⟩⟩
         ·
          rw [if_neg c20] at H
          exact absurd H (by simp)
        ·
         rw [if_neg c19] at H
         exact absurd H (by simp)
       ·
        rw [if_neg c18] at H
        exact absurd H (by simp)
      ·
       rw [if_neg c17] at H
       have c17b0 : decide (x34_1 < (l0.length : Int)) = false := decide_eq_false c17
       clear c17
       replace H := Option.bind_eq_some_iff.mp H
       obtain ⟨⟨t184, t185, t186, t189, t192, t193, t194, t197, t200⟩, A220, H⟩ := H
       replace H : ((sign_Loosen.f t162 t163 t164 t167 t170 t171 t172 t175).bind fun bt202 => ((sign_Press.f bt202.1).bind fun bt206 => (if t200 = 0 then (if bt202.2 = 0 then (if bt206.2.2.2.2.2.2.2.2 = 0 then (if t192 = t170 then (if (t197.length : Int) = (l0.length : Int) then (if (t175.length : Int) = (l0.length : Int) then (if (bt206.2.2.2.2.2.2.2.1.length : Int) = (l0.length : Int) then (thrumlaw11_SignTurned.j1 k1 l0 true (bt206.2.2.2.2.1 != t170) t162 t163 t164 t167 t170 t171 t172 t175 t184 t185 t186 t189 t192 t193 t194 t197 bt206.1 bt206.2.1 bt206.2.2.1 bt206.2.2.2.1 bt206.2.2.2.2.1 bt206.2.2.2.2.2.1 bt206.2.2.2.2.2.2.1 bt206.2.2.2.2.2.2.2.1) else (thrumlaw11_SignTurned.j1 k1 l0 true true t162 t163 t164 t167 t170 t171 t172 t175 t184 t185 t186 t189 t192 t193 t194 t197 bt206.1 bt206.2.1 bt206.2.2.1 bt206.2.2.2.1 bt206.2.2.2.2.1 bt206.2.2.2.2.2.1 bt206.2.2.2.2.2.2.1 bt206.2.2.2.2.2.2.2.1)) else (thrumlaw11_SignTurned.j1 k1 l0 true true t162 t163 t164 t167 t170 t171 t172 t175 t184 t185 t186 t189 t192 t193 t194 t197 bt206.1 bt206.2.1 bt206.2.2.1 bt206.2.2.2.1 bt206.2.2.2.2.1 bt206.2.2.2.2.2.1 bt206.2.2.2.2.2.2.1 bt206.2.2.2.2.2.2.2.1)) else (thrumlaw11_SignTurned.j1 k1 l0 true true t162 t163 t164 t167 t170 t171 t172 t175 t184 t185 t186 t189 t192 t193 t194 t197 bt206.1 bt206.2.1 bt206.2.2.1 bt206.2.2.2.1 bt206.2.2.2.2.1 bt206.2.2.2.2.2.1 bt206.2.2.2.2.2.2.1 bt206.2.2.2.2.2.2.2.1)) else (thrumlaw11_SignTurned.j1 k1 l0 true true t162 t163 t164 t167 t170 t171 t172 t175 t184 t185 t186 t189 t192 t193 t194 t197 bt206.1 bt206.2.1 bt206.2.2.1 bt206.2.2.2.1 bt206.2.2.2.2.1 bt206.2.2.2.2.2.1 bt206.2.2.2.2.2.2.1 bt206.2.2.2.2.2.2.2.1)) else (thrumlaw11_SignTurned.j1 k1 l0 true true t162 t163 t164 t167 t170 t171 t172 t175 t184 t185 t186 t189 t192 t193 t194 t197 bt206.1 bt206.2.1 bt206.2.2.1 bt206.2.2.2.1 bt206.2.2.2.2.1 bt206.2.2.2.2.2.1 bt206.2.2.2.2.2.2.1 bt206.2.2.2.2.2.2.2.1)) else (thrumlaw11_SignTurned.j1 k1 l0 true true t162 t163 t164 t167 t170 t171 t172 t175 t184 t185 t186 t189 t192 t193 t194 t197 bt206.1 bt206.2.1 bt206.2.2.1 bt206.2.2.2.1 bt206.2.2.2.2.1 bt206.2.2.2.2.2.1 bt206.2.2.2.2.2.2.1 bt206.2.2.2.2.2.2.2.1)) else (thrumlaw11_SignTurned.j1 k1 l0 true true t162 t163 t164 t167 t170 t171 t172 t175 t184 t185 t186 t189 t192 t193 t194 t197 bt206.1 bt206.2.1 bt206.2.2.1 bt206.2.2.2.1 bt206.2.2.2.2.1 bt206.2.2.2.2.2.1 bt206.2.2.2.2.2.2.1 bt206.2.2.2.2.2.2.2.1)))) = some r := H
       have A22 := Aside0.mk A220
       clear A220
       replace H := Option.bind_eq_some_iff.mp H
       obtain ⟨⟨t202, t205⟩, A230, H⟩ := H
       replace H : ((sign_Press.f t202).bind fun bt206 => (if t200 = 0 then (if t205 = 0 then (if bt206.2.2.2.2.2.2.2.2 = 0 then (if t192 = t170 then (if (t197.length : Int) = (l0.length : Int) then (if (t175.length : Int) = (l0.length : Int) then (if (bt206.2.2.2.2.2.2.2.1.length : Int) = (l0.length : Int) then (thrumlaw11_SignTurned.j1 k1 l0 true (bt206.2.2.2.2.1 != t170) t162 t163 t164 t167 t170 t171 t172 t175 t184 t185 t186 t189 t192 t193 t194 t197 bt206.1 bt206.2.1 bt206.2.2.1 bt206.2.2.2.1 bt206.2.2.2.2.1 bt206.2.2.2.2.2.1 bt206.2.2.2.2.2.2.1 bt206.2.2.2.2.2.2.2.1) else (thrumlaw11_SignTurned.j1 k1 l0 true true t162 t163 t164 t167 t170 t171 t172 t175 t184 t185 t186 t189 t192 t193 t194 t197 bt206.1 bt206.2.1 bt206.2.2.1 bt206.2.2.2.1 bt206.2.2.2.2.1 bt206.2.2.2.2.2.1 bt206.2.2.2.2.2.2.1 bt206.2.2.2.2.2.2.2.1)) else (thrumlaw11_SignTurned.j1 k1 l0 true true t162 t163 t164 t167 t170 t171 t172 t175 t184 t185 t186 t189 t192 t193 t194 t197 bt206.1 bt206.2.1 bt206.2.2.1 bt206.2.2.2.1 bt206.2.2.2.2.1 bt206.2.2.2.2.2.1 bt206.2.2.2.2.2.2.1 bt206.2.2.2.2.2.2.2.1)) else (thrumlaw11_SignTurned.j1 k1 l0 true true t162 t163 t164 t167 t170 t171 t172 t175 t184 t185 t186 t189 t192 t193 t194 t197 bt206.1 bt206.2.1 bt206.2.2.1 bt206.2.2.2.1 bt206.2.2.2.2.1 bt206.2.2.2.2.2.1 bt206.2.2.2.2.2.2.1 bt206.2.2.2.2.2.2.2.1)) else (thrumlaw11_SignTurned.j1 k1 l0 true true t162 t163 t164 t167 t170 t171 t172 t175 t184 t185 t186 t189 t192 t193 t194 t197 bt206.1 bt206.2.1 bt206.2.2.1 bt206.2.2.2.1 bt206.2.2.2.2.1 bt206.2.2.2.2.2.1 bt206.2.2.2.2.2.2.1 bt206.2.2.2.2.2.2.2.1)) else (thrumlaw11_SignTurned.j1 k1 l0 true true t162 t163 t164 t167 t170 t171 t172 t175 t184 t185 t186 t189 t192 t193 t194 t197 bt206.1 bt206.2.1 bt206.2.2.1 bt206.2.2.2.1 bt206.2.2.2.2.1 bt206.2.2.2.2.2.1 bt206.2.2.2.2.2.2.1 bt206.2.2.2.2.2.2.2.1)) else (thrumlaw11_SignTurned.j1 k1 l0 true true t162 t163 t164 t167 t170 t171 t172 t175 t184 t185 t186 t189 t192 t193 t194 t197 bt206.1 bt206.2.1 bt206.2.2.1 bt206.2.2.2.1 bt206.2.2.2.2.1 bt206.2.2.2.2.2.1 bt206.2.2.2.2.2.2.1 bt206.2.2.2.2.2.2.2.1)) else (thrumlaw11_SignTurned.j1 k1 l0 true true t162 t163 t164 t167 t170 t171 t172 t175 t184 t185 t186 t189 t192 t193 t194 t197 bt206.1 bt206.2.1 bt206.2.2.1 bt206.2.2.2.1 bt206.2.2.2.2.1 bt206.2.2.2.2.2.1 bt206.2.2.2.2.2.2.1 bt206.2.2.2.2.2.2.2.1))) = some r := H
       have A23 := Aside0.mk A230
       clear A230
       replace H := Option.bind_eq_some_iff.mp H
       obtain ⟨⟨t206, t207, t208, t211, t214, t215, t216, t219, t222⟩, A240, H⟩ := H
       replace H : (if t200 = 0 then (if t205 = 0 then (if t222 = 0 then (if t192 = t170 then (if (t197.length : Int) = (l0.length : Int) then (if (t175.length : Int) = (l0.length : Int) then (if (t219.length : Int) = (l0.length : Int) then (thrumlaw11_SignTurned.j1 k1 l0 true (t214 != t170) t162 t163 t164 t167 t170 t171 t172 t175 t184 t185 t186 t189 t192 t193 t194 t197 t206 t207 t208 t211 t214 t215 t216 t219) else (thrumlaw11_SignTurned.j1 k1 l0 true true t162 t163 t164 t167 t170 t171 t172 t175 t184 t185 t186 t189 t192 t193 t194 t197 t206 t207 t208 t211 t214 t215 t216 t219)) else (thrumlaw11_SignTurned.j1 k1 l0 true true t162 t163 t164 t167 t170 t171 t172 t175 t184 t185 t186 t189 t192 t193 t194 t197 t206 t207 t208 t211 t214 t215 t216 t219)) else (thrumlaw11_SignTurned.j1 k1 l0 true true t162 t163 t164 t167 t170 t171 t172 t175 t184 t185 t186 t189 t192 t193 t194 t197 t206 t207 t208 t211 t214 t215 t216 t219)) else (thrumlaw11_SignTurned.j1 k1 l0 true true t162 t163 t164 t167 t170 t171 t172 t175 t184 t185 t186 t189 t192 t193 t194 t197 t206 t207 t208 t211 t214 t215 t216 t219)) else (thrumlaw11_SignTurned.j1 k1 l0 true true t162 t163 t164 t167 t170 t171 t172 t175 t184 t185 t186 t189 t192 t193 t194 t197 t206 t207 t208 t211 t214 t215 t216 t219)) else (thrumlaw11_SignTurned.j1 k1 l0 true true t162 t163 t164 t167 t170 t171 t172 t175 t184 t185 t186 t189 t192 t193 t194 t197 t206 t207 t208 t211 t214 t215 t216 t219)) else (thrumlaw11_SignTurned.j1 k1 l0 true true t162 t163 t164 t167 t170 t171 t172 t175 t184 t185 t186 t189 t192 t193 t194 t197 t206 t207 t208 t211 t214 t215 t216 t219)) = some r := H
       have A24 := Aside0.mk A240
       clear A240
       have HC25 := Aside0.mk H
       clear H
       obtain ⟨Ao26, co26, eo26⟩ := Kd.R_slice HO_6.out
       subst eo26
       go_upto_region 18 with (first | (go_at_call 8; (with_reducible refine (sign_Press.calls _ _ x6_1 t184 t185 t186 t189 t192 t193 t194 t197 t200 _ ?side1 ?side2 A22.out).mono ?_); (case side1 => repeat (first | exact (Kd.R_reads' HO_6.out).2.2 | (with_reducible refine Kd.C_alloc ?_ _) | (with_reducible refine Kd.C_drewN ?_ _) | (with_reducible refine Kd.C_drew ?_))); (case side2 => exact (Kd.R_reads' HO_6.out).2.1); rintro e w27 ⟨v187, v190, v195, v198, rfl, ho0, ho1, ho2, ho3, hb⟩; have n0_ := Aside0.mk (Kd.R_elder' (by (with_reducible repeat (first | apply Kd.R_alloc | apply Kd.R_drewN | apply Kd.R_drew)); exact HO_6.out) (Kd.R_base ho1) hb); have n1_ := Aside0.mk (Kd.R_elder' (by (with_reducible repeat (first | apply Kd.R_alloc | apply Kd.R_drewN | apply Kd.R_drew)); exact HO_180002.out) (Kd.R_base ho0) hb); have n2_ := Aside0.mk (Kd.R_elder' (by (with_reducible repeat (first | apply Kd.R_alloc | apply Kd.R_drewN | apply Kd.R_drew)); exact HO_180003.out) (Kd.R_base ho1) hb); have n3_ := Aside0.mk (Kd.R_elder' (by (with_reducible repeat (first | apply Kd.R_alloc | apply Kd.R_drewN | apply Kd.R_drew)); exact HO_180006.out) (Kd.R_base ho2) hb); have n4_ := Aside0.mk (Kd.R_elder' (by (with_reducible repeat (first | apply Kd.R_alloc | apply Kd.R_drewN | apply Kd.R_drew)); exact HO_180007.out) (Kd.R_base ho3) hb); have n5_ := Aside0.mk (Kd.R_lower (Kd.R_new' ho0 (Kd.R_lt (by (with_reducible repeat (first | apply Kd.R_alloc | apply Kd.R_drewN | apply Kd.R_drew)); exact HO_180002.out))) (below_size (by repeat (first | (with_reducible first | exact HB.out | apply below_alloc | apply pw_below_drewN | apply below_drew1 | refine below_set ?_ GE179.out) | exact HB.out)))); have n6_ := Aside0.mk (Kd.R_lower (Kd.R_new' (Kd.R_new' ho1 (Kd.R_lt (by (with_reducible repeat (first | apply Kd.R_alloc | apply Kd.R_drewN | apply Kd.R_drew)); exact HO_6.out))) (Kd.R_lt (by (with_reducible repeat (first | apply Kd.R_alloc | apply Kd.R_drewN | apply Kd.R_drew)); exact HO_180003.out))) (below_size (by repeat (first | (with_reducible first | exact HB.out | apply below_alloc | apply pw_below_drewN | apply below_drew1 | refine below_set ?_ GE179.out) | exact HB.out)))); have n7_ := Aside0.mk (Kd.R_lower (Kd.R_new' ho2 (Kd.R_lt (by (with_reducible repeat (first | apply Kd.R_alloc | apply Kd.R_drewN | apply Kd.R_drew)); exact HO_180006.out))) (below_size (by repeat (first | (with_reducible first | exact HB.out | apply below_alloc | apply pw_below_drewN | apply below_drew1 | refine below_set ?_ GE179.out) | exact HB.out)))); have n8_ := Aside0.mk (Kd.R_lower (Kd.R_new' ho3 (Kd.R_lt (by (with_reducible repeat (first | apply Kd.R_alloc | apply Kd.R_drewN | apply Kd.R_drew)); exact HO_180007.out))) (below_size (by repeat (first | (with_reducible first | exact HB.out | apply below_alloc | apply pw_below_drewN | apply below_drew1 | refine below_set ?_ GE179.out) | exact HB.out)))); have n9_ := Aside0.mk (blk_below (g := gb179) (o := .cells #[.int .i64 t162, .int .i64 t163, .slice Ao13 t164.length co13, .slice Ao14 t167.length co14, .int .i64 t170, .int .i64 t171, .slice Ao15 t172.length co15, .slice Ao16 t175.length co16] 29 (0, 0)) (by (with_reducible repeat (first | refine blk_drewN ?_ _ | refine blk_drew ?_ | refine blk_alloc ?_ _)); exact BK179.out) hb); have n10_ := Aside0.mk (below_step (by repeat (first | (with_reducible first | exact HB.out | apply below_alloc | apply pw_below_drewN | apply below_drew1 | refine below_set ?_ GE179.out) | exact HB.out)) hb); clear HO_6; clear HO_180002; clear HO_180003; clear HO_180006; clear HO_180007; clear BK179; clear HB; have HO_6 := n0_; have HO_180002 := n1_; have HO_180003 := n2_; have HO_180006 := n3_; have HO_180007 := n4_; have HO188 := n5_; have HO191 := n6_; have HO196 := n7_; have HO199 := n8_; have BK179 := n9_; have HB := n10_; clear n0_ n1_ n2_ n3_ n4_ n5_ n6_ n7_ n8_ n9_ n10_; (try clear hb); (try clear hb2); (try clear hk); (try clear hi); (try clear ho0); (try clear ho1); (try clear ho2); (try clear ho3)) | ((with_reducible refine gate_dst (N := 9) rfl ?_); (try (refine gate_guard (by rfl) ?_; dsimp only)); refine box_event ?hg (N := 9) ?hd (cs := #[.int .i64 0, .int .i64 0, .slice none 0 0, .slice none 0 0, .int .i64 0, .int .i64 0, .slice none 0 0, .slice none 0 0]) (t := 29) ?hr ?_; (case hd => rfl); (case hg => rfl); (case hr => first | (go_simp; done) | (go_simp; rfl)); intro gb201 hg w28 hbox hb; have n0_ := Aside0.mk (Kd.R_below (by (with_reducible repeat (first | apply Kd.R_alloc | apply Kd.R_drewN | apply Kd.R_drew)); exact HO_6.out) hb); have n1_ := Aside0.mk (Kd.R_below (by (with_reducible repeat (first | apply Kd.R_alloc | apply Kd.R_drewN | apply Kd.R_drew)); exact HO_180002.out) hb); have n2_ := Aside0.mk (Kd.R_below (by (with_reducible repeat (first | apply Kd.R_alloc | apply Kd.R_drewN | apply Kd.R_drew)); exact HO_180003.out) hb); have n3_ := Aside0.mk (Kd.R_below (by (with_reducible repeat (first | apply Kd.R_alloc | apply Kd.R_drewN | apply Kd.R_drew)); exact HO_180006.out) hb); have n4_ := Aside0.mk (Kd.R_below (by (with_reducible repeat (first | apply Kd.R_alloc | apply Kd.R_drewN | apply Kd.R_drew)); exact HO_180007.out) hb); have n5_ := Aside0.mk (Kd.R_below (by (with_reducible repeat (first | apply Kd.R_alloc | apply Kd.R_drewN | apply Kd.R_drew)); exact HO188.out) hb); have n6_ := Aside0.mk (Kd.R_below (by (with_reducible repeat (first | apply Kd.R_alloc | apply Kd.R_drewN | apply Kd.R_drew)); exact HO191.out) hb); have n7_ := Aside0.mk (Kd.R_below (by (with_reducible repeat (first | apply Kd.R_alloc | apply Kd.R_drewN | apply Kd.R_drew)); exact HO196.out) hb); have n8_ := Aside0.mk (Kd.R_below (by (with_reducible repeat (first | apply Kd.R_alloc | apply Kd.R_drewN | apply Kd.R_drew)); exact HO199.out) hb); have n9_ := Aside0.mk (blk_below (g := gb179) (o := .cells #[.int .i64 t162, .int .i64 t163, .slice Ao13 t164.length co13, .slice Ao14 t167.length co14, .int .i64 t170, .int .i64 t171, .slice Ao15 t172.length co15, .slice Ao16 t175.length co16] 29 (0, 0)) (by (with_reducible repeat (first | refine blk_drewN ?_ _ | refine blk_drew ?_ | refine blk_alloc ?_ _)); exact BK179.out) hb); have n10_ := Aside0.mk (below_step (by repeat (first | (with_reducible first | exact HB.out | apply below_alloc | apply pw_below_drewN | apply below_drew1 | refine below_set ?_ GE179.out) | exact HB.out)) hb); have n11_ := Aside0.mk (hbox); have n12_ := Aside0.mk ((by rw [hg]; exact (below_size (by repeat (first | (with_reducible first | exact HB.out | apply below_alloc | apply pw_below_drewN | apply below_drew1 | refine below_set ?_ GE179.out) | exact HB.out))) : w.heap.size ≤ gb201)); have n13_ := Aside0.mk ((by rw [hg]; exact (below_size (by repeat (first | (with_reducible first | exact HB.out | apply below_alloc | apply pw_below_drewN | apply below_drew1 | refine below_set ?_ GE179.out) | exact HB.out))) : w.heap.size ≤ gb201)); have n14_ := Aside0.mk ((by rw [hg]; exact Nat.ne_of_lt (blk_lt (g := gb179) (o := .cells #[.int .i64 t162, .int .i64 t163, .slice Ao13 t164.length co13, .slice Ao14 t167.length co14, .int .i64 t170, .int .i64 t171, .slice Ao15 t172.length co15, .slice Ao16 t175.length co16] 29 (0, 0)) (by (with_reducible repeat (first | refine blk_drewN ?_ _ | refine blk_drew ?_ | refine blk_alloc ?_ _)); exact BK179.out)) : gb179 ≠ gb201)); have n15_ := Aside0.mk ((by rw [hg]; exact Nat.ne_of_gt (blk_lt (g := gb179) (o := .cells #[.int .i64 t162, .int .i64 t163, .slice Ao13 t164.length co13, .slice Ao14 t167.length co14, .int .i64 t170, .int .i64 t171, .slice Ao15 t172.length co15, .slice Ao16 t175.length co16] 29 (0, 0)) (by (with_reducible repeat (first | refine blk_drewN ?_ _ | refine blk_drew ?_ | refine blk_alloc ?_ _)); exact BK179.out)) : gb201 ≠ gb179)); clear HO_6; clear HO_180002; clear HO_180003; clear HO_180006; clear HO_180007; clear HO188; clear HO191; clear HO196; clear HO199; clear BK179; clear HB; have HO_6 := n0_; have HO_180002 := n1_; have HO_180003 := n2_; have HO_180006 := n3_; have HO_180007 := n4_; have HO188 := n5_; have HO191 := n6_; have HO196 := n7_; have HO199 := n8_; have BK179 := n9_; have HB := n10_; have BK201 := n11_; have GW201 := n12_; have GE201 := n13_; have NB179_201 := n14_; have NB201_179 := n15_; clear n0_ n1_ n2_ n3_ n4_ n5_ n6_ n7_ n8_ n9_ n10_ n11_ n12_ n13_ n14_ n15_; clear hb hbox hg; have hnb29 := NB201_179.out; have hnc29 := NB179_201.out; have hcz30_0 : w28.cell? ⟨gb201, 0, none⟩ = some (.int .i64 0) := (blk_cell BK201.out 0).trans rfl; have hcz30_1 : w28.cell? ⟨gb201, 1, none⟩ = some (.int .i64 0) := (blk_cell BK201.out 1).trans rfl; have hcz30_2 : w28.cell? ⟨gb201, 2, none⟩ = some (.slice none 0 0) := (blk_cell BK201.out 2).trans rfl; have hcz30_3 : w28.cell? ⟨gb201, 3, none⟩ = some (.slice none 0 0) := (blk_cell BK201.out 3).trans rfl; have hcz30_4 : w28.cell? ⟨gb201, 4, none⟩ = some (.int .i64 0) := (blk_cell BK201.out 4).trans rfl; have hcz30_5 : w28.cell? ⟨gb201, 5, none⟩ = some (.int .i64 0) := (blk_cell BK201.out 5).trans rfl; have hcz30_6 : w28.cell? ⟨gb201, 6, none⟩ = some (.slice none 0 0) := (blk_cell BK201.out 6).trans rfl; have hcz30_7 : w28.cell? ⟨gb201, 7, none⟩ = some (.slice none 0 0) := (blk_cell BK201.out 7).trans rfl; have hfz30_0 := blk_frozen BK201.out 0; have hfz30_1 := blk_frozen BK201.out 1; have hfz30_2 := blk_frozen BK201.out 2; have hfz30_3 := blk_frozen BK201.out 3; have hfz30_4 := blk_frozen BK201.out 4; have hfz30_5 := blk_frozen BK201.out 5; have hfz30_6 := blk_frozen BK201.out 6; have hfz30_7 := blk_frozen BK201.out 7; obtain ⟨Ao31, co31, eo31⟩ := Kd.R_slice HO188.out; subst eo31; obtain ⟨Ao32, co32, eo32⟩ := Kd.R_slice HO191.out; subst eo32; obtain ⟨Ao33, co33, eo33⟩ := Kd.R_slice HO196.out; subst eo33; obtain ⟨Ao34, co34, eo34⟩ := Kd.R_slice HO199.out; subst eo34; have hcz35_0 : w28.cell? ⟨gb179, 0, none⟩ = some (.int .i64 t162) := (blk_cell BK179.out 0).trans rfl; have hcz35_1 : w28.cell? ⟨gb179, 1, none⟩ = some (.int .i64 t163) := (blk_cell BK179.out 1).trans rfl; have hcz35_2 : w28.cell? ⟨gb179, 2, none⟩ = some (.slice Ao13 t164.length co13) := (blk_cell BK179.out 2).trans rfl; have hcz35_3 : w28.cell? ⟨gb179, 3, none⟩ = some (.slice Ao14 t167.length co14) := (blk_cell BK179.out 3).trans rfl; have hcz35_4 : w28.cell? ⟨gb179, 4, none⟩ = some (.int .i64 t170) := (blk_cell BK179.out 4).trans rfl; have hcz35_5 : w28.cell? ⟨gb179, 5, none⟩ = some (.int .i64 t171) := (blk_cell BK179.out 5).trans rfl; have hcz35_6 : w28.cell? ⟨gb179, 6, none⟩ = some (.slice Ao15 t172.length co15) := (blk_cell BK179.out 6).trans rfl; have hcz35_7 : w28.cell? ⟨gb179, 7, none⟩ = some (.slice Ao16 t175.length co16) := (blk_cell BK179.out 7).trans rfl; have hfz35_0 := blk_frozen BK179.out 0; have hfz35_1 := blk_frozen BK179.out 1; have hfz35_2 := blk_frozen BK179.out 2; have hfz35_3 := blk_frozen BK179.out 3; have hfz35_4 := blk_frozen BK179.out 4; have hfz35_5 := blk_frozen BK179.out 5; have hfz35_6 := blk_frozen BK179.out 6; have hfz35_7 := blk_frozen BK179.out 7) | (go_at_call 9; (with_reducible refine (sign_Loosen.calls t162 t163 _ _ t164 _ _ t167 t170 t171 _ _ t172 _ _ t175 t202 t205 _ ?side1 ?side2 ?side3 ?side4 ?side5 ?side6 ?side7 ?side8 A23.out).mono ?_); (case side1 => refine (Kd.R_reads' (e := 3) (base := w.heap.size) (ok := fun k_ => (True ∧ some k_ ≠ (.slice Ao31 t186.length co31 : Value).ownBlock)) (n := t164.length) (c := co13) ?_).2.2; exact (by (with_reducible repeat (first | apply Kd.R_alloc | apply Kd.R_drewN | apply Kd.R_drew)); exact (Kd.R_mono (thrumlaw11_SignTurned.F8 (Kd.R_types HO_180002.out BK201.out (by decide)) _ _ _ _ _ _ _ _) (fun _ h_ => h_.1)))); (case side2 => exact (Kd.R_reads' HO_180002.out).2.1); (case side3 => refine (Kd.R_reads' (e := 2) (base := w.heap.size) (ok := fun k_ => (some k_ ≠ (.slice Ao26 x6_1.length co26 : Value).ownBlock ∧ some k_ ≠ (.slice Ao32 t189.length co32 : Value).ownBlock)) (n := t167.length) (c := co14) ?_).2.2; exact (by (with_reducible repeat (first | apply Kd.R_alloc | apply Kd.R_drewN | apply Kd.R_drew)); exact (Kd.R_mono (thrumlaw11_SignTurned.F8 (Kd.R_types HO_180003.out BK201.out (by decide)) _ _ _ _ _ _ _ _) (fun _ h_ => h_.1)))); (case side4 => exact (Kd.R_reads' HO_180003.out).2.1); (case side5 => refine (Kd.R_reads' (e := 58) (base := w.heap.size) (ok := fun k_ => (True ∧ some k_ ≠ (.slice Ao33 t194.length co33 : Value).ownBlock)) (n := t172.length) (c := co15) ?_).2.2; exact (by (with_reducible repeat (first | apply Kd.R_alloc | apply Kd.R_drewN | apply Kd.R_drew)); exact (Kd.R_mono (thrumlaw11_SignTurned.F8 (Kd.R_types HO_180006.out BK201.out (by decide)) _ _ _ _ _ _ _ _) (fun _ h_ => h_.1)))); (case side6 => exact (Kd.R_reads' HO_180006.out).2.1); (case side7 => refine (Kd.R_reads' (e := 4) (base := w.heap.size) (ok := fun k_ => (True ∧ some k_ ≠ (.slice Ao34 t197.length co34 : Value).ownBlock)) (n := t175.length) (c := co16) ?_).2.2; exact (by (with_reducible repeat (first | apply Kd.R_alloc | apply Kd.R_drewN | apply Kd.R_drew)); exact (Kd.R_mono (thrumlaw11_SignTurned.F8 (Kd.R_types HO_180007.out BK201.out (by decide)) _ _ _ _ _ _ _ _) (fun _ h_ => h_.1)))); (case side8 => exact (Kd.R_reads' HO_180007.out).2.1); rintro e w36 ⟨v203, rfl, ho0, hb⟩; have n0_ := Aside0.mk (Kd.R_elder' (by (with_reducible repeat (first | apply Kd.R_alloc | apply Kd.R_drewN | apply Kd.R_drew)); exact (Kd.R_mono (thrumlaw11_SignTurned.F8 (Kd.R_types HO_6.out BK201.out (by decide)) _ _ _ _ _ _ _ _) (fun _ h_ => h_.1))) (Kd.R_base ho0) hb); have n1_ := Aside0.mk (Kd.R_below (by (with_reducible repeat (first | apply Kd.R_alloc | apply Kd.R_drewN | apply Kd.R_drew)); exact (Kd.R_mono (thrumlaw11_SignTurned.F8 (Kd.R_types HO_180002.out BK201.out (by decide)) _ _ _ _ _ _ _ _) (fun _ h_ => h_.1))) hb); have n2_ := Aside0.mk (Kd.R_elder' (by (with_reducible repeat (first | apply Kd.R_alloc | apply Kd.R_drewN | apply Kd.R_drew)); exact (Kd.R_mono (thrumlaw11_SignTurned.F8 (Kd.R_types HO_180003.out BK201.out (by decide)) _ _ _ _ _ _ _ _) (fun _ h_ => h_.1))) (Kd.R_base ho0) hb); have n3_ := Aside0.mk (Kd.R_below (by (with_reducible repeat (first | apply Kd.R_alloc | apply Kd.R_drewN | apply Kd.R_drew)); exact (Kd.R_mono (thrumlaw11_SignTurned.F8 (Kd.R_types HO_180006.out BK201.out (by decide)) _ _ _ _ _ _ _ _) (fun _ h_ => h_.1))) hb); have n4_ := Aside0.mk (Kd.R_below (by (with_reducible repeat (first | apply Kd.R_alloc | apply Kd.R_drewN | apply Kd.R_drew)); exact (Kd.R_mono (thrumlaw11_SignTurned.F8 (Kd.R_types HO_180007.out BK201.out (by decide)) _ _ _ _ _ _ _ _) (fun _ h_ => h_.1))) hb); have n5_ := Aside0.mk (Kd.R_below (by (with_reducible repeat (first | apply Kd.R_alloc | apply Kd.R_drewN | apply Kd.R_drew)); exact (Kd.R_mono (thrumlaw11_SignTurned.F8 (Kd.R_types HO188.out BK201.out (by decide)) _ _ _ _ _ _ _ _) (fun _ h_ => h_.1))) hb); have n6_ := Aside0.mk (Kd.R_elder' (by (with_reducible repeat (first | apply Kd.R_alloc | apply Kd.R_drewN | apply Kd.R_drew)); exact (Kd.R_mono (thrumlaw11_SignTurned.F8 (Kd.R_types HO191.out BK201.out (by decide)) _ _ _ _ _ _ _ _) (fun _ h_ => h_.1))) (Kd.R_base ho0) hb); have n7_ := Aside0.mk (Kd.R_below (by (with_reducible repeat (first | apply Kd.R_alloc | apply Kd.R_drewN | apply Kd.R_drew)); exact (Kd.R_mono (thrumlaw11_SignTurned.F8 (Kd.R_types HO196.out BK201.out (by decide)) _ _ _ _ _ _ _ _) (fun _ h_ => h_.1))) hb); have n8_ := Aside0.mk (Kd.R_below (by (with_reducible repeat (first | apply Kd.R_alloc | apply Kd.R_drewN | apply Kd.R_drew)); exact (Kd.R_mono (thrumlaw11_SignTurned.F8 (Kd.R_types HO199.out BK201.out (by decide)) _ _ _ _ _ _ _ _) (fun _ h_ => h_.1))) hb); have n9_ := Aside0.mk (Kd.R_lower (Kd.R_new' (Kd.R_new' (Kd.R_new' ho0 (Kd.R_lt (by (with_reducible repeat (first | apply Kd.R_alloc | apply Kd.R_drewN | apply Kd.R_drew)); exact (Kd.R_mono (thrumlaw11_SignTurned.F8 (Kd.R_types HO_6.out BK201.out (by decide)) _ _ _ _ _ _ _ _) (fun _ h_ => h_.1))))) (Kd.R_lt (by (with_reducible repeat (first | apply Kd.R_alloc | apply Kd.R_drewN | apply Kd.R_drew)); exact (Kd.R_mono (thrumlaw11_SignTurned.F8 (Kd.R_types HO_180003.out BK201.out (by decide)) _ _ _ _ _ _ _ _) (fun _ h_ => h_.1))))) (Kd.R_lt (by (with_reducible repeat (first | apply Kd.R_alloc | apply Kd.R_drewN | apply Kd.R_drew)); exact (Kd.R_mono (thrumlaw11_SignTurned.F8 (Kd.R_types HO191.out BK201.out (by decide)) _ _ _ _ _ _ _ _) (fun _ h_ => h_.1))))) (below_size (by repeat (first | (with_reducible first | exact HB.out | apply below_alloc | apply pw_below_drewN | apply below_drew1 | refine below_set ?_ GE179.out | refine below_set ?_ GE201.out) | exact HB.out)))); have n10_ := Aside0.mk (blk_below (g := gb179) (o := .cells #[.int .i64 t162, .int .i64 t163, .slice Ao13 t164.length co13, .slice Ao14 t167.length co14, .int .i64 t170, .int .i64 t171, .slice Ao15 t172.length co15, .slice Ao16 t175.length co16] 29 (0, 0)) (by (with_reducible repeat (first | refine blk_drewN ?_ _ | refine blk_drew ?_ | refine blk_alloc ?_ _)); refine blk_far ?_ NB179_201.out _; (with_reducible repeat (first | refine blk_drewN ?_ _ | refine blk_drew ?_ | refine blk_alloc ?_ _)); refine blk_far ?_ NB179_201.out _; (with_reducible repeat (first | refine blk_drewN ?_ _ | refine blk_drew ?_ | refine blk_alloc ?_ _)); refine blk_far ?_ NB179_201.out _; (with_reducible repeat (first | refine blk_drewN ?_ _ | refine blk_drew ?_ | refine blk_alloc ?_ _)); refine blk_far ?_ NB179_201.out _; (with_reducible repeat (first | refine blk_drewN ?_ _ | refine blk_drew ?_ | refine blk_alloc ?_ _)); refine blk_far ?_ NB179_201.out _; (with_reducible repeat (first | refine blk_drewN ?_ _ | refine blk_drew ?_ | refine blk_alloc ?_ _)); refine blk_far ?_ NB179_201.out _; (with_reducible repeat (first | refine blk_drewN ?_ _ | refine blk_drew ?_ | refine blk_alloc ?_ _)); refine blk_far ?_ NB179_201.out _; (with_reducible repeat (first | refine blk_drewN ?_ _ | refine blk_drew ?_ | refine blk_alloc ?_ _)); refine blk_far ?_ NB179_201.out _; (with_reducible repeat (first | refine blk_drewN ?_ _ | refine blk_drew ?_ | refine blk_alloc ?_ _)); exact BK179.out) hb); have n11_ := Aside0.mk (blk_below (g := gb201) (o := .cells #[.int .i64 t184, .int .i64 t185, .slice Ao31 t186.length co31, .slice Ao32 t189.length co32, .int .i64 t192, .int .i64 t193, .slice Ao33 t194.length co33, .slice Ao34 t197.length co34] 29 (0, 0)) (by (with_reducible repeat (first | refine blk_drewN ?_ _ | refine blk_drew ?_ | refine blk_alloc ?_ _)); refine blk_put (cs := #[.int .i64 t184, .int .i64 t185, .slice Ao31 t186.length co31, .slice Ao32 t189.length co32, .int .i64 t192, .int .i64 t193, .slice Ao33 t194.length co33, .slice none 0 0]) ?_ 7 _ rfl; (with_reducible repeat (first | refine blk_drewN ?_ _ | refine blk_drew ?_ | refine blk_alloc ?_ _)); refine blk_put (cs := #[.int .i64 t184, .int .i64 t185, .slice Ao31 t186.length co31, .slice Ao32 t189.length co32, .int .i64 t192, .int .i64 t193, .slice none 0 0, .slice none 0 0]) ?_ 6 _ rfl; (with_reducible repeat (first | refine blk_drewN ?_ _ | refine blk_drew ?_ | refine blk_alloc ?_ _)); refine blk_put (cs := #[.int .i64 t184, .int .i64 t185, .slice Ao31 t186.length co31, .slice Ao32 t189.length co32, .int .i64 t192, .int .i64 0, .slice none 0 0, .slice none 0 0]) ?_ 5 _ rfl; (with_reducible repeat (first | refine blk_drewN ?_ _ | refine blk_drew ?_ | refine blk_alloc ?_ _)); refine blk_put (cs := #[.int .i64 t184, .int .i64 t185, .slice Ao31 t186.length co31, .slice Ao32 t189.length co32, .int .i64 0, .int .i64 0, .slice none 0 0, .slice none 0 0]) ?_ 4 _ rfl; (with_reducible repeat (first | refine blk_drewN ?_ _ | refine blk_drew ?_ | refine blk_alloc ?_ _)); refine blk_put (cs := #[.int .i64 t184, .int .i64 t185, .slice Ao31 t186.length co31, .slice none 0 0, .int .i64 0, .int .i64 0, .slice none 0 0, .slice none 0 0]) ?_ 3 _ rfl; (with_reducible repeat (first | refine blk_drewN ?_ _ | refine blk_drew ?_ | refine blk_alloc ?_ _)); refine blk_put (cs := #[.int .i64 t184, .int .i64 t185, .slice none 0 0, .slice none 0 0, .int .i64 0, .int .i64 0, .slice none 0 0, .slice none 0 0]) ?_ 2 _ rfl; (with_reducible repeat (first | refine blk_drewN ?_ _ | refine blk_drew ?_ | refine blk_alloc ?_ _)); refine blk_put (cs := #[.int .i64 t184, .int .i64 0, .slice none 0 0, .slice none 0 0, .int .i64 0, .int .i64 0, .slice none 0 0, .slice none 0 0]) ?_ 1 _ rfl; (with_reducible repeat (first | refine blk_drewN ?_ _ | refine blk_drew ?_ | refine blk_alloc ?_ _)); refine blk_put (cs := #[.int .i64 0, .int .i64 0, .slice none 0 0, .slice none 0 0, .int .i64 0, .int .i64 0, .slice none 0 0, .slice none 0 0]) ?_ 0 _ rfl; (with_reducible repeat (first | refine blk_drewN ?_ _ | refine blk_drew ?_ | refine blk_alloc ?_ _)); exact BK201.out) hb); have n12_ := Aside0.mk (below_step (by repeat (first | (with_reducible first | exact HB.out | apply below_alloc | apply pw_below_drewN | apply below_drew1 | refine below_set ?_ GE179.out | refine below_set ?_ GE201.out) | exact HB.out)) hb); clear HO_6; clear HO_180002; clear HO_180003; clear HO_180006; clear HO_180007; clear HO188; clear HO191; clear HO196; clear HO199; clear BK179; clear BK201; clear HB; have HO_6 := n0_; have HO_180002 := n1_; have HO_180003 := n2_; have HO_180006 := n3_; have HO_180007 := n4_; have HO188 := n5_; have HO191 := n6_; have HO196 := n7_; have HO199 := n8_; have HO204 := n9_; have BK179 := n10_; have BK201 := n11_; have HB := n12_; clear n0_ n1_ n2_ n3_ n4_ n5_ n6_ n7_ n8_ n9_ n10_ n11_ n12_; (try clear hb); (try clear hb2); (try clear hk); (try clear hi); (try clear ho0); obtain ⟨Ao37, co37, eo37⟩ := Kd.R_slice HO204.out; subst eo37) | (go_at_call 8; (with_reducible refine (sign_Press.calls _ _ t202 t206 t207 t208 t211 t214 t215 t216 t219 t222 _ ?side1 ?side2 A24.out).mono ?_); (case side1 => repeat (first | exact (Kd.R_reads' HO204.out).2.2 | (with_reducible refine Kd.C_alloc ?_ _) | (with_reducible refine Kd.C_drewN ?_ _) | (with_reducible refine Kd.C_drew ?_))); (case side2 => exact (Kd.R_reads' HO204.out).2.1); rintro e w38 ⟨v209, v212, v217, v220, rfl, ho0, ho1, ho2, ho3, hb⟩; have n0_ := Aside0.mk (Kd.R_elder' (by (with_reducible repeat (first | apply Kd.R_alloc | apply Kd.R_drewN | apply Kd.R_drew)); exact HO_6.out) (Kd.R_base ho1) hb); have n1_ := Aside0.mk (Kd.R_elder' (by (with_reducible repeat (first | apply Kd.R_alloc | apply Kd.R_drewN | apply Kd.R_drew)); exact HO_180002.out) (Kd.R_base ho0) hb); have n2_ := Aside0.mk (Kd.R_elder' (by (with_reducible repeat (first | apply Kd.R_alloc | apply Kd.R_drewN | apply Kd.R_drew)); exact HO_180003.out) (Kd.R_base ho1) hb); have n3_ := Aside0.mk (Kd.R_elder' (by (with_reducible repeat (first | apply Kd.R_alloc | apply Kd.R_drewN | apply Kd.R_drew)); exact HO_180006.out) (Kd.R_base ho2) hb); have n4_ := Aside0.mk (Kd.R_elder' (by (with_reducible repeat (first | apply Kd.R_alloc | apply Kd.R_drewN | apply Kd.R_drew)); exact HO_180007.out) (Kd.R_base ho3) hb); have n5_ := Aside0.mk (Kd.R_elder' (by (with_reducible repeat (first | apply Kd.R_alloc | apply Kd.R_drewN | apply Kd.R_drew)); exact HO188.out) (Kd.R_base ho0) hb); have n6_ := Aside0.mk (Kd.R_elder' (by (with_reducible repeat (first | apply Kd.R_alloc | apply Kd.R_drewN | apply Kd.R_drew)); exact HO191.out) (Kd.R_base ho1) hb); have n7_ := Aside0.mk (Kd.R_elder' (by (with_reducible repeat (first | apply Kd.R_alloc | apply Kd.R_drewN | apply Kd.R_drew)); exact HO196.out) (Kd.R_base ho2) hb); have n8_ := Aside0.mk (Kd.R_elder' (by (with_reducible repeat (first | apply Kd.R_alloc | apply Kd.R_drewN | apply Kd.R_drew)); exact HO199.out) (Kd.R_base ho3) hb); have n9_ := Aside0.mk (Kd.R_elder' (by (with_reducible repeat (first | apply Kd.R_alloc | apply Kd.R_drewN | apply Kd.R_drew)); exact HO204.out) (Kd.R_base ho1) hb); have n10_ := Aside0.mk (Kd.R_lower (Kd.R_new' (Kd.R_new' ho0 (Kd.R_lt (by (with_reducible repeat (first | apply Kd.R_alloc | apply Kd.R_drewN | apply Kd.R_drew)); exact HO_180002.out))) (Kd.R_lt (by (with_reducible repeat (first | apply Kd.R_alloc | apply Kd.R_drewN | apply Kd.R_drew)); exact HO188.out))) (below_size (by repeat (first | (with_reducible first | exact HB.out | apply below_alloc | apply pw_below_drewN | apply below_drew1 | refine below_set ?_ GE179.out | refine below_set ?_ GE201.out) | exact HB.out)))); have n11_ := Aside0.mk (Kd.R_lower (Kd.R_new' (Kd.R_new' (Kd.R_new' (Kd.R_new' ho1 (Kd.R_lt (by (with_reducible repeat (first | apply Kd.R_alloc | apply Kd.R_drewN | apply Kd.R_drew)); exact HO_6.out))) (Kd.R_lt (by (with_reducible repeat (first | apply Kd.R_alloc | apply Kd.R_drewN | apply Kd.R_drew)); exact HO_180003.out))) (Kd.R_lt (by (with_reducible repeat (first | apply Kd.R_alloc | apply Kd.R_drewN | apply Kd.R_drew)); exact HO191.out))) (Kd.R_lt (by (with_reducible repeat (first | apply Kd.R_alloc | apply Kd.R_drewN | apply Kd.R_drew)); exact HO204.out))) (below_size (by repeat (first | (with_reducible first | exact HB.out | apply below_alloc | apply pw_below_drewN | apply below_drew1 | refine below_set ?_ GE179.out | refine below_set ?_ GE201.out) | exact HB.out)))); have n12_ := Aside0.mk (Kd.R_lower (Kd.R_new' (Kd.R_new' ho2 (Kd.R_lt (by (with_reducible repeat (first | apply Kd.R_alloc | apply Kd.R_drewN | apply Kd.R_drew)); exact HO_180006.out))) (Kd.R_lt (by (with_reducible repeat (first | apply Kd.R_alloc | apply Kd.R_drewN | apply Kd.R_drew)); exact HO196.out))) (below_size (by repeat (first | (with_reducible first | exact HB.out | apply below_alloc | apply pw_below_drewN | apply below_drew1 | refine below_set ?_ GE179.out | refine below_set ?_ GE201.out) | exact HB.out)))); have n13_ := Aside0.mk (Kd.R_lower (Kd.R_new' (Kd.R_new' ho3 (Kd.R_lt (by (with_reducible repeat (first | apply Kd.R_alloc | apply Kd.R_drewN | apply Kd.R_drew)); exact HO_180007.out))) (Kd.R_lt (by (with_reducible repeat (first | apply Kd.R_alloc | apply Kd.R_drewN | apply Kd.R_drew)); exact HO199.out))) (below_size (by repeat (first | (with_reducible first | exact HB.out | apply below_alloc | apply pw_below_drewN | apply below_drew1 | refine below_set ?_ GE179.out | refine below_set ?_ GE201.out) | exact HB.out)))); have n14_ := Aside0.mk (blk_below (g := gb179) (o := .cells #[.int .i64 t162, .int .i64 t163, .slice Ao13 t164.length co13, .slice Ao14 t167.length co14, .int .i64 t170, .int .i64 t171, .slice Ao15 t172.length co15, .slice Ao16 t175.length co16] 29 (0, 0)) (by (with_reducible repeat (first | refine blk_drewN ?_ _ | refine blk_drew ?_ | refine blk_alloc ?_ _)); exact BK179.out) hb); have n15_ := Aside0.mk (blk_below (g := gb201) (o := .cells #[.int .i64 t184, .int .i64 t185, .slice Ao31 t186.length co31, .slice Ao32 t189.length co32, .int .i64 t192, .int .i64 t193, .slice Ao33 t194.length co33, .slice Ao34 t197.length co34] 29 (0, 0)) (by (with_reducible repeat (first | refine blk_drewN ?_ _ | refine blk_drew ?_ | refine blk_alloc ?_ _)); exact BK201.out) hb); have n16_ := Aside0.mk (below_step (by repeat (first | (with_reducible first | exact HB.out | apply below_alloc | apply pw_below_drewN | apply below_drew1 | refine below_set ?_ GE179.out | refine below_set ?_ GE201.out) | exact HB.out)) hb); clear HO_6; clear HO_180002; clear HO_180003; clear HO_180006; clear HO_180007; clear HO188; clear HO191; clear HO196; clear HO199; clear HO204; clear BK179; clear BK201; clear HB; have HO_6 := n0_; have HO_180002 := n1_; have HO_180003 := n2_; have HO_180006 := n3_; have HO_180007 := n4_; have HO188 := n5_; have HO191 := n6_; have HO196 := n7_; have HO199 := n8_; have HO204 := n9_; have HO210 := n10_; have HO213 := n11_; have HO218 := n12_; have HO221 := n13_; have BK179 := n14_; have BK201 := n15_; have HB := n16_; clear n0_ n1_ n2_ n3_ n4_ n5_ n6_ n7_ n8_ n9_ n10_ n11_ n12_ n13_ n14_ n15_ n16_; (try clear hb); (try clear hb2); (try clear hk); (try clear hi); (try clear ho0); (try clear ho1); (try clear ho2); (try clear ho3)) | ((with_reducible refine gate_dst (N := 13) rfl ?_); (try (refine gate_guard (by rfl) ?_; dsimp only)); refine box_event ?hg (N := 13) ?hd (cs := #[.int .i64 0, .int .i64 0, .slice none 0 0, .slice none 0 0, .int .i64 0, .int .i64 0, .slice none 0 0, .slice none 0 0]) (t := 29) ?hr ?_; (case hd => rfl); (case hg => rfl); (case hr => first | (go_simp; done) | (go_simp; rfl)); intro gb223 hg w39 hbox hb; have n0_ := Aside0.mk (Kd.R_below (by (with_reducible repeat (first | apply Kd.R_alloc | apply Kd.R_drewN | apply Kd.R_drew)); exact HO_6.out) hb); have n1_ := Aside0.mk (Kd.R_below (by (with_reducible repeat (first | apply Kd.R_alloc | apply Kd.R_drewN | apply Kd.R_drew)); exact HO_180002.out) hb); have n2_ := Aside0.mk (Kd.R_below (by (with_reducible repeat (first | apply Kd.R_alloc | apply Kd.R_drewN | apply Kd.R_drew)); exact HO_180003.out) hb); have n3_ := Aside0.mk (Kd.R_below (by (with_reducible repeat (first | apply Kd.R_alloc | apply Kd.R_drewN | apply Kd.R_drew)); exact HO_180006.out) hb); have n4_ := Aside0.mk (Kd.R_below (by (with_reducible repeat (first | apply Kd.R_alloc | apply Kd.R_drewN | apply Kd.R_drew)); exact HO_180007.out) hb); have n5_ := Aside0.mk (Kd.R_below (by (with_reducible repeat (first | apply Kd.R_alloc | apply Kd.R_drewN | apply Kd.R_drew)); exact HO188.out) hb); have n6_ := Aside0.mk (Kd.R_below (by (with_reducible repeat (first | apply Kd.R_alloc | apply Kd.R_drewN | apply Kd.R_drew)); exact HO191.out) hb); have n7_ := Aside0.mk (Kd.R_below (by (with_reducible repeat (first | apply Kd.R_alloc | apply Kd.R_drewN | apply Kd.R_drew)); exact HO196.out) hb); have n8_ := Aside0.mk (Kd.R_below (by (with_reducible repeat (first | apply Kd.R_alloc | apply Kd.R_drewN | apply Kd.R_drew)); exact HO199.out) hb); have n9_ := Aside0.mk (Kd.R_below (by (with_reducible repeat (first | apply Kd.R_alloc | apply Kd.R_drewN | apply Kd.R_drew)); exact HO204.out) hb); have n10_ := Aside0.mk (Kd.R_below (by (with_reducible repeat (first | apply Kd.R_alloc | apply Kd.R_drewN | apply Kd.R_drew)); exact HO210.out) hb); have n11_ := Aside0.mk (Kd.R_below (by (with_reducible repeat (first | apply Kd.R_alloc | apply Kd.R_drewN | apply Kd.R_drew)); exact HO213.out) hb); have n12_ := Aside0.mk (Kd.R_below (by (with_reducible repeat (first | apply Kd.R_alloc | apply Kd.R_drewN | apply Kd.R_drew)); exact HO218.out) hb); have n13_ := Aside0.mk (Kd.R_below (by (with_reducible repeat (first | apply Kd.R_alloc | apply Kd.R_drewN | apply Kd.R_drew)); exact HO221.out) hb); have n14_ := Aside0.mk (blk_below (g := gb179) (o := .cells #[.int .i64 t162, .int .i64 t163, .slice Ao13 t164.length co13, .slice Ao14 t167.length co14, .int .i64 t170, .int .i64 t171, .slice Ao15 t172.length co15, .slice Ao16 t175.length co16] 29 (0, 0)) (by (with_reducible repeat (first | refine blk_drewN ?_ _ | refine blk_drew ?_ | refine blk_alloc ?_ _)); exact BK179.out) hb); have n15_ := Aside0.mk (blk_below (g := gb201) (o := .cells #[.int .i64 t184, .int .i64 t185, .slice Ao31 t186.length co31, .slice Ao32 t189.length co32, .int .i64 t192, .int .i64 t193, .slice Ao33 t194.length co33, .slice Ao34 t197.length co34] 29 (0, 0)) (by (with_reducible repeat (first | refine blk_drewN ?_ _ | refine blk_drew ?_ | refine blk_alloc ?_ _)); exact BK201.out) hb); have n16_ := Aside0.mk (below_step (by repeat (first | (with_reducible first | exact HB.out | apply below_alloc | apply pw_below_drewN | apply below_drew1 | refine below_set ?_ GE179.out | refine below_set ?_ GE201.out) | exact HB.out)) hb); have n17_ := Aside0.mk (hbox); have n18_ := Aside0.mk ((by rw [hg]; exact (below_size (by repeat (first | (with_reducible first | exact HB.out | apply below_alloc | apply pw_below_drewN | apply below_drew1 | refine below_set ?_ GE179.out | refine below_set ?_ GE201.out) | exact HB.out))) : w.heap.size ≤ gb223)); have n19_ := Aside0.mk ((by rw [hg]; exact (below_size (by repeat (first | (with_reducible first | exact HB.out | apply below_alloc | apply pw_below_drewN | apply below_drew1 | refine below_set ?_ GE179.out | refine below_set ?_ GE201.out) | exact HB.out))) : w.heap.size ≤ gb223)); have n20_ := Aside0.mk ((by rw [hg]; exact Nat.ne_of_lt (blk_lt (g := gb179) (o := .cells #[.int .i64 t162, .int .i64 t163, .slice Ao13 t164.length co13, .slice Ao14 t167.length co14, .int .i64 t170, .int .i64 t171, .slice Ao15 t172.length co15, .slice Ao16 t175.length co16] 29 (0, 0)) (by (with_reducible repeat (first | refine blk_drewN ?_ _ | refine blk_drew ?_ | refine blk_alloc ?_ _)); exact BK179.out)) : gb179 ≠ gb223)); have n21_ := Aside0.mk ((by rw [hg]; exact Nat.ne_of_gt (blk_lt (g := gb179) (o := .cells #[.int .i64 t162, .int .i64 t163, .slice Ao13 t164.length co13, .slice Ao14 t167.length co14, .int .i64 t170, .int .i64 t171, .slice Ao15 t172.length co15, .slice Ao16 t175.length co16] 29 (0, 0)) (by (with_reducible repeat (first | refine blk_drewN ?_ _ | refine blk_drew ?_ | refine blk_alloc ?_ _)); exact BK179.out)) : gb223 ≠ gb179)); have n22_ := Aside0.mk ((by rw [hg]; exact Nat.ne_of_lt (blk_lt (g := gb201) (o := .cells #[.int .i64 t184, .int .i64 t185, .slice Ao31 t186.length co31, .slice Ao32 t189.length co32, .int .i64 t192, .int .i64 t193, .slice Ao33 t194.length co33, .slice Ao34 t197.length co34] 29 (0, 0)) (by (with_reducible repeat (first | refine blk_drewN ?_ _ | refine blk_drew ?_ | refine blk_alloc ?_ _)); exact BK201.out)) : gb201 ≠ gb223)); have n23_ := Aside0.mk ((by rw [hg]; exact Nat.ne_of_gt (blk_lt (g := gb201) (o := .cells #[.int .i64 t184, .int .i64 t185, .slice Ao31 t186.length co31, .slice Ao32 t189.length co32, .int .i64 t192, .int .i64 t193, .slice Ao33 t194.length co33, .slice Ao34 t197.length co34] 29 (0, 0)) (by (with_reducible repeat (first | refine blk_drewN ?_ _ | refine blk_drew ?_ | refine blk_alloc ?_ _)); exact BK201.out)) : gb223 ≠ gb201)); clear HO_6; clear HO_180002; clear HO_180003; clear HO_180006; clear HO_180007; clear HO188; clear HO191; clear HO196; clear HO199; clear HO204; clear HO210; clear HO213; clear HO218; clear HO221; clear BK179; clear BK201; clear HB; have HO_6 := n0_; have HO_180002 := n1_; have HO_180003 := n2_; have HO_180006 := n3_; have HO_180007 := n4_; have HO188 := n5_; have HO191 := n6_; have HO196 := n7_; have HO199 := n8_; have HO204 := n9_; have HO210 := n10_; have HO213 := n11_; have HO218 := n12_; have HO221 := n13_; have BK179 := n14_; have BK201 := n15_; have HB := n16_; have BK223 := n17_; have GW223 := n18_; have GE223 := n19_; have NB179_223 := n20_; have NB223_179 := n21_; have NB201_223 := n22_; have NB223_201 := n23_; clear n0_ n1_ n2_ n3_ n4_ n5_ n6_ n7_ n8_ n9_ n10_ n11_ n12_ n13_ n14_ n15_ n16_ n17_ n18_ n19_ n20_ n21_ n22_ n23_; clear hb hbox hg; have hnb40 := NB223_179.out; have hnc40 := NB179_223.out; have hnb41 := NB223_201.out; have hnc41 := NB201_223.out; have hcz42_0 : w39.cell? ⟨gb223, 0, none⟩ = some (.int .i64 0) := (blk_cell BK223.out 0).trans rfl; have hcz42_1 : w39.cell? ⟨gb223, 1, none⟩ = some (.int .i64 0) := (blk_cell BK223.out 1).trans rfl; have hcz42_2 : w39.cell? ⟨gb223, 2, none⟩ = some (.slice none 0 0) := (blk_cell BK223.out 2).trans rfl; have hcz42_3 : w39.cell? ⟨gb223, 3, none⟩ = some (.slice none 0 0) := (blk_cell BK223.out 3).trans rfl; have hcz42_4 : w39.cell? ⟨gb223, 4, none⟩ = some (.int .i64 0) := (blk_cell BK223.out 4).trans rfl; have hcz42_5 : w39.cell? ⟨gb223, 5, none⟩ = some (.int .i64 0) := (blk_cell BK223.out 5).trans rfl; have hcz42_6 : w39.cell? ⟨gb223, 6, none⟩ = some (.slice none 0 0) := (blk_cell BK223.out 6).trans rfl; have hcz42_7 : w39.cell? ⟨gb223, 7, none⟩ = some (.slice none 0 0) := (blk_cell BK223.out 7).trans rfl; have hfz42_0 := blk_frozen BK223.out 0; have hfz42_1 := blk_frozen BK223.out 1; have hfz42_2 := blk_frozen BK223.out 2; have hfz42_3 := blk_frozen BK223.out 3; have hfz42_4 := blk_frozen BK223.out 4; have hfz42_5 := blk_frozen BK223.out 5; have hfz42_6 := blk_frozen BK223.out 6; have hfz42_7 := blk_frozen BK223.out 7; obtain ⟨Ao43, co43, eo43⟩ := Kd.R_slice HO210.out; subst eo43; obtain ⟨Ao44, co44, eo44⟩ := Kd.R_slice HO213.out; subst eo44; obtain ⟨Ao45, co45, eo45⟩ := Kd.R_slice HO218.out; subst eo45; obtain ⟨Ao46, co46, eo46⟩ := Kd.R_slice HO221.out; subst eo46))
       (try simp only [Act.put, List.setIfInBounds_toArray, List.set_cons_zero, List.set_cons_succ])
       go_cut [106] (fun v106 wc => ∃ (kq : Nat) (x106_24 : Bool), v106 = .bool x106_24 ∧ Aside0 (thrumlaw11_SignTurned.j1 kq l0 true x106_24 t162 t163 t164 t167 t170 t171 t172 t175 t184 t185 t186 t189 t192 t193 t194 t197 t206 t207 t208 t211 t214 t215 t216 t219 = some r) ∧ Aside0 (kq ≤ k1) ∧ Aside0 (Kd.R (Kd.int .i64) 3 wc w.heap.size (fun k_ => some k_ ≠ ((.slice Ao31 t186.length co31) : Value).ownBlock ∧ some k_ ≠ ((.slice Ao43 t208.length co43) : Value).ownBlock) (.slice Ao13 t164.length co13) t164) ∧ Aside0 (Kd.R (Kd.int .i64) 2 wc w.heap.size (fun k_ => some k_ ≠ ((.slice Ao32 t189.length co32) : Value).ownBlock ∧ some k_ ≠ ((.slice Ao44 t211.length co44) : Value).ownBlock) (.slice Ao14 t167.length co14) t167) ∧ Aside0 (Kd.R (Kd.int .u64) 58 wc w.heap.size (fun k_ => some k_ ≠ ((.slice Ao33 t194.length co33) : Value).ownBlock ∧ some k_ ≠ ((.slice Ao45 t216.length co45) : Value).ownBlock) (.slice Ao15 t172.length co15) t172) ∧ Aside0 (Kd.R Kd.bool 4 wc w.heap.size (fun k_ => some k_ ≠ ((.slice Ao34 t197.length co34) : Value).ownBlock ∧ some k_ ≠ ((.slice Ao46 t219.length co46) : Value).ownBlock) (.slice Ao16 t175.length co16) t175) ∧ Aside0 (Kd.R (Kd.int .i64) 3 wc w.heap.size (fun k_ => some k_ ≠ ((.slice Ao13 t164.length co13) : Value).ownBlock ∧ some k_ ≠ ((.slice Ao43 t208.length co43) : Value).ownBlock) (.slice Ao31 t186.length co31) t186) ∧ Aside0 (Kd.R (Kd.int .i64) 2 wc w.heap.size (fun k_ => some k_ ≠ ((.slice Ao14 t167.length co14) : Value).ownBlock ∧ some k_ ≠ ((.slice Ao44 t211.length co44) : Value).ownBlock) (.slice Ao32 t189.length co32) t189) ∧ Aside0 (Kd.R (Kd.int .u64) 58 wc w.heap.size (fun k_ => some k_ ≠ ((.slice Ao15 t172.length co15) : Value).ownBlock ∧ some k_ ≠ ((.slice Ao45 t216.length co45) : Value).ownBlock) (.slice Ao33 t194.length co33) t194) ∧ Aside0 (Kd.R Kd.bool 4 wc w.heap.size (fun k_ => some k_ ≠ ((.slice Ao16 t175.length co16) : Value).ownBlock ∧ some k_ ≠ ((.slice Ao46 t219.length co46) : Value).ownBlock) (.slice Ao34 t197.length co34) t197) ∧ Aside0 (Kd.R (Kd.int .i64) 3 wc w.heap.size (fun k_ => some k_ ≠ ((.slice Ao13 t164.length co13) : Value).ownBlock ∧ some k_ ≠ ((.slice Ao31 t186.length co31) : Value).ownBlock) (.slice Ao43 t208.length co43) t208) ∧ Aside0 (Kd.R (Kd.int .i64) 2 wc w.heap.size (fun k_ => some k_ ≠ ((.slice Ao14 t167.length co14) : Value).ownBlock ∧ some k_ ≠ ((.slice Ao32 t189.length co32) : Value).ownBlock) (.slice Ao44 t211.length co44) t211) ∧ Aside0 (Kd.R (Kd.int .u64) 58 wc w.heap.size (fun k_ => some k_ ≠ ((.slice Ao15 t172.length co15) : Value).ownBlock ∧ some k_ ≠ ((.slice Ao33 t194.length co33) : Value).ownBlock) (.slice Ao45 t216.length co45) t216) ∧ Aside0 (Kd.R Kd.bool 4 wc w.heap.size (fun k_ => some k_ ≠ ((.slice Ao16 t175.length co16) : Value).ownBlock ∧ some k_ ≠ ((.slice Ao34 t197.length co34) : Value).ownBlock) (.slice Ao46 t219.length co46) t219) ∧ Aside0 (wc.heap[gb179]? = some (.cells #[.int .i64 t162, .int .i64 t163, (.slice Ao13 t164.length co13), (.slice Ao14 t167.length co14), .int .i64 t170, .int .i64 t171, (.slice Ao15 t172.length co15), (.slice Ao16 t175.length co16)] 29 (0, 0))) ∧ Aside0 (wc.heap[gb201]? = some (.cells #[.int .i64 t184, .int .i64 t185, (.slice Ao31 t186.length co31), (.slice Ao32 t189.length co32), .int .i64 t192, .int .i64 t193, (.slice Ao33 t194.length co33), (.slice Ao34 t197.length co34)] 29 (0, 0))) ∧ Aside0 (wc.heap[gb223]? = some (.cells #[.int .i64 t206, .int .i64 t207, (.slice Ao43 t208.length co43), (.slice Ao44 t211.length co44), .int .i64 t214, .int .i64 t215, (.slice Ao45 t216.length co45), (.slice Ao46 t219.length co46)] 29 (0, 0))) ∧ Aside0 (Below w.heap.size w wc))
       case first =>
        have H := HC25.out
        clear HC25
        by_cases c47 : t200 = 0
        ·
         rw [if_pos c47] at H
         have c47b0 : (t200 == 0) = true := beq_iff_eq.mpr c47
         have c47b1 : (t200 != 0) = false := bne_eq_false_iff_eq.mpr c47
         clear c47
         (first | rw [c47b0] | (simp only [i64_w, i32_w]; rw [c47b0]) | skip)
         by_cases c48 : t205 = 0
         ·
          rw [if_pos c48] at H
          have c48b0 : (t205 == 0) = true := beq_iff_eq.mpr c48
          have c48b1 : (t205 != 0) = false := bne_eq_false_iff_eq.mpr c48
          clear c48
          by_cases c49 : t222 = 0
          ·
           rw [if_pos c49] at H
           have c49b0 : (t222 == 0) = true := beq_iff_eq.mpr c49
           have c49b1 : (t222 != 0) = false := bne_eq_false_iff_eq.mpr c49
           clear c49
           by_cases c50 : t192 = t170
           ·
            rw [if_pos c50] at H
            have c50b0 : (t192 == t170) = true := beq_iff_eq.mpr c50
            have c50b1 : (t192 != t170) = false := bne_eq_false_iff_eq.mpr c50
            clear c50
            by_cases c51 : (t197.length : Int) = (l0.length : Int)
            ·
             rw [if_pos c51] at H
             have c51b0 : ((t197.length : Int) == (l0.length : Int)) = true := beq_iff_eq.mpr c51
             have c51b1 : ((t197.length : Int) != (l0.length : Int)) = false := bne_eq_false_iff_eq.mpr c51
             have c51b2 : (t197.length == l0.length) = true := by first | simpa using c51 | (simp at c51 ⊢; omega)
             clear c51
             by_cases c52 : (t175.length : Int) = (l0.length : Int)
             ·
              rw [if_pos c52] at H
              have c52b0 : ((t175.length : Int) == (l0.length : Int)) = true := beq_iff_eq.mpr c52
              have c52b1 : ((t175.length : Int) != (l0.length : Int)) = false := bne_eq_false_iff_eq.mpr c52
              have c52b2 : (t175.length == l0.length) = true := by first | simpa using c52 | (simp at c52 ⊢; omega)
              clear c52
              by_cases c53 : (t219.length : Int) = (l0.length : Int)
              ·
               rw [if_pos c53] at H
               have c53b0 : ((t219.length : Int) == (l0.length : Int)) = true := beq_iff_eq.mpr c53
               have c53b1 : ((t219.length : Int) != (l0.length : Int)) = false := bne_eq_false_iff_eq.mpr c53
               have c53b2 : (t219.length == l0.length) = true := by first | simpa using c53 | (simp at c53 ⊢; omega)
               clear c53
               focus
                have H' := Aside0.mk H
                clear H
                have hnb54 := NB201_179.out
                have hnc54 := NB179_201.out
                have hnb55 := NB201_223.out
                have hnc55 := NB223_201.out
                have hcz56_0 : w39.cell? ⟨gb201, 0, none⟩ = some (.int .i64 t184) := (blk_cell BK201.out 0).trans rfl
                have hcz56_1 : w39.cell? ⟨gb201, 1, none⟩ = some (.int .i64 t185) := (blk_cell BK201.out 1).trans rfl
                have hcz56_2 : w39.cell? ⟨gb201, 2, none⟩ = some (.slice Ao31 t186.length co31) := (blk_cell BK201.out 2).trans rfl
                have hcz56_3 : w39.cell? ⟨gb201, 3, none⟩ = some (.slice Ao32 t189.length co32) := (blk_cell BK201.out 3).trans rfl
                have hcz56_4 : w39.cell? ⟨gb201, 4, none⟩ = some (.int .i64 t192) := (blk_cell BK201.out 4).trans rfl
                have hcz56_5 : w39.cell? ⟨gb201, 5, none⟩ = some (.int .i64 t193) := (blk_cell BK201.out 5).trans rfl
                have hcz56_6 : w39.cell? ⟨gb201, 6, none⟩ = some (.slice Ao33 t194.length co33) := (blk_cell BK201.out 6).trans rfl
                have hcz56_7 : w39.cell? ⟨gb201, 7, none⟩ = some (.slice Ao34 t197.length co34) := (blk_cell BK201.out 7).trans rfl
                have hfz56_0 := blk_frozen BK201.out 0
                have hfz56_1 := blk_frozen BK201.out 1
                have hfz56_2 := blk_frozen BK201.out 2
                have hfz56_3 := blk_frozen BK201.out 3
                have hfz56_4 := blk_frozen BK201.out 4
                have hfz56_5 := blk_frozen BK201.out 5
                have hfz56_6 := blk_frozen BK201.out 6
                have hfz56_7 := blk_frozen BK201.out 7
                have hnb57 := NB179_223.out
                have hnc57 := NB223_179.out
                have hcz58_0 : w39.cell? ⟨gb179, 0, none⟩ = some (.int .i64 t162) := (blk_cell BK179.out 0).trans rfl
                have hcz58_1 : w39.cell? ⟨gb179, 1, none⟩ = some (.int .i64 t163) := (blk_cell BK179.out 1).trans rfl
                have hcz58_2 : w39.cell? ⟨gb179, 2, none⟩ = some (.slice Ao13 t164.length co13) := (blk_cell BK179.out 2).trans rfl
                have hcz58_3 : w39.cell? ⟨gb179, 3, none⟩ = some (.slice Ao14 t167.length co14) := (blk_cell BK179.out 3).trans rfl
                have hcz58_4 : w39.cell? ⟨gb179, 4, none⟩ = some (.int .i64 t170) := (blk_cell BK179.out 4).trans rfl
                have hcz58_5 : w39.cell? ⟨gb179, 5, none⟩ = some (.int .i64 t171) := (blk_cell BK179.out 5).trans rfl
                have hcz58_6 : w39.cell? ⟨gb179, 6, none⟩ = some (.slice Ao15 t172.length co15) := (blk_cell BK179.out 6).trans rfl
                have hcz58_7 : w39.cell? ⟨gb179, 7, none⟩ = some (.slice Ao16 t175.length co16) := (blk_cell BK179.out 7).trans rfl
                have hfz58_0 := blk_frozen BK179.out 0
                have hfz58_1 := blk_frozen BK179.out 1
                have hfz58_2 := blk_frozen BK179.out 2
                have hfz58_3 := blk_frozen BK179.out 3
                have hfz58_4 := blk_frozen BK179.out 4
                have hfz58_5 := blk_frozen BK179.out 5
                have hfz58_6 := blk_frozen BK179.out 6
                have hfz58_7 := blk_frozen BK179.out 7
                have hcz59_0 : w39.cell? ⟨gb223, 0, none⟩ = some (.int .i64 0) := (blk_cell BK223.out 0).trans rfl
                have hcz59_1 : w39.cell? ⟨gb223, 1, none⟩ = some (.int .i64 0) := (blk_cell BK223.out 1).trans rfl
                have hcz59_2 : w39.cell? ⟨gb223, 2, none⟩ = some (.slice none 0 0) := (blk_cell BK223.out 2).trans rfl
                have hcz59_3 : w39.cell? ⟨gb223, 3, none⟩ = some (.slice none 0 0) := (blk_cell BK223.out 3).trans rfl
                have hcz59_4 : w39.cell? ⟨gb223, 4, none⟩ = some (.int .i64 0) := (blk_cell BK223.out 4).trans rfl
                have hcz59_5 : w39.cell? ⟨gb223, 5, none⟩ = some (.int .i64 0) := (blk_cell BK223.out 5).trans rfl
                have hcz59_6 : w39.cell? ⟨gb223, 6, none⟩ = some (.slice none 0 0) := (blk_cell BK223.out 6).trans rfl
                have hcz59_7 : w39.cell? ⟨gb223, 7, none⟩ = some (.slice none 0 0) := (blk_cell BK223.out 7).trans rfl
                have hfz59_0 := blk_frozen BK223.out 0
                have hfz59_1 := blk_frozen BK223.out 1
                have hfz59_2 := blk_frozen BK223.out 2
                have hfz59_3 := blk_frozen BK223.out 3
                have hfz59_4 := blk_frozen BK223.out 4
                have hfz59_5 := blk_frozen BK223.out 5
                have hfz59_6 := blk_frozen BK223.out 6
                have hfz59_7 := blk_frozen BK223.out 7
                go_wp2
                repeat (go_quiet (fail); try go_wp2)
                go_meet
                case rel => exact ⟨_, ((t214 != t170)), (by first | rfl | (simp; done) | (simp [*]; done)), H', ⟨by have := HK1.out; first | omega | exact Nat.le_refl _⟩, ⟨by (with_reducible repeat (first | apply Kd.R_alloc | apply Kd.R_drewN | apply Kd.R_drew)); exact Kd.R_mono (thrumlaw11_SignTurned.F8 (Kd.R_types HO_180002.out BK223.out (by decide)) _ _ _ _ _ _ _ _) (fun _ hk => ⟨hk.1.1.2, hk.1.2⟩)⟩, ⟨by (with_reducible repeat (first | apply Kd.R_alloc | apply Kd.R_drewN | apply Kd.R_drew)); exact Kd.R_mono (thrumlaw11_SignTurned.F8 (Kd.R_types HO_180003.out BK223.out (by decide)) _ _ _ _ _ _ _ _) (fun _ hk => ⟨hk.1.1.1.2, hk.1.2⟩)⟩, ⟨by (with_reducible repeat (first | apply Kd.R_alloc | apply Kd.R_drewN | apply Kd.R_drew)); exact Kd.R_mono (thrumlaw11_SignTurned.F8 (Kd.R_types HO_180006.out BK223.out (by decide)) _ _ _ _ _ _ _ _) (fun _ hk => ⟨hk.1.1.2, hk.1.2⟩)⟩, ⟨by (with_reducible repeat (first | apply Kd.R_alloc | apply Kd.R_drewN | apply Kd.R_drew)); exact Kd.R_mono (thrumlaw11_SignTurned.F8 (Kd.R_types HO_180007.out BK223.out (by decide)) _ _ _ _ _ _ _ _) (fun _ hk => ⟨hk.1.1.2, hk.1.2⟩)⟩, ⟨by (with_reducible repeat (first | apply Kd.R_alloc | apply Kd.R_drewN | apply Kd.R_drew)); exact Kd.R_mono (thrumlaw11_SignTurned.F8 (Kd.R_types HO188.out BK223.out (by decide)) _ _ _ _ _ _ _ _) (fun _ hk => ⟨hk.1.1.2, hk.1.2⟩)⟩, ⟨by (with_reducible repeat (first | apply Kd.R_alloc | apply Kd.R_drewN | apply Kd.R_drew)); exact Kd.R_mono (thrumlaw11_SignTurned.F8 (Kd.R_types HO191.out BK223.out (by decide)) _ _ _ _ _ _ _ _) (fun _ hk => ⟨hk.1.1.1.2, hk.1.2⟩)⟩, ⟨by (with_reducible repeat (first | apply Kd.R_alloc | apply Kd.R_drewN | apply Kd.R_drew)); exact Kd.R_mono (thrumlaw11_SignTurned.F8 (Kd.R_types HO196.out BK223.out (by decide)) _ _ _ _ _ _ _ _) (fun _ hk => ⟨hk.1.1.2, hk.1.2⟩)⟩, ⟨by (with_reducible repeat (first | apply Kd.R_alloc | apply Kd.R_drewN | apply Kd.R_drew)); exact Kd.R_mono (thrumlaw11_SignTurned.F8 (Kd.R_types HO199.out BK223.out (by decide)) _ _ _ _ _ _ _ _) (fun _ hk => ⟨hk.1.1.2, hk.1.2⟩)⟩, ⟨by (with_reducible repeat (first | apply Kd.R_alloc | apply Kd.R_drewN | apply Kd.R_drew)); exact Kd.R_mono (thrumlaw11_SignTurned.F8 (Kd.R_types HO210.out BK223.out (by decide)) _ _ _ _ _ _ _ _) (fun _ hk => ⟨hk.1.1.2, hk.1.2⟩)⟩, ⟨by (with_reducible repeat (first | apply Kd.R_alloc | apply Kd.R_drewN | apply Kd.R_drew)); exact Kd.R_mono (thrumlaw11_SignTurned.F8 (Kd.R_types HO213.out BK223.out (by decide)) _ _ _ _ _ _ _ _) (fun _ hk => ⟨hk.1.1.1.2, hk.1.1.2⟩)⟩, ⟨by (with_reducible repeat (first | apply Kd.R_alloc | apply Kd.R_drewN | apply Kd.R_drew)); exact Kd.R_mono (thrumlaw11_SignTurned.F8 (Kd.R_types HO218.out BK223.out (by decide)) _ _ _ _ _ _ _ _) (fun _ hk => ⟨hk.1.1.2, hk.1.2⟩)⟩, ⟨by (with_reducible repeat (first | apply Kd.R_alloc | apply Kd.R_drewN | apply Kd.R_drew)); exact Kd.R_mono (thrumlaw11_SignTurned.F8 (Kd.R_types HO221.out BK223.out (by decide)) _ _ _ _ _ _ _ _) (fun _ hk => ⟨hk.1.1.2, hk.1.2⟩)⟩, ⟨by (with_reducible repeat (first | refine blk_drewN ?_ _ | refine blk_drew ?_ | refine blk_alloc ?_ _)); refine blk_far ?_ NB179_223.out _; (with_reducible repeat (first | refine blk_drewN ?_ _ | refine blk_drew ?_ | refine blk_alloc ?_ _)); refine blk_far ?_ NB179_223.out _; (with_reducible repeat (first | refine blk_drewN ?_ _ | refine blk_drew ?_ | refine blk_alloc ?_ _)); refine blk_far ?_ NB179_223.out _; (with_reducible repeat (first | refine blk_drewN ?_ _ | refine blk_drew ?_ | refine blk_alloc ?_ _)); refine blk_far ?_ NB179_223.out _; (with_reducible repeat (first | refine blk_drewN ?_ _ | refine blk_drew ?_ | refine blk_alloc ?_ _)); refine blk_far ?_ NB179_223.out _; (with_reducible repeat (first | refine blk_drewN ?_ _ | refine blk_drew ?_ | refine blk_alloc ?_ _)); refine blk_far ?_ NB179_223.out _; (with_reducible repeat (first | refine blk_drewN ?_ _ | refine blk_drew ?_ | refine blk_alloc ?_ _)); refine blk_far ?_ NB179_223.out _; (with_reducible repeat (first | refine blk_drewN ?_ _ | refine blk_drew ?_ | refine blk_alloc ?_ _)); refine blk_far ?_ NB179_223.out _; (with_reducible repeat (first | refine blk_drewN ?_ _ | refine blk_drew ?_ | refine blk_alloc ?_ _)); exact BK179.out⟩, ⟨by (with_reducible repeat (first | refine blk_drewN ?_ _ | refine blk_drew ?_ | refine blk_alloc ?_ _)); refine blk_far ?_ NB201_223.out _; (with_reducible repeat (first | refine blk_drewN ?_ _ | refine blk_drew ?_ | refine blk_alloc ?_ _)); refine blk_far ?_ NB201_223.out _; (with_reducible repeat (first | refine blk_drewN ?_ _ | refine blk_drew ?_ | refine blk_alloc ?_ _)); refine blk_far ?_ NB201_223.out _; (with_reducible repeat (first | refine blk_drewN ?_ _ | refine blk_drew ?_ | refine blk_alloc ?_ _)); refine blk_far ?_ NB201_223.out _; (with_reducible repeat (first | refine blk_drewN ?_ _ | refine blk_drew ?_ | refine blk_alloc ?_ _)); refine blk_far ?_ NB201_223.out _; (with_reducible repeat (first | refine blk_drewN ?_ _ | refine blk_drew ?_ | refine blk_alloc ?_ _)); refine blk_far ?_ NB201_223.out _; (with_reducible repeat (first | refine blk_drewN ?_ _ | refine blk_drew ?_ | refine blk_alloc ?_ _)); refine blk_far ?_ NB201_223.out _; (with_reducible repeat (first | refine blk_drewN ?_ _ | refine blk_drew ?_ | refine blk_alloc ?_ _)); refine blk_far ?_ NB201_223.out _; (with_reducible repeat (first | refine blk_drewN ?_ _ | refine blk_drew ?_ | refine blk_alloc ?_ _)); exact BK201.out⟩, ⟨by (with_reducible repeat (first | refine blk_drewN ?_ _ | refine blk_drew ?_ | refine blk_alloc ?_ _)); refine blk_put (cs := #[.int .i64 t206, .int .i64 t207, .slice Ao43 t208.length co43, .slice Ao44 t211.length co44, .int .i64 t214, .int .i64 t215, .slice Ao45 t216.length co45, .slice none 0 0]) ?_ 7 _ rfl; (with_reducible repeat (first | refine blk_drewN ?_ _ | refine blk_drew ?_ | refine blk_alloc ?_ _)); refine blk_put (cs := #[.int .i64 t206, .int .i64 t207, .slice Ao43 t208.length co43, .slice Ao44 t211.length co44, .int .i64 t214, .int .i64 t215, .slice none 0 0, .slice none 0 0]) ?_ 6 _ rfl; (with_reducible repeat (first | refine blk_drewN ?_ _ | refine blk_drew ?_ | refine blk_alloc ?_ _)); refine blk_put (cs := #[.int .i64 t206, .int .i64 t207, .slice Ao43 t208.length co43, .slice Ao44 t211.length co44, .int .i64 t214, .int .i64 0, .slice none 0 0, .slice none 0 0]) ?_ 5 _ rfl; (with_reducible repeat (first | refine blk_drewN ?_ _ | refine blk_drew ?_ | refine blk_alloc ?_ _)); refine blk_put (cs := #[.int .i64 t206, .int .i64 t207, .slice Ao43 t208.length co43, .slice Ao44 t211.length co44, .int .i64 0, .int .i64 0, .slice none 0 0, .slice none 0 0]) ?_ 4 _ rfl; (with_reducible repeat (first | refine blk_drewN ?_ _ | refine blk_drew ?_ | refine blk_alloc ?_ _)); refine blk_put (cs := #[.int .i64 t206, .int .i64 t207, .slice Ao43 t208.length co43, .slice none 0 0, .int .i64 0, .int .i64 0, .slice none 0 0, .slice none 0 0]) ?_ 3 _ rfl; (with_reducible repeat (first | refine blk_drewN ?_ _ | refine blk_drew ?_ | refine blk_alloc ?_ _)); refine blk_put (cs := #[.int .i64 t206, .int .i64 t207, .slice none 0 0, .slice none 0 0, .int .i64 0, .int .i64 0, .slice none 0 0, .slice none 0 0]) ?_ 2 _ rfl; (with_reducible repeat (first | refine blk_drewN ?_ _ | refine blk_drew ?_ | refine blk_alloc ?_ _)); refine blk_put (cs := #[.int .i64 t206, .int .i64 0, .slice none 0 0, .slice none 0 0, .int .i64 0, .int .i64 0, .slice none 0 0, .slice none 0 0]) ?_ 1 _ rfl; (with_reducible repeat (first | refine blk_drewN ?_ _ | refine blk_drew ?_ | refine blk_alloc ?_ _)); refine blk_put (cs := #[.int .i64 0, .int .i64 0, .slice none 0 0, .slice none 0 0, .int .i64 0, .int .i64 0, .slice none 0 0, .slice none 0 0]) ?_ 0 _ rfl; (with_reducible repeat (first | refine blk_drewN ?_ _ | refine blk_drew ?_ | refine blk_alloc ?_ _)); exact BK223.out⟩, ⟨by repeat (first | (with_reducible first | exact HB.out | apply below_alloc | apply pw_below_drewN | apply below_drew1 | refine below_set ?_ GE179.out | refine below_set ?_ GE201.out | refine below_set ?_ GE223.out) | exact HB.out)⟩⟩
              ·
               rw [if_neg c53] at H
               exact (thrumlaw11_SignTurned.j1_not (H.trans (by rw [HR_.out]))).elim
             ·
              rw [if_neg c52] at H
              exact (thrumlaw11_SignTurned.j1_not (H.trans (by rw [HR_.out]))).elim
            ·
             rw [if_neg c51] at H
             exact (thrumlaw11_SignTurned.j1_not (H.trans (by rw [HR_.out]))).elim
           ·
            rw [if_neg c50] at H
            exact (thrumlaw11_SignTurned.j1_not (H.trans (by rw [HR_.out]))).elim
          ·
           rw [if_neg c49] at H
           exact (thrumlaw11_SignTurned.j1_not (H.trans (by rw [HR_.out]))).elim
         ·
          rw [if_neg c48] at H
          exact (thrumlaw11_SignTurned.j1_not (H.trans (by rw [HR_.out]))).elim
        ·
         rw [if_neg c47] at H
         exact (thrumlaw11_SignTurned.j1_not (H.trans (by rw [HR_.out]))).elim
       case rest =>
        clear HC25
        try clear c1
        try clear p1
        try clear q1
        try clear hx1
        try clear c2
        try clear p2
        try clear c3
        try clear c4
        try clear c5
        try clear c6
        try clear p6
        try clear c7
        try clear c7b0
        try clear c7b1
        try clear c17
        try clear c17b0
        try clear c18
        try clear c18b0
        try clear p18
        try clear q18
        try clear hx18
        try clear c19
        try clear c19b0
        try clear c20
        try clear c29
        try clear c40
        try clear c41
        try clear c47
        try clear c47b0
        try clear c47b1
        try clear c48
        try clear c48b0
        try clear c48b1
        try clear c49
        try clear c49b0
        try clear c49b1
        try clear c50
        try clear c50b0
        try clear c50b1
        try clear c51
        try clear c51b0
        try clear c51b1
        try clear c51b2
        try clear c52
        try clear c52b0
        try clear c52b1
        try clear c52b2
        try clear c53
        try clear c53b0
        try clear c53b1
        try clear c53b2
        try clear c54
        try clear c55
        try clear c57
        try clear c60
        try clear c61
        try clear c63
        try clear p64
        try clear c66
        try clear c67
        try clear c69
        try clear c71
        try clear c72
        try clear c74
        try clear c76
        try clear c77
        try clear c79
        try clear hcz12_0
        try clear hcz12_1
        try clear hcz12_2
        try clear hcz12_3
        try clear hcz12_4
        try clear hcz12_5
        try clear hcz12_6
        try clear hcz12_7
        try clear hcz30_0
        try clear hcz30_1
        try clear hcz30_2
        try clear hcz30_3
        try clear hcz30_4
        try clear hcz30_5
        try clear hcz30_6
        try clear hcz30_7
        try clear hcz35_0
        try clear hcz35_1
        try clear hcz35_2
        try clear hcz35_3
        try clear hcz35_4
        try clear hcz35_5
        try clear hcz35_6
        try clear hcz35_7
        try clear hcz42_0
        try clear hcz42_1
        try clear hcz42_2
        try clear hcz42_3
        try clear hcz42_4
        try clear hcz42_5
        try clear hcz42_6
        try clear hcz42_7
        try clear hcz56_0
        try clear hcz56_1
        try clear hcz56_2
        try clear hcz56_3
        try clear hcz56_4
        try clear hcz56_5
        try clear hcz56_6
        try clear hcz56_7
        try clear hcz58_0
        try clear hcz58_1
        try clear hcz58_2
        try clear hcz58_3
        try clear hcz58_4
        try clear hcz58_5
        try clear hcz58_6
        try clear hcz58_7
        try clear hcz59_0
        try clear hcz59_1
        try clear hcz59_2
        try clear hcz59_3
        try clear hcz59_4
        try clear hcz59_5
        try clear hcz59_6
        try clear hcz59_7
        try clear hcz62_0
        try clear hcz62_1
        try clear hcz62_2
        try clear hcz62_3
        try clear hcz62_4
        try clear hcz62_5
        try clear hcz62_6
        try clear hcz62_7
        try clear hcz64_0
        try clear hcz64_1
        try clear hcz64_2
        try clear hcz64_3
        try clear hcz64_4
        try clear hcz64_5
        try clear hcz64_6
        try clear hcz64_7
        try clear hcz65_0
        try clear hcz65_1
        try clear hcz65_2
        try clear hcz65_3
        try clear hcz65_4
        try clear hcz65_5
        try clear hcz65_6
        try clear hcz65_7
        try clear hcz68_0
        try clear hcz68_1
        try clear hcz68_2
        try clear hcz68_3
        try clear hcz68_4
        try clear hcz68_5
        try clear hcz68_6
        try clear hcz68_7
        try clear hcz70_0
        try clear hcz70_1
        try clear hcz70_2
        try clear hcz70_3
        try clear hcz70_4
        try clear hcz70_5
        try clear hcz70_6
        try clear hcz70_7
        try clear hcz73_0
        try clear hcz73_1
        try clear hcz73_2
        try clear hcz73_3
        try clear hcz73_4
        try clear hcz73_5
        try clear hcz73_6
        try clear hcz73_7
        try clear hcz75_0
        try clear hcz75_1
        try clear hcz75_2
        try clear hcz75_3
        try clear hcz75_4
        try clear hcz75_5
        try clear hcz75_6
        try clear hcz75_7
        try clear hcz78_0
        try clear hcz78_1
        try clear hcz78_2
        try clear hcz78_3
        try clear hcz78_4
        try clear hcz78_5
        try clear hcz78_6
        try clear hcz78_7
        try clear hcz80_0
        try clear hcz80_1
        try clear hcz80_2
        try clear hcz80_3
        try clear hcz80_4
        try clear hcz80_5
        try clear hcz80_6
        try clear hcz80_7
        try clear hfz12_0
        try clear hfz12_1
        try clear hfz12_2
        try clear hfz12_3
        try clear hfz12_4
        try clear hfz12_5
        try clear hfz12_6
        try clear hfz12_7
        try clear hfz30_0
        try clear hfz30_1
        try clear hfz30_2
        try clear hfz30_3
        try clear hfz30_4
        try clear hfz30_5
        try clear hfz30_6
        try clear hfz30_7
        try clear hfz35_0
        try clear hfz35_1
        try clear hfz35_2
        try clear hfz35_3
        try clear hfz35_4
        try clear hfz35_5
        try clear hfz35_6
        try clear hfz35_7
        try clear hfz42_0
        try clear hfz42_1
        try clear hfz42_2
        try clear hfz42_3
        try clear hfz42_4
        try clear hfz42_5
        try clear hfz42_6
        try clear hfz42_7
        try clear hfz56_0
        try clear hfz56_1
        try clear hfz56_2
        try clear hfz56_3
        try clear hfz56_4
        try clear hfz56_5
        try clear hfz56_6
        try clear hfz56_7
        try clear hfz58_0
        try clear hfz58_1
        try clear hfz58_2
        try clear hfz58_3
        try clear hfz58_4
        try clear hfz58_5
        try clear hfz58_6
        try clear hfz58_7
        try clear hfz59_0
        try clear hfz59_1
        try clear hfz59_2
        try clear hfz59_3
        try clear hfz59_4
        try clear hfz59_5
        try clear hfz59_6
        try clear hfz59_7
        try clear hfz62_0
        try clear hfz62_1
        try clear hfz62_2
        try clear hfz62_3
        try clear hfz62_4
        try clear hfz62_5
        try clear hfz62_6
        try clear hfz62_7
        try clear hfz64_0
        try clear hfz64_1
        try clear hfz64_2
        try clear hfz64_3
        try clear hfz64_4
        try clear hfz64_5
        try clear hfz64_6
        try clear hfz64_7
        try clear hfz65_0
        try clear hfz65_1
        try clear hfz65_2
        try clear hfz65_3
        try clear hfz65_4
        try clear hfz65_5
        try clear hfz65_6
        try clear hfz65_7
        try clear hfz68_0
        try clear hfz68_1
        try clear hfz68_2
        try clear hfz68_3
        try clear hfz68_4
        try clear hfz68_5
        try clear hfz68_6
        try clear hfz68_7
        try clear hfz70_0
        try clear hfz70_1
        try clear hfz70_2
        try clear hfz70_3
        try clear hfz70_4
        try clear hfz70_5
        try clear hfz70_6
        try clear hfz70_7
        try clear hfz73_0
        try clear hfz73_1
        try clear hfz73_2
        try clear hfz73_3
        try clear hfz73_4
        try clear hfz73_5
        try clear hfz73_6
        try clear hfz73_7
        try clear hfz75_0
        try clear hfz75_1
        try clear hfz75_2
        try clear hfz75_3
        try clear hfz75_4
        try clear hfz75_5
        try clear hfz75_6
        try clear hfz75_7
        try clear hfz78_0
        try clear hfz78_1
        try clear hfz78_2
        try clear hfz78_3
        try clear hfz78_4
        try clear hfz78_5
        try clear hfz78_6
        try clear hfz78_7
        try clear hfz80_0
        try clear hfz80_1
        try clear hfz80_2
        try clear hfz80_3
        try clear hfz80_4
        try clear hfz80_5
        try clear hfz80_6
        try clear hfz80_7
        try clear hx180_0
        try clear p180
        try clear p2
        try clear q180
        obtain ⟨kq, x106_24, rfl, HA, HJ24, HO_180002, HO_180003, HO_180006, HO_180007, HO_202002, HO_202003, HO_202006, HO_202007, HO_224002, HO_224003, HO_224006, HO_224007, BK179, BK201, BK223, HB⟩ := hcut
        cases kq with
        | zero => exact absurd HA.out (by simp [thrumlaw11_SignTurned.j1])
        | succ kj24 =>
         have H := HA.out
         clear HA
         simp only [thrumlaw11_SignTurned.j1] at H
         by_cases c81 : x106_24 = true
         ·
          subst c81
          have H1 : (some false) = some r := by rw [if_pos rfl] at H; exact H
          exact absurd (Option.some.inj H1) (by rw [HR_.out]; decide)
         ·
          replace c81 := Bool.eq_false_iff.mpr c81
          subst c81
          have H1 : (thrumlaw11_SignTurned.l1 kj24 true l0 (l0.length : Int) 0 t162 t163 t164 t167 t170 t171 t172 t175 t184 t185 t186 t189 t192 t193 t194 t197 t206 t207 t208 t211 t214 t215 t216 t219) = some r := by rw [if_neg (show ¬ (false = true) by decide)] at H; exact H
          clear H
          have H := H1
          clear H1
          have H' := Aside0.mk H
          clear H
          go_wp2
          repeat (go_quiet (fail); try go_wp2)
          go_loopg [109] kj24 (fun kq v109 w' => ∃ (x109_3 : Int), v109 = .int .i64 x109_3 ∧ Aside0 (thrumlaw11_SignTurned.l1 kq true l0 (l0.length : Int) x109_3 t162 t163 t164 t167 t170 t171 t172 t175 t184 t185 t186 t189 t192 t193 t194 t197 t206 t207 t208 t211 t214 t215 t216 t219 = some r) ∧ Aside0 (kq ≤ kj24) ∧ Aside0 (Kd.R (Kd.int .i64) 3 w' w.heap.size (fun k_ => some k_ ≠ ((.slice Ao31 t186.length co31) : Value).ownBlock ∧ some k_ ≠ ((.slice Ao43 t208.length co43) : Value).ownBlock) (.slice Ao13 t164.length co13) t164) ∧ Aside0 (Kd.R (Kd.int .i64) 2 w' w.heap.size (fun k_ => some k_ ≠ ((.slice Ao32 t189.length co32) : Value).ownBlock ∧ some k_ ≠ ((.slice Ao44 t211.length co44) : Value).ownBlock) (.slice Ao14 t167.length co14) t167) ∧ Aside0 (Kd.R (Kd.int .u64) 58 w' w.heap.size (fun k_ => some k_ ≠ ((.slice Ao33 t194.length co33) : Value).ownBlock ∧ some k_ ≠ ((.slice Ao45 t216.length co45) : Value).ownBlock) (.slice Ao15 t172.length co15) t172) ∧ Aside0 (Kd.R Kd.bool 4 w' w.heap.size (fun k_ => some k_ ≠ ((.slice Ao34 t197.length co34) : Value).ownBlock ∧ some k_ ≠ ((.slice Ao46 t219.length co46) : Value).ownBlock) (.slice Ao16 t175.length co16) t175) ∧ Aside0 (Kd.R (Kd.int .i64) 3 w' w.heap.size (fun k_ => some k_ ≠ ((.slice Ao13 t164.length co13) : Value).ownBlock ∧ some k_ ≠ ((.slice Ao43 t208.length co43) : Value).ownBlock) (.slice Ao31 t186.length co31) t186) ∧ Aside0 (Kd.R (Kd.int .i64) 2 w' w.heap.size (fun k_ => some k_ ≠ ((.slice Ao14 t167.length co14) : Value).ownBlock ∧ some k_ ≠ ((.slice Ao44 t211.length co44) : Value).ownBlock) (.slice Ao32 t189.length co32) t189) ∧ Aside0 (Kd.R (Kd.int .u64) 58 w' w.heap.size (fun k_ => some k_ ≠ ((.slice Ao15 t172.length co15) : Value).ownBlock ∧ some k_ ≠ ((.slice Ao45 t216.length co45) : Value).ownBlock) (.slice Ao33 t194.length co33) t194) ∧ Aside0 (Kd.R Kd.bool 4 w' w.heap.size (fun k_ => some k_ ≠ ((.slice Ao16 t175.length co16) : Value).ownBlock ∧ some k_ ≠ ((.slice Ao46 t219.length co46) : Value).ownBlock) (.slice Ao34 t197.length co34) t197) ∧ Aside0 (Kd.R (Kd.int .i64) 3 w' w.heap.size (fun k_ => some k_ ≠ ((.slice Ao13 t164.length co13) : Value).ownBlock ∧ some k_ ≠ ((.slice Ao31 t186.length co31) : Value).ownBlock) (.slice Ao43 t208.length co43) t208) ∧ Aside0 (Kd.R (Kd.int .i64) 2 w' w.heap.size (fun k_ => some k_ ≠ ((.slice Ao14 t167.length co14) : Value).ownBlock ∧ some k_ ≠ ((.slice Ao32 t189.length co32) : Value).ownBlock) (.slice Ao44 t211.length co44) t211) ∧ Aside0 (Kd.R (Kd.int .u64) 58 w' w.heap.size (fun k_ => some k_ ≠ ((.slice Ao15 t172.length co15) : Value).ownBlock ∧ some k_ ≠ ((.slice Ao33 t194.length co33) : Value).ownBlock) (.slice Ao45 t216.length co45) t216) ∧ Aside0 (Kd.R Kd.bool 4 w' w.heap.size (fun k_ => some k_ ≠ ((.slice Ao16 t175.length co16) : Value).ownBlock ∧ some k_ ≠ ((.slice Ao34 t197.length co34) : Value).ownBlock) (.slice Ao46 t219.length co46) t219) ∧ Aside0 (w'.heap[gb179]? = some (.cells #[.int .i64 t162, .int .i64 t163, (.slice Ao13 t164.length co13), (.slice Ao14 t167.length co14), .int .i64 t170, .int .i64 t171, (.slice Ao15 t172.length co15), (.slice Ao16 t175.length co16)] 29 (0, 0))) ∧ Aside0 (w'.heap[gb201]? = some (.cells #[.int .i64 t184, .int .i64 t185, (.slice Ao31 t186.length co31), (.slice Ao32 t189.length co32), .int .i64 t192, .int .i64 t193, (.slice Ao33 t194.length co33), (.slice Ao34 t197.length co34)] 29 (0, 0))) ∧ Aside0 (w'.heap[gb223]? = some (.cells #[.int .i64 t206, .int .i64 t207, (.slice Ao43 t208.length co43), (.slice Ao44 t211.length co44), .int .i64 t214, .int .i64 t215, (.slice Ao45 t216.length co45), (.slice Ao46 t219.length co46)] 29 (0, 0))) ∧ Aside0 (Below w.heap.size w w'))
          case atStart => exact ⟨(0), (by first | rfl | (simp; done) | (simp [*]; done)), H', ⟨Nat.le_refl _⟩, ⟨by (with_reducible repeat (first | apply Kd.R_alloc | apply Kd.R_drewN | apply Kd.R_drew)); exact HO_180002.out⟩, ⟨by (with_reducible repeat (first | apply Kd.R_alloc | apply Kd.R_drewN | apply Kd.R_drew)); exact HO_180003.out⟩, ⟨by (with_reducible repeat (first | apply Kd.R_alloc | apply Kd.R_drewN | apply Kd.R_drew)); exact HO_180006.out⟩, ⟨by (with_reducible repeat (first | apply Kd.R_alloc | apply Kd.R_drewN | apply Kd.R_drew)); exact HO_180007.out⟩, ⟨by (with_reducible repeat (first | apply Kd.R_alloc | apply Kd.R_drewN | apply Kd.R_drew)); exact HO_202002.out⟩, ⟨by (with_reducible repeat (first | apply Kd.R_alloc | apply Kd.R_drewN | apply Kd.R_drew)); exact HO_202003.out⟩, ⟨by (with_reducible repeat (first | apply Kd.R_alloc | apply Kd.R_drewN | apply Kd.R_drew)); exact HO_202006.out⟩, ⟨by (with_reducible repeat (first | apply Kd.R_alloc | apply Kd.R_drewN | apply Kd.R_drew)); exact HO_202007.out⟩, ⟨by (with_reducible repeat (first | apply Kd.R_alloc | apply Kd.R_drewN | apply Kd.R_drew)); exact HO_224002.out⟩, ⟨by (with_reducible repeat (first | apply Kd.R_alloc | apply Kd.R_drewN | apply Kd.R_drew)); exact HO_224003.out⟩, ⟨by (with_reducible repeat (first | apply Kd.R_alloc | apply Kd.R_drewN | apply Kd.R_drew)); exact HO_224006.out⟩, ⟨by (with_reducible repeat (first | apply Kd.R_alloc | apply Kd.R_drewN | apply Kd.R_drew)); exact HO_224007.out⟩, ⟨by (with_reducible repeat (first | refine blk_drewN ?_ _ | refine blk_drew ?_ | refine blk_alloc ?_ _)); exact BK179.out⟩, ⟨by (with_reducible repeat (first | refine blk_drewN ?_ _ | refine blk_drew ?_ | refine blk_alloc ?_ _)); exact BK201.out⟩, ⟨by (with_reducible repeat (first | refine blk_drewN ?_ _ | refine blk_drew ?_ | refine blk_alloc ?_ _)); exact BK223.out⟩, ⟨by repeat (first | (with_reducible first | exact HB.out | apply below_alloc | apply pw_below_drewN | apply below_drew1 | refine below_set ?_ GE179.out | refine below_set ?_ GE201.out | refine below_set ?_ GE223.out) | exact HB.out)⟩⟩
          case round =>
           clear H'
           try clear c1
           try clear p1
           try clear q1
           try clear hx1
           try clear c2
           try clear p2
           try clear c3
           try clear c4
           try clear c5
           try clear c6
           try clear p6
           try clear c7
           try clear c7b0
           try clear c7b1
           try clear c8
           try clear c17
           try clear c17b0
           try clear c18
           try clear c18b0
           try clear p18
           try clear q18
           try clear hx18
           try clear c19
           try clear c19b0
           try clear c20
           try clear c29
           try clear c40
           try clear c41
           try clear c47
           try clear c47b0
           try clear c47b1
           try clear c48
           try clear c48b0
           try clear c48b1
           try clear c49
           try clear c49b0
           try clear c49b1
           try clear c50
           try clear c50b0
           try clear c50b1
           try clear c51
           try clear c51b0
           try clear c51b1
           try clear c51b2
           try clear c52
           try clear c52b0
           try clear c52b1
           try clear c52b2
           try clear c53
           try clear c53b0
           try clear c53b1
           try clear c53b2
           try clear c54
           try clear c55
           try clear c57
           try clear c60
           try clear c61
           try clear c63
           try clear p64
           try clear c66
           try clear c67
           try clear c69
           try clear c71
           try clear c72
           try clear c74
           try clear c76
           try clear c77
           try clear c79
           try clear c81
           try clear hcz12_0
           try clear hcz12_1
           try clear hcz12_2
           try clear hcz12_3
           try clear hcz12_4
           try clear hcz12_5
           try clear hcz12_6
           try clear hcz12_7
           try clear hcz30_0
           try clear hcz30_1
           try clear hcz30_2
           try clear hcz30_3
           try clear hcz30_4
           try clear hcz30_5
           try clear hcz30_6
           try clear hcz30_7
           try clear hcz35_0
           try clear hcz35_1
           try clear hcz35_2
           try clear hcz35_3
           try clear hcz35_4
           try clear hcz35_5
           try clear hcz35_6
           try clear hcz35_7
           try clear hcz42_0
           try clear hcz42_1
           try clear hcz42_2
           try clear hcz42_3
           try clear hcz42_4
           try clear hcz42_5
           try clear hcz42_6
           try clear hcz42_7
           try clear hcz56_0
           try clear hcz56_1
           try clear hcz56_2
           try clear hcz56_3
           try clear hcz56_4
           try clear hcz56_5
           try clear hcz56_6
           try clear hcz56_7
           try clear hcz58_0
           try clear hcz58_1
           try clear hcz58_2
           try clear hcz58_3
           try clear hcz58_4
           try clear hcz58_5
           try clear hcz58_6
           try clear hcz58_7
           try clear hcz59_0
           try clear hcz59_1
           try clear hcz59_2
           try clear hcz59_3
           try clear hcz59_4
           try clear hcz59_5
           try clear hcz59_6
           try clear hcz59_7
           try clear hcz62_0
           try clear hcz62_1
           try clear hcz62_2
           try clear hcz62_3
           try clear hcz62_4
           try clear hcz62_5
           try clear hcz62_6
           try clear hcz62_7
           try clear hcz64_0
           try clear hcz64_1
           try clear hcz64_2
           try clear hcz64_3
           try clear hcz64_4
           try clear hcz64_5
           try clear hcz64_6
           try clear hcz64_7
           try clear hcz65_0
           try clear hcz65_1
           try clear hcz65_2
           try clear hcz65_3
           try clear hcz65_4
           try clear hcz65_5
           try clear hcz65_6
           try clear hcz65_7
           try clear hcz68_0
           try clear hcz68_1
           try clear hcz68_2
           try clear hcz68_3
           try clear hcz68_4
           try clear hcz68_5
           try clear hcz68_6
           try clear hcz68_7
           try clear hcz70_0
           try clear hcz70_1
           try clear hcz70_2
           try clear hcz70_3
           try clear hcz70_4
           try clear hcz70_5
           try clear hcz70_6
           try clear hcz70_7
           try clear hcz73_0
           try clear hcz73_1
           try clear hcz73_2
           try clear hcz73_3
           try clear hcz73_4
           try clear hcz73_5
           try clear hcz73_6
           try clear hcz73_7
           try clear hcz75_0
           try clear hcz75_1
           try clear hcz75_2
           try clear hcz75_3
           try clear hcz75_4
           try clear hcz75_5
           try clear hcz75_6
           try clear hcz75_7
           try clear hcz78_0
           try clear hcz78_1
           try clear hcz78_2
           try clear hcz78_3
           try clear hcz78_4
           try clear hcz78_5
           try clear hcz78_6
           try clear hcz78_7
           try clear hcz80_0
           try clear hcz80_1
           try clear hcz80_2
           try clear hcz80_3
           try clear hcz80_4
           try clear hcz80_5
           try clear hcz80_6
           try clear hcz80_7
           try clear hfz12_0
           try clear hfz12_1
           try clear hfz12_2
           try clear hfz12_3
           try clear hfz12_4
           try clear hfz12_5
           try clear hfz12_6
           try clear hfz12_7
           try clear hfz30_0
           try clear hfz30_1
           try clear hfz30_2
           try clear hfz30_3
           try clear hfz30_4
           try clear hfz30_5
           try clear hfz30_6
           try clear hfz30_7
           try clear hfz35_0
           try clear hfz35_1
           try clear hfz35_2
           try clear hfz35_3
           try clear hfz35_4
           try clear hfz35_5
           try clear hfz35_6
           try clear hfz35_7
           try clear hfz42_0
           try clear hfz42_1
           try clear hfz42_2
           try clear hfz42_3
           try clear hfz42_4
           try clear hfz42_5
           try clear hfz42_6
           try clear hfz42_7
           try clear hfz56_0
           try clear hfz56_1
           try clear hfz56_2
           try clear hfz56_3
           try clear hfz56_4
           try clear hfz56_5
           try clear hfz56_6
           try clear hfz56_7
           try clear hfz58_0
           try clear hfz58_1
           try clear hfz58_2
           try clear hfz58_3
           try clear hfz58_4
           try clear hfz58_5
           try clear hfz58_6
           try clear hfz58_7
           try clear hfz59_0
           try clear hfz59_1
           try clear hfz59_2
           try clear hfz59_3
           try clear hfz59_4
           try clear hfz59_5
           try clear hfz59_6
           try clear hfz59_7
           try clear hfz62_0
           try clear hfz62_1
           try clear hfz62_2
           try clear hfz62_3
           try clear hfz62_4
           try clear hfz62_5
           try clear hfz62_6
           try clear hfz62_7
           try clear hfz64_0
           try clear hfz64_1
           try clear hfz64_2
           try clear hfz64_3
           try clear hfz64_4
           try clear hfz64_5
           try clear hfz64_6
           try clear hfz64_7
           try clear hfz65_0
           try clear hfz65_1
           try clear hfz65_2
           try clear hfz65_3
           try clear hfz65_4
           try clear hfz65_5
           try clear hfz65_6
           try clear hfz65_7
           try clear hfz68_0
           try clear hfz68_1
           try clear hfz68_2
           try clear hfz68_3
           try clear hfz68_4
           try clear hfz68_5
           try clear hfz68_6
           try clear hfz68_7
           try clear hfz70_0
           try clear hfz70_1
           try clear hfz70_2
           try clear hfz70_3
           try clear hfz70_4
           try clear hfz70_5
           try clear hfz70_6
           try clear hfz70_7
           try clear hfz73_0
           try clear hfz73_1
           try clear hfz73_2
           try clear hfz73_3
           try clear hfz73_4
           try clear hfz73_5
           try clear hfz73_6
           try clear hfz73_7
           try clear hfz75_0
           try clear hfz75_1
           try clear hfz75_2
           try clear hfz75_3
           try clear hfz75_4
           try clear hfz75_5
           try clear hfz75_6
           try clear hfz75_7
           try clear hfz78_0
           try clear hfz78_1
           try clear hfz78_2
           try clear hfz78_3
           try clear hfz78_4
           try clear hfz78_5
           try clear hfz78_6
           try clear hfz78_7
           try clear hfz80_0
           try clear hfz80_1
           try clear hfz80_2
           try clear hfz80_3
           try clear hfz80_4
           try clear hfz80_5
           try clear hfz80_6
           try clear hfz80_7
           try clear hx180_0
           try clear p1
           try clear p18
           try clear p180
           try clear p2
           try clear p6
           try clear p64
           try clear q1
           try clear q18
           try clear q180
           obtain ⟨x109_3, rfl, HA, HK3, HO_180002, HO_180003, HO_180006, HO_180007, HO_202002, HO_202003, HO_202006, HO_202007, HO_224002, HO_224003, HO_224006, HO_224007, BK179, BK201, BK223, HB⟩ := hrel
           cases gk with
           | zero => exact absurd HA.out (by simp [thrumlaw11_SignTurned.l1])
           | succ k3 =>
            have H := HA.out
            clear HA
            simp only [thrumlaw11_SignTurned.l1] at H
            by_cases c82 : x109_3 < (l0.length : Int)
            ·
             rw [if_pos c82] at H
             have c82b0 : decide (x109_3 < (l0.length : Int)) = true := decide_eq_true c82
             clear c82
             by_cases c83 : 0 ≤ x109_3
             ·
              rw [if_pos c83] at H
              have c83b0 : decide (0 ≤ x109_3) = true := decide_eq_true c83
              clear c83
              by_cases c84 : x109_3 < (l0.length : Int)
              ·
               rw [if_pos c84] at H
               have c84b0 : decide (x109_3 < (l0.length : Int)) = true := decide_eq_true c84
               clear c84
               by_cases c85 : (rd l0 x109_3) = 0
               ·
                rw [if_pos c85] at H
                have c85b0 : ((rd l0 x109_3) == 0) = true := beq_iff_eq.mpr c85
                have c85b1 : ((rd l0 x109_3) != 0) = false := bne_eq_false_iff_eq.mpr c85
                clear c85
                by_cases c86 : t170 > 0
                ·
                 rw [if_pos c86] at H
                 have c86b0 : decide (0 < t170) = true := decide_eq_true c86
                 clear c86
                 by_cases c87 : x109_3 < (t219.length : Int)
                 ·
                  rw [if_pos c87] at H
                  have c87b0 : decide (x109_3 < (t219.length : Int)) = true := decide_eq_true c87
                  clear c87
                  by_cases c88 : x109_3 < (t175.length : Int)
                  ·
                   rw [if_pos c88] at H
                   have c88b0 : decide (x109_3 < (t175.length : Int)) = true := decide_eq_true c88
                   clear c88
                   by_cases c89 : ((rdOf false t219 x109_3) != (rdOf false t175 x109_3)) = true
                   ·
                    rw [if_pos c89] at H
                    exact absurd (Option.some.inj H) (by rw [HR_.out]; decide)
                   ·
                    rw [if_neg c89] at H
                    have c89b0 : ((rdOf false t219 x109_3) != (rdOf false t175 x109_3)) = false := by simpa using c89
                    (try (have c89b1 : decide ((rdOf false t219 x109_3) = (rdOf false t175 x109_3)) = true := by simpa using c89))
                    (try (have c89b2 : ((rdOf false t219 x109_3) == (rdOf false t175 x109_3)) = true := by simpa using c89))
                    clear c89
                    focus
                     have H' := Aside0.mk H
                     clear H
                     have p224 : 0 ≤ (x109_3 : Int) := of_decide_eq_true (by first | (with_reducible assumption) | assumption)
                     have q224 : x109_3 < (l0.length : Int) := of_decide_eq_true (by first | (with_reducible assumption) | assumption)
                     obtain ⟨ad224, e224, hx224_0⟩ := Kd.at_int HR0.out x109_3 p224 q224
                     cases e224
                     replace hx224_0 := (HB.out.cell (World.block_lt_of_cell? w _ hx224_0)).trans hx224_0
                     replace p224 := eq_true p224
                     replace q224 := eq_true q224
                     have hnb95 := NB179_201.out
                     have hnc95 := NB201_179.out
                     have hnb96 := NB179_223.out
                     have hnc96 := NB223_179.out
                     have hcz97_0 : wr.cell? ⟨gb179, 0, none⟩ = some (.int .i64 t162) := (blk_cell BK179.out 0).trans rfl
                     have hcz97_1 : wr.cell? ⟨gb179, 1, none⟩ = some (.int .i64 t163) := (blk_cell BK179.out 1).trans rfl
                     have hcz97_2 : wr.cell? ⟨gb179, 2, none⟩ = some (.slice Ao13 t164.length co13) := (blk_cell BK179.out 2).trans rfl
                     have hcz97_3 : wr.cell? ⟨gb179, 3, none⟩ = some (.slice Ao14 t167.length co14) := (blk_cell BK179.out 3).trans rfl
                     have hcz97_4 : wr.cell? ⟨gb179, 4, none⟩ = some (.int .i64 t170) := (blk_cell BK179.out 4).trans rfl
                     have hcz97_5 : wr.cell? ⟨gb179, 5, none⟩ = some (.int .i64 t171) := (blk_cell BK179.out 5).trans rfl
                     have hcz97_6 : wr.cell? ⟨gb179, 6, none⟩ = some (.slice Ao15 t172.length co15) := (blk_cell BK179.out 6).trans rfl
                     have hcz97_7 : wr.cell? ⟨gb179, 7, none⟩ = some (.slice Ao16 t175.length co16) := (blk_cell BK179.out 7).trans rfl
                     have hfz97_0 := blk_frozen BK179.out 0
                     have hfz97_1 := blk_frozen BK179.out 1
                     have hfz97_2 := blk_frozen BK179.out 2
                     have hfz97_3 := blk_frozen BK179.out 3
                     have hfz97_4 := blk_frozen BK179.out 4
                     have hfz97_5 := blk_frozen BK179.out 5
                     have hfz97_6 := blk_frozen BK179.out 6
                     have hfz97_7 := blk_frozen BK179.out 7
                     have hnb98 := NB223_201.out
                     have hnc98 := NB201_223.out
                     have hcz99_0 : wr.cell? ⟨gb223, 0, none⟩ = some (.int .i64 t206) := (blk_cell BK223.out 0).trans rfl
                     have hcz99_1 : wr.cell? ⟨gb223, 1, none⟩ = some (.int .i64 t207) := (blk_cell BK223.out 1).trans rfl
                     have hcz99_2 : wr.cell? ⟨gb223, 2, none⟩ = some (.slice Ao43 t208.length co43) := (blk_cell BK223.out 2).trans rfl
                     have hcz99_3 : wr.cell? ⟨gb223, 3, none⟩ = some (.slice Ao44 t211.length co44) := (blk_cell BK223.out 3).trans rfl
                     have hcz99_4 : wr.cell? ⟨gb223, 4, none⟩ = some (.int .i64 t214) := (blk_cell BK223.out 4).trans rfl
                     have hcz99_5 : wr.cell? ⟨gb223, 5, none⟩ = some (.int .i64 t215) := (blk_cell BK223.out 5).trans rfl
                     have hcz99_6 : wr.cell? ⟨gb223, 6, none⟩ = some (.slice Ao45 t216.length co45) := (blk_cell BK223.out 6).trans rfl
                     have hcz99_7 : wr.cell? ⟨gb223, 7, none⟩ = some (.slice Ao46 t219.length co46) := (blk_cell BK223.out 7).trans rfl
                     have hfz99_0 := blk_frozen BK223.out 0
                     have hfz99_1 := blk_frozen BK223.out 1
                     have hfz99_2 := blk_frozen BK223.out 2
                     have hfz99_3 := blk_frozen BK223.out 3
                     have hfz99_4 := blk_frozen BK223.out 4
                     have hfz99_5 := blk_frozen BK223.out 5
                     have hfz99_6 := blk_frozen BK223.out 6
                     have hfz99_7 := blk_frozen BK223.out 7
                     have p225 : 0 ≤ (x109_3 : Int) := of_decide_eq_true (by first | (with_reducible assumption) | assumption)
                     have q225 : x109_3 < (t219.length : Int) := of_decide_eq_true (by first | (with_reducible assumption) | assumption)
                     obtain ⟨ad225, e225, hx225_0⟩ := Kd.at_bool (Kd.R_reads' HO_224007.out).2.2 x109_3 p225 q225
                     cases e225
                     replace p225 := eq_true p225
                     replace q225 := eq_true q225
                     have p226 : 0 ≤ (x109_3 : Int) := of_decide_eq_true (by first | (with_reducible assumption) | assumption)
                     have q226 : x109_3 < (t175.length : Int) := of_decide_eq_true (by first | (with_reducible assumption) | assumption)
                     obtain ⟨ad226, e226, hx226_0⟩ := Kd.at_bool (Kd.R_reads' HO_180007.out).2.2 x109_3 p226 q226
                     cases e226
                     replace p226 := eq_true p226
                     replace q226 := eq_true q226
                     go_wp2
                     repeat (go_quiet (fail); try go_wp2)
                     go_roundg k3
                     case measure => have := HK1.out; have := HJ24.out; have := HK3.out; omega
                     case rel => exact ⟨(wrap64 (x109_3 + 1)), (by first | rfl | (simp; done) | (simp [*]; done)), H', ⟨by have := HK1.out; have := HJ24.out; have := HK3.out; omega⟩, ⟨by (with_reducible repeat (first | apply Kd.R_alloc | apply Kd.R_drewN | apply Kd.R_drew)); exact HO_180002.out⟩, ⟨by (with_reducible repeat (first | apply Kd.R_alloc | apply Kd.R_drewN | apply Kd.R_drew)); exact HO_180003.out⟩, ⟨by (with_reducible repeat (first | apply Kd.R_alloc | apply Kd.R_drewN | apply Kd.R_drew)); exact HO_180006.out⟩, ⟨by (with_reducible repeat (first | apply Kd.R_alloc | apply Kd.R_drewN | apply Kd.R_drew)); exact HO_180007.out⟩, ⟨by (with_reducible repeat (first | apply Kd.R_alloc | apply Kd.R_drewN | apply Kd.R_drew)); exact HO_202002.out⟩, ⟨by (with_reducible repeat (first | apply Kd.R_alloc | apply Kd.R_drewN | apply Kd.R_drew)); exact HO_202003.out⟩, ⟨by (with_reducible repeat (first | apply Kd.R_alloc | apply Kd.R_drewN | apply Kd.R_drew)); exact HO_202006.out⟩, ⟨by (with_reducible repeat (first | apply Kd.R_alloc | apply Kd.R_drewN | apply Kd.R_drew)); exact HO_202007.out⟩, ⟨by (with_reducible repeat (first | apply Kd.R_alloc | apply Kd.R_drewN | apply Kd.R_drew)); exact HO_224002.out⟩, ⟨by (with_reducible repeat (first | apply Kd.R_alloc | apply Kd.R_drewN | apply Kd.R_drew)); exact HO_224003.out⟩, ⟨by (with_reducible repeat (first | apply Kd.R_alloc | apply Kd.R_drewN | apply Kd.R_drew)); exact HO_224006.out⟩, ⟨by (with_reducible repeat (first | apply Kd.R_alloc | apply Kd.R_drewN | apply Kd.R_drew)); exact HO_224007.out⟩, ⟨by (with_reducible repeat (first | refine blk_drewN ?_ _ | refine blk_drew ?_ | refine blk_alloc ?_ _)); exact BK179.out⟩, ⟨by (with_reducible repeat (first | refine blk_drewN ?_ _ | refine blk_drew ?_ | refine blk_alloc ?_ _)); exact BK201.out⟩, ⟨by (with_reducible repeat (first | refine blk_drewN ?_ _ | refine blk_drew ?_ | refine blk_alloc ?_ _)); exact BK223.out⟩, ⟨by repeat (first | (with_reducible first | exact HB.out | apply below_alloc | apply pw_below_drewN | apply below_drew1 | refine below_set ?_ GE179.out | refine below_set ?_ GE201.out | refine below_set ?_ GE223.out) | exact HB.out)⟩⟩
                  ·
                   rw [if_neg c88] at H
                   exact absurd H (by simp)
                 ·
                  rw [if_neg c87] at H
                  exact absurd H (by simp)
                ·
                 rw [if_neg c86] at H
                 have c86b0 : decide (0 < t170) = false := decide_eq_false c86
                 clear c86
                 focus
                  have H' := Aside0.mk H
                  clear H
                  have p224 : 0 ≤ (x109_3 : Int) := of_decide_eq_true (by first | (with_reducible assumption) | assumption)
                  have q224 : x109_3 < (l0.length : Int) := of_decide_eq_true (by first | (with_reducible assumption) | assumption)
                  obtain ⟨ad224, e224, hx224_0⟩ := Kd.at_int HR0.out x109_3 p224 q224
                  cases e224
                  replace hx224_0 := (HB.out.cell (World.block_lt_of_cell? w _ hx224_0)).trans hx224_0
                  replace p224 := eq_true p224
                  replace q224 := eq_true q224
                  have hnb100 := NB179_201.out
                  have hnc100 := NB201_179.out
                  have hnb101 := NB179_223.out
                  have hnc101 := NB223_179.out
                  have hcz102_0 : wr.cell? ⟨gb179, 0, none⟩ = some (.int .i64 t162) := (blk_cell BK179.out 0).trans rfl
                  have hcz102_1 : wr.cell? ⟨gb179, 1, none⟩ = some (.int .i64 t163) := (blk_cell BK179.out 1).trans rfl
                  have hcz102_2 : wr.cell? ⟨gb179, 2, none⟩ = some (.slice Ao13 t164.length co13) := (blk_cell BK179.out 2).trans rfl
                  have hcz102_3 : wr.cell? ⟨gb179, 3, none⟩ = some (.slice Ao14 t167.length co14) := (blk_cell BK179.out 3).trans rfl
                  have hcz102_4 : wr.cell? ⟨gb179, 4, none⟩ = some (.int .i64 t170) := (blk_cell BK179.out 4).trans rfl
                  have hcz102_5 : wr.cell? ⟨gb179, 5, none⟩ = some (.int .i64 t171) := (blk_cell BK179.out 5).trans rfl
                  have hcz102_6 : wr.cell? ⟨gb179, 6, none⟩ = some (.slice Ao15 t172.length co15) := (blk_cell BK179.out 6).trans rfl
                  have hcz102_7 : wr.cell? ⟨gb179, 7, none⟩ = some (.slice Ao16 t175.length co16) := (blk_cell BK179.out 7).trans rfl
                  have hfz102_0 := blk_frozen BK179.out 0
                  have hfz102_1 := blk_frozen BK179.out 1
                  have hfz102_2 := blk_frozen BK179.out 2
                  have hfz102_3 := blk_frozen BK179.out 3
                  have hfz102_4 := blk_frozen BK179.out 4
                  have hfz102_5 := blk_frozen BK179.out 5
                  have hfz102_6 := blk_frozen BK179.out 6
                  have hfz102_7 := blk_frozen BK179.out 7
                  go_wp2
                  repeat (go_quiet (fail); try go_wp2)
                  go_roundg k3
                  case measure => have := HK1.out; have := HJ24.out; have := HK3.out; omega
                  case rel => exact ⟨(wrap64 (x109_3 + 1)), (by first | rfl | (simp; done) | (simp [*]; done)), H', ⟨by have := HK1.out; have := HJ24.out; have := HK3.out; omega⟩, ⟨by (with_reducible repeat (first | apply Kd.R_alloc | apply Kd.R_drewN | apply Kd.R_drew)); exact HO_180002.out⟩, ⟨by (with_reducible repeat (first | apply Kd.R_alloc | apply Kd.R_drewN | apply Kd.R_drew)); exact HO_180003.out⟩, ⟨by (with_reducible repeat (first | apply Kd.R_alloc | apply Kd.R_drewN | apply Kd.R_drew)); exact HO_180006.out⟩, ⟨by (with_reducible repeat (first | apply Kd.R_alloc | apply Kd.R_drewN | apply Kd.R_drew)); exact HO_180007.out⟩, ⟨by (with_reducible repeat (first | apply Kd.R_alloc | apply Kd.R_drewN | apply Kd.R_drew)); exact HO_202002.out⟩, ⟨by (with_reducible repeat (first | apply Kd.R_alloc | apply Kd.R_drewN | apply Kd.R_drew)); exact HO_202003.out⟩, ⟨by (with_reducible repeat (first | apply Kd.R_alloc | apply Kd.R_drewN | apply Kd.R_drew)); exact HO_202006.out⟩, ⟨by (with_reducible repeat (first | apply Kd.R_alloc | apply Kd.R_drewN | apply Kd.R_drew)); exact HO_202007.out⟩, ⟨by (with_reducible repeat (first | apply Kd.R_alloc | apply Kd.R_drewN | apply Kd.R_drew)); exact HO_224002.out⟩, ⟨by (with_reducible repeat (first | apply Kd.R_alloc | apply Kd.R_drewN | apply Kd.R_drew)); exact HO_224003.out⟩, ⟨by (with_reducible repeat (first | apply Kd.R_alloc | apply Kd.R_drewN | apply Kd.R_drew)); exact HO_224006.out⟩, ⟨by (with_reducible repeat (first | apply Kd.R_alloc | apply Kd.R_drewN | apply Kd.R_drew)); exact HO_224007.out⟩, ⟨by (with_reducible repeat (first | refine blk_drewN ?_ _ | refine blk_drew ?_ | refine blk_alloc ?_ _)); exact BK179.out⟩, ⟨by (with_reducible repeat (first | refine blk_drewN ?_ _ | refine blk_drew ?_ | refine blk_alloc ?_ _)); exact BK201.out⟩, ⟨by (with_reducible repeat (first | refine blk_drewN ?_ _ | refine blk_drew ?_ | refine blk_alloc ?_ _)); exact BK223.out⟩, ⟨by repeat (first | (with_reducible first | exact HB.out | apply below_alloc | apply pw_below_drewN | apply below_drew1 | refine below_set ?_ GE179.out | refine below_set ?_ GE201.out | refine below_set ?_ GE223.out) | exact HB.out)⟩⟩
               ·
                rw [if_neg c85] at H
                have c85b0 : ((rd l0 x109_3) == 0) = false := beq_eq_false_iff_ne.mpr c85
                have c85b1 : ((rd l0 x109_3) != 0) = true := bne_iff_ne.mpr c85
                by_cases c103 : x109_3 < (t197.length : Int)
                ·
                 rw [if_pos c103] at H
                 have c103b0 : decide (x109_3 < (t197.length : Int)) = true := decide_eq_true c103
                 clear c103
                 by_cases c104 : x109_3 < (t175.length : Int)
                 ·
                  rw [if_pos c104] at H
                  have c104b0 : decide (x109_3 < (t175.length : Int)) = true := decide_eq_true c104
                  clear c104
                  by_cases c105 : ((rdOf false t197 x109_3) == (rdOf false t175 x109_3)) = true
                  ·
                   rw [if_pos c105] at H
                   exact absurd (Option.some.inj H) (by rw [HR_.out]; decide)
                  ·
                   rw [if_neg c105] at H
                   have c105b0 : ((rdOf false t197 x109_3) == (rdOf false t175 x109_3)) = false := by simpa using c105
                   (try (have c105b1 : decide ((rdOf false t197 x109_3) = (rdOf false t175 x109_3)) = false := by simpa using c105))
                   (try (have c105b2 : ((rdOf false t197 x109_3) == (rdOf false t175 x109_3)) = false := by simpa using c105))
                   (try (have c105b3 : ¬ ((rdOf false t197 x109_3) = (rdOf false t175 x109_3)) := by simpa using c105))
                   clear c105
                   by_cases c111 : t170 > 0
                   ·
                    rw [if_pos c111] at H
                    have c111b0 : decide (0 < t170) = true := decide_eq_true c111
                    clear c111
                    by_cases c112 : x109_3 < (t219.length : Int)
                    ·
                     rw [if_pos c112] at H
                     have c112b0 : decide (x109_3 < (t219.length : Int)) = true := decide_eq_true c112
                     clear c112
                     by_cases c113 : ((rdOf false t219 x109_3) != (rdOf false t175 x109_3)) = true
                     ·
                      rw [if_pos c113] at H
                      exact absurd (Option.some.inj H) (by rw [HR_.out]; decide)
                     ·
                      rw [if_neg c113] at H
                      have c113b0 : ((rdOf false t219 x109_3) != (rdOf false t175 x109_3)) = false := by simpa using c113
                      (try (have c113b1 : decide ((rdOf false t219 x109_3) = (rdOf false t175 x109_3)) = true := by simpa using c113))
                      (try (have c113b2 : ((rdOf false t219 x109_3) == (rdOf false t175 x109_3)) = true := by simpa using c113))
                      clear c113
                      focus
                       have H' := Aside0.mk H
                       clear H
                       have p224 : 0 ≤ (x109_3 : Int) := of_decide_eq_true (by first | (with_reducible assumption) | assumption)
                       have q224 : x109_3 < (l0.length : Int) := of_decide_eq_true (by first | (with_reducible assumption) | assumption)
                       obtain ⟨ad224, e224, hx224_0⟩ := Kd.at_int HR0.out x109_3 p224 q224
                       cases e224
                       replace hx224_0 := (HB.out.cell (World.block_lt_of_cell? w _ hx224_0)).trans hx224_0
                       replace p224 := eq_true p224
                       replace q224 := eq_true q224
                       have hnb120 := NB201_179.out
                       have hnc120 := NB179_201.out
                       have hnb121 := NB201_223.out
                       have hnc121 := NB223_201.out
                       have hcz122_0 : wr.cell? ⟨gb201, 0, none⟩ = some (.int .i64 t184) := (blk_cell BK201.out 0).trans rfl
                       have hcz122_1 : wr.cell? ⟨gb201, 1, none⟩ = some (.int .i64 t185) := (blk_cell BK201.out 1).trans rfl
                       have hcz122_2 : wr.cell? ⟨gb201, 2, none⟩ = some (.slice Ao31 t186.length co31) := (blk_cell BK201.out 2).trans rfl
                       have hcz122_3 : wr.cell? ⟨gb201, 3, none⟩ = some (.slice Ao32 t189.length co32) := (blk_cell BK201.out 3).trans rfl
                       have hcz122_4 : wr.cell? ⟨gb201, 4, none⟩ = some (.int .i64 t192) := (blk_cell BK201.out 4).trans rfl
                       have hcz122_5 : wr.cell? ⟨gb201, 5, none⟩ = some (.int .i64 t193) := (blk_cell BK201.out 5).trans rfl
                       have hcz122_6 : wr.cell? ⟨gb201, 6, none⟩ = some (.slice Ao33 t194.length co33) := (blk_cell BK201.out 6).trans rfl
                       have hcz122_7 : wr.cell? ⟨gb201, 7, none⟩ = some (.slice Ao34 t197.length co34) := (blk_cell BK201.out 7).trans rfl
                       have hfz122_0 := blk_frozen BK201.out 0
                       have hfz122_1 := blk_frozen BK201.out 1
                       have hfz122_2 := blk_frozen BK201.out 2
                       have hfz122_3 := blk_frozen BK201.out 3
                       have hfz122_4 := blk_frozen BK201.out 4
                       have hfz122_5 := blk_frozen BK201.out 5
                       have hfz122_6 := blk_frozen BK201.out 6
                       have hfz122_7 := blk_frozen BK201.out 7
                       have p227 : 0 ≤ (x109_3 : Int) := of_decide_eq_true (by first | (with_reducible assumption) | assumption)
                       have q227 : x109_3 < (t197.length : Int) := of_decide_eq_true (by first | (with_reducible assumption) | assumption)
                       obtain ⟨ad227, e227, hx227_0⟩ := Kd.at_bool (Kd.R_reads' HO_202007.out).2.2 x109_3 p227 q227
                       cases e227
                       replace p227 := eq_true p227
                       replace q227 := eq_true q227
                       have hnb123 := NB179_223.out
                       have hnc123 := NB223_179.out
                       have hcz124_0 : wr.cell? ⟨gb179, 0, none⟩ = some (.int .i64 t162) := (blk_cell BK179.out 0).trans rfl
                       have hcz124_1 : wr.cell? ⟨gb179, 1, none⟩ = some (.int .i64 t163) := (blk_cell BK179.out 1).trans rfl
                       have hcz124_2 : wr.cell? ⟨gb179, 2, none⟩ = some (.slice Ao13 t164.length co13) := (blk_cell BK179.out 2).trans rfl
                       have hcz124_3 : wr.cell? ⟨gb179, 3, none⟩ = some (.slice Ao14 t167.length co14) := (blk_cell BK179.out 3).trans rfl
                       have hcz124_4 : wr.cell? ⟨gb179, 4, none⟩ = some (.int .i64 t170) := (blk_cell BK179.out 4).trans rfl
                       have hcz124_5 : wr.cell? ⟨gb179, 5, none⟩ = some (.int .i64 t171) := (blk_cell BK179.out 5).trans rfl
                       have hcz124_6 : wr.cell? ⟨gb179, 6, none⟩ = some (.slice Ao15 t172.length co15) := (blk_cell BK179.out 6).trans rfl
                       have hcz124_7 : wr.cell? ⟨gb179, 7, none⟩ = some (.slice Ao16 t175.length co16) := (blk_cell BK179.out 7).trans rfl
                       have hfz124_0 := blk_frozen BK179.out 0
                       have hfz124_1 := blk_frozen BK179.out 1
                       have hfz124_2 := blk_frozen BK179.out 2
                       have hfz124_3 := blk_frozen BK179.out 3
                       have hfz124_4 := blk_frozen BK179.out 4
                       have hfz124_5 := blk_frozen BK179.out 5
                       have hfz124_6 := blk_frozen BK179.out 6
                       have hfz124_7 := blk_frozen BK179.out 7
                       have p228 : 0 ≤ (x109_3 : Int) := of_decide_eq_true (by first | (with_reducible assumption) | assumption)
                       have q228 : x109_3 < (t175.length : Int) := of_decide_eq_true (by first | (with_reducible assumption) | assumption)
                       obtain ⟨ad228, e228, hx228_0⟩ := Kd.at_bool (Kd.R_reads' HO_180007.out).2.2 x109_3 p228 q228
                       cases e228
                       replace p228 := eq_true p228
                       replace q228 := eq_true q228
                       have hcz125_0 : wr.cell? ⟨gb223, 0, none⟩ = some (.int .i64 t206) := (blk_cell BK223.out 0).trans rfl
                       have hcz125_1 : wr.cell? ⟨gb223, 1, none⟩ = some (.int .i64 t207) := (blk_cell BK223.out 1).trans rfl
                       have hcz125_2 : wr.cell? ⟨gb223, 2, none⟩ = some (.slice Ao43 t208.length co43) := (blk_cell BK223.out 2).trans rfl
                       have hcz125_3 : wr.cell? ⟨gb223, 3, none⟩ = some (.slice Ao44 t211.length co44) := (blk_cell BK223.out 3).trans rfl
                       have hcz125_4 : wr.cell? ⟨gb223, 4, none⟩ = some (.int .i64 t214) := (blk_cell BK223.out 4).trans rfl
                       have hcz125_5 : wr.cell? ⟨gb223, 5, none⟩ = some (.int .i64 t215) := (blk_cell BK223.out 5).trans rfl
                       have hcz125_6 : wr.cell? ⟨gb223, 6, none⟩ = some (.slice Ao45 t216.length co45) := (blk_cell BK223.out 6).trans rfl
                       have hcz125_7 : wr.cell? ⟨gb223, 7, none⟩ = some (.slice Ao46 t219.length co46) := (blk_cell BK223.out 7).trans rfl
                       have hfz125_0 := blk_frozen BK223.out 0
                       have hfz125_1 := blk_frozen BK223.out 1
                       have hfz125_2 := blk_frozen BK223.out 2
                       have hfz125_3 := blk_frozen BK223.out 3
                       have hfz125_4 := blk_frozen BK223.out 4
                       have hfz125_5 := blk_frozen BK223.out 5
                       have hfz125_6 := blk_frozen BK223.out 6
                       have hfz125_7 := blk_frozen BK223.out 7
                       have p229 : 0 ≤ (x109_3 : Int) := of_decide_eq_true (by first | (with_reducible assumption) | assumption)
                       have q229 : x109_3 < (t219.length : Int) := of_decide_eq_true (by first | (with_reducible assumption) | assumption)
                       obtain ⟨ad229, e229, hx229_0⟩ := Kd.at_bool (Kd.R_reads' HO_224007.out).2.2 x109_3 p229 q229
                       cases e229
                       replace p229 := eq_true p229
                       replace q229 := eq_true q229
                       have p230 : 0 ≤ (x109_3 : Int) := of_decide_eq_true (by first | (with_reducible assumption) | assumption)
                       have q230 : x109_3 < (t175.length : Int) := of_decide_eq_true (by first | (with_reducible assumption) | assumption)
                       obtain ⟨ad230, e230, hx230_0⟩ := Kd.at_bool (Kd.R_reads' HO_180007.out).2.2 x109_3 p230 q230
                       obtain rfl : ad228 = ad230 := (by injection e230)
                       replace p230 := eq_true p230
                       replace q230 := eq_true q230
                       go_wp2
                       repeat (go_quiet (fail); try go_wp2)
                       go_roundg k3
                       case measure => have := HK1.out; have := HJ24.out; have := HK3.out; omega
                       case rel => exact ⟨(wrap64 (x109_3 + 1)), (by first | rfl | (simp; done) | (simp [*]; done)), H', ⟨by have := HK1.out; have := HJ24.out; have := HK3.out; omega⟩, ⟨by (with_reducible repeat (first | apply Kd.R_alloc | apply Kd.R_drewN | apply Kd.R_drew)); exact HO_180002.out⟩, ⟨by (with_reducible repeat (first | apply Kd.R_alloc | apply Kd.R_drewN | apply Kd.R_drew)); exact HO_180003.out⟩, ⟨by (with_reducible repeat (first | apply Kd.R_alloc | apply Kd.R_drewN | apply Kd.R_drew)); exact HO_180006.out⟩, ⟨by (with_reducible repeat (first | apply Kd.R_alloc | apply Kd.R_drewN | apply Kd.R_drew)); exact HO_180007.out⟩, ⟨by (with_reducible repeat (first | apply Kd.R_alloc | apply Kd.R_drewN | apply Kd.R_drew)); exact HO_202002.out⟩, ⟨by (with_reducible repeat (first | apply Kd.R_alloc | apply Kd.R_drewN | apply Kd.R_drew)); exact HO_202003.out⟩, ⟨by (with_reducible repeat (first | apply Kd.R_alloc | apply Kd.R_drewN | apply Kd.R_drew)); exact HO_202006.out⟩, ⟨by (with_reducible repeat (first | apply Kd.R_alloc | apply Kd.R_drewN | apply Kd.R_drew)); exact HO_202007.out⟩, ⟨by (with_reducible repeat (first | apply Kd.R_alloc | apply Kd.R_drewN | apply Kd.R_drew)); exact HO_224002.out⟩, ⟨by (with_reducible repeat (first | apply Kd.R_alloc | apply Kd.R_drewN | apply Kd.R_drew)); exact HO_224003.out⟩, ⟨by (with_reducible repeat (first | apply Kd.R_alloc | apply Kd.R_drewN | apply Kd.R_drew)); exact HO_224006.out⟩, ⟨by (with_reducible repeat (first | apply Kd.R_alloc | apply Kd.R_drewN | apply Kd.R_drew)); exact HO_224007.out⟩, ⟨by (with_reducible repeat (first | refine blk_drewN ?_ _ | refine blk_drew ?_ | refine blk_alloc ?_ _)); exact BK179.out⟩, ⟨by (with_reducible repeat (first | refine blk_drewN ?_ _ | refine blk_drew ?_ | refine blk_alloc ?_ _)); exact BK201.out⟩, ⟨by (with_reducible repeat (first | refine blk_drewN ?_ _ | refine blk_drew ?_ | refine blk_alloc ?_ _)); exact BK223.out⟩, ⟨by repeat (first | (with_reducible first | exact HB.out | apply below_alloc | apply pw_below_drewN | apply below_drew1 | refine below_set ?_ GE179.out | refine below_set ?_ GE201.out | refine below_set ?_ GE223.out) | exact HB.out)⟩⟩
                    ·
                     rw [if_neg c112] at H
                     exact absurd H (by simp)
                   ·
                    rw [if_neg c111] at H
                    have c111b0 : decide (0 < t170) = false := decide_eq_false c111
                    clear c111
                    focus
                     have H' := Aside0.mk H
                     clear H
                     have p224 : 0 ≤ (x109_3 : Int) := of_decide_eq_true (by first | (with_reducible assumption) | assumption)
                     have q224 : x109_3 < (l0.length : Int) := of_decide_eq_true (by first | (with_reducible assumption) | assumption)
                     obtain ⟨ad224, e224, hx224_0⟩ := Kd.at_int HR0.out x109_3 p224 q224
                     cases e224
                     replace hx224_0 := (HB.out.cell (World.block_lt_of_cell? w _ hx224_0)).trans hx224_0
                     replace p224 := eq_true p224
                     replace q224 := eq_true q224
                     have hnb126 := NB201_179.out
                     have hnc126 := NB179_201.out
                     have hnb127 := NB201_223.out
                     have hnc127 := NB223_201.out
                     have hcz128_0 : wr.cell? ⟨gb201, 0, none⟩ = some (.int .i64 t184) := (blk_cell BK201.out 0).trans rfl
                     have hcz128_1 : wr.cell? ⟨gb201, 1, none⟩ = some (.int .i64 t185) := (blk_cell BK201.out 1).trans rfl
                     have hcz128_2 : wr.cell? ⟨gb201, 2, none⟩ = some (.slice Ao31 t186.length co31) := (blk_cell BK201.out 2).trans rfl
                     have hcz128_3 : wr.cell? ⟨gb201, 3, none⟩ = some (.slice Ao32 t189.length co32) := (blk_cell BK201.out 3).trans rfl
                     have hcz128_4 : wr.cell? ⟨gb201, 4, none⟩ = some (.int .i64 t192) := (blk_cell BK201.out 4).trans rfl
                     have hcz128_5 : wr.cell? ⟨gb201, 5, none⟩ = some (.int .i64 t193) := (blk_cell BK201.out 5).trans rfl
                     have hcz128_6 : wr.cell? ⟨gb201, 6, none⟩ = some (.slice Ao33 t194.length co33) := (blk_cell BK201.out 6).trans rfl
                     have hcz128_7 : wr.cell? ⟨gb201, 7, none⟩ = some (.slice Ao34 t197.length co34) := (blk_cell BK201.out 7).trans rfl
                     have hfz128_0 := blk_frozen BK201.out 0
                     have hfz128_1 := blk_frozen BK201.out 1
                     have hfz128_2 := blk_frozen BK201.out 2
                     have hfz128_3 := blk_frozen BK201.out 3
                     have hfz128_4 := blk_frozen BK201.out 4
                     have hfz128_5 := blk_frozen BK201.out 5
                     have hfz128_6 := blk_frozen BK201.out 6
                     have hfz128_7 := blk_frozen BK201.out 7
                     have p227 : 0 ≤ (x109_3 : Int) := of_decide_eq_true (by first | (with_reducible assumption) | assumption)
                     have q227 : x109_3 < (t197.length : Int) := of_decide_eq_true (by first | (with_reducible assumption) | assumption)
                     obtain ⟨ad227, e227, hx227_0⟩ := Kd.at_bool (Kd.R_reads' HO_202007.out).2.2 x109_3 p227 q227
                     cases e227
                     replace p227 := eq_true p227
                     replace q227 := eq_true q227
                     have hnb129 := NB179_223.out
                     have hnc129 := NB223_179.out
                     have hcz130_0 : wr.cell? ⟨gb179, 0, none⟩ = some (.int .i64 t162) := (blk_cell BK179.out 0).trans rfl
                     have hcz130_1 : wr.cell? ⟨gb179, 1, none⟩ = some (.int .i64 t163) := (blk_cell BK179.out 1).trans rfl
                     have hcz130_2 : wr.cell? ⟨gb179, 2, none⟩ = some (.slice Ao13 t164.length co13) := (blk_cell BK179.out 2).trans rfl
                     have hcz130_3 : wr.cell? ⟨gb179, 3, none⟩ = some (.slice Ao14 t167.length co14) := (blk_cell BK179.out 3).trans rfl
                     have hcz130_4 : wr.cell? ⟨gb179, 4, none⟩ = some (.int .i64 t170) := (blk_cell BK179.out 4).trans rfl
                     have hcz130_5 : wr.cell? ⟨gb179, 5, none⟩ = some (.int .i64 t171) := (blk_cell BK179.out 5).trans rfl
                     have hcz130_6 : wr.cell? ⟨gb179, 6, none⟩ = some (.slice Ao15 t172.length co15) := (blk_cell BK179.out 6).trans rfl
                     have hcz130_7 : wr.cell? ⟨gb179, 7, none⟩ = some (.slice Ao16 t175.length co16) := (blk_cell BK179.out 7).trans rfl
                     have hfz130_0 := blk_frozen BK179.out 0
                     have hfz130_1 := blk_frozen BK179.out 1
                     have hfz130_2 := blk_frozen BK179.out 2
                     have hfz130_3 := blk_frozen BK179.out 3
                     have hfz130_4 := blk_frozen BK179.out 4
                     have hfz130_5 := blk_frozen BK179.out 5
                     have hfz130_6 := blk_frozen BK179.out 6
                     have hfz130_7 := blk_frozen BK179.out 7
                     have p228 : 0 ≤ (x109_3 : Int) := of_decide_eq_true (by first | (with_reducible assumption) | assumption)
                     have q228 : x109_3 < (t175.length : Int) := of_decide_eq_true (by first | (with_reducible assumption) | assumption)
                     obtain ⟨ad228, e228, hx228_0⟩ := Kd.at_bool (Kd.R_reads' HO_180007.out).2.2 x109_3 p228 q228
                     cases e228
                     replace p228 := eq_true p228
                     replace q228 := eq_true q228
                     go_wp2
                     repeat (go_quiet (fail); try go_wp2)
                     go_roundg k3
                     case measure => have := HK1.out; have := HJ24.out; have := HK3.out; omega
                     case rel => exact ⟨(wrap64 (x109_3 + 1)), (by first | rfl | (simp; done) | (simp [*]; done)), H', ⟨by have := HK1.out; have := HJ24.out; have := HK3.out; omega⟩, ⟨by (with_reducible repeat (first | apply Kd.R_alloc | apply Kd.R_drewN | apply Kd.R_drew)); exact HO_180002.out⟩, ⟨by (with_reducible repeat (first | apply Kd.R_alloc | apply Kd.R_drewN | apply Kd.R_drew)); exact HO_180003.out⟩, ⟨by (with_reducible repeat (first | apply Kd.R_alloc | apply Kd.R_drewN | apply Kd.R_drew)); exact HO_180006.out⟩, ⟨by (with_reducible repeat (first | apply Kd.R_alloc | apply Kd.R_drewN | apply Kd.R_drew)); exact HO_180007.out⟩, ⟨by (with_reducible repeat (first | apply Kd.R_alloc | apply Kd.R_drewN | apply Kd.R_drew)); exact HO_202002.out⟩, ⟨by (with_reducible repeat (first | apply Kd.R_alloc | apply Kd.R_drewN | apply Kd.R_drew)); exact HO_202003.out⟩, ⟨by (with_reducible repeat (first | apply Kd.R_alloc | apply Kd.R_drewN | apply Kd.R_drew)); exact HO_202006.out⟩, ⟨by (with_reducible repeat (first | apply Kd.R_alloc | apply Kd.R_drewN | apply Kd.R_drew)); exact HO_202007.out⟩, ⟨by (with_reducible repeat (first | apply Kd.R_alloc | apply Kd.R_drewN | apply Kd.R_drew)); exact HO_224002.out⟩, ⟨by (with_reducible repeat (first | apply Kd.R_alloc | apply Kd.R_drewN | apply Kd.R_drew)); exact HO_224003.out⟩, ⟨by (with_reducible repeat (first | apply Kd.R_alloc | apply Kd.R_drewN | apply Kd.R_drew)); exact HO_224006.out⟩, ⟨by (with_reducible repeat (first | apply Kd.R_alloc | apply Kd.R_drewN | apply Kd.R_drew)); exact HO_224007.out⟩, ⟨by (with_reducible repeat (first | refine blk_drewN ?_ _ | refine blk_drew ?_ | refine blk_alloc ?_ _)); exact BK179.out⟩, ⟨by (with_reducible repeat (first | refine blk_drewN ?_ _ | refine blk_drew ?_ | refine blk_alloc ?_ _)); exact BK201.out⟩, ⟨by (with_reducible repeat (first | refine blk_drewN ?_ _ | refine blk_drew ?_ | refine blk_alloc ?_ _)); exact BK223.out⟩, ⟨by repeat (first | (with_reducible first | exact HB.out | apply below_alloc | apply pw_below_drewN | apply below_drew1 | refine below_set ?_ GE179.out | refine below_set ?_ GE201.out | refine below_set ?_ GE223.out) | exact HB.out)⟩⟩
                 ·
                  rw [if_neg c104] at H
                  exact absurd H (by simp)
                ·
                 rw [if_neg c103] at H
                 exact absurd H (by simp)
              ·
               rw [if_neg c84] at H
               exact absurd H (by simp)
             ·
              rw [if_neg c83] at H
              exact absurd H (by simp)
            ·
             rw [if_neg c82] at H
             have c82b0 : decide (x109_3 < (l0.length : Int)) = false := decide_eq_false c82
             clear c82
             focus
              obtain rfl := Option.some.inj H
              go_wp2
              repeat (go_quiet (fail); try go_wp2)
              go_ret
              exact ⟨by first | rfl | (simp [errW_none, errW_some] <;> rfl) | (simp [*, errW_none, errW_some] <;> rfl), by repeat (first | (with_reducible first | exact HB.out | apply below_alloc | apply pw_below_drewN | apply below_drew1 | refine below_set ?_ GE179.out | refine below_set ?_ GE201.out | refine below_set ?_ GE223.out) | exact HB.out)⟩
   ·
    rw [if_neg c7] at H
    have c7b0 : (t178 == 0) = false := beq_eq_false_iff_ne.mpr c7
    have c7b1 : (t178 != 0) = true := bne_iff_ne.mpr c7
    focus
     obtain rfl := Option.some.inj H
     go_enter Try.func3, Try.ntmps3
     go_wp2_with (first | (go_at_call 6; (with_reducible refine (thrumlaw11_live.calls  true _ A2.out).mono ?_); rintro e w131 ⟨rfl, hb⟩; have n0_ := Aside0.mk (below_step (by repeat (first | (with_reducible first | exact HB.out | apply below_alloc | apply pw_below_drewN | apply below_drew1) | exact HB.out)) hb); clear HB; have HB := n0_; clear n0_; (try clear hb); (try clear hb2); (try clear hk); (try clear hi)) | (go_at_call 7; (refine (thrumlaw11_few.calls k _ _ l0 _ _ ([] : List (List Bool)) true _ ?side1 ?side2 ?side3 ?side4 A4.out).mono ?_); (case side1 => repeat (first | exact (Kd.C_below HR0.out HB.out) | (with_reducible refine Kd.C_alloc ?_ _) | (with_reducible refine Kd.C_drewN ?_ _) | (with_reducible refine Kd.C_drew ?_))); (case side2 => exact HC0.out); (case side3 => exact Kd.C_nil _ _); (case side4 => exact Nat.le_refl _); rintro e w132 ⟨rfl, hb⟩; have n0_ := Aside0.mk (below_step (by repeat (first | (with_reducible first | exact HB.out | apply below_alloc | apply pw_below_drewN | apply below_drew1) | exact HB.out)) hb); clear HB; have HB := n0_; clear n0_; (try clear hb); (try clear hb2); (try clear hk); (try clear hi)) | (go_at_call 8; (with_reducible refine (sign_Press.calls _ _ l0 t162 t163 t164 t167 t170 t171 t172 t175 t178 _ ?side1 ?side2 A6.out).mono ?_); (case side1 => repeat (first | exact (Kd.C_below HR0.out HB.out) | (with_reducible refine Kd.C_alloc ?_ _) | (with_reducible refine Kd.C_drewN ?_ _) | (with_reducible refine Kd.C_drew ?_))); (case side2 => exact HC0.out); rintro e w133 ⟨v165, v168, v173, v176, rfl, ho0, ho1, ho2, ho3, hb⟩; have n0_ := Aside0.mk (Kd.R_lower ho0 (below_size (by repeat (first | (with_reducible first | exact HB.out | apply below_alloc | apply pw_below_drewN | apply below_drew1) | exact HB.out)))); have n1_ := Aside0.mk (Kd.R_lower ho1 (below_size (by repeat (first | (with_reducible first | exact HB.out | apply below_alloc | apply pw_below_drewN | apply below_drew1) | exact HB.out)))); have n2_ := Aside0.mk (Kd.R_lower ho2 (below_size (by repeat (first | (with_reducible first | exact HB.out | apply below_alloc | apply pw_below_drewN | apply below_drew1) | exact HB.out)))); have n3_ := Aside0.mk (Kd.R_lower ho3 (below_size (by repeat (first | (with_reducible first | exact HB.out | apply below_alloc | apply pw_below_drewN | apply below_drew1) | exact HB.out)))); have n4_ := Aside0.mk (below_step (by repeat (first | (with_reducible first | exact HB.out | apply below_alloc | apply pw_below_drewN | apply below_drew1) | exact HB.out)) hb); clear HB; have HO166 := n0_; have HO169 := n1_; have HO174 := n2_; have HO177 := n3_; have HB := n4_; clear n0_ n1_ n2_ n3_ n4_; (try clear hb); (try clear hb2); (try clear hk); (try clear hi); (try clear ho0); (try clear ho1); (try clear ho2); (try clear ho3)) | ((with_reducible refine gate_dst (N := 4) rfl ?_); (try (refine gate_guard (by rfl) ?_; dsimp only)); refine box_event ?hg (N := 4) ?hd (cs := #[.int .i64 0, .int .i64 0, .slice none 0 0, .slice none 0 0, .int .i64 0, .int .i64 0, .slice none 0 0, .slice none 0 0]) (t := 29) ?hr ?_; (case hd => rfl); (case hg => rfl); (case hr => first | (go_simp; done) | (go_simp; rfl)); intro gb179 hg w134 hbox hb; have n0_ := Aside0.mk (Kd.R_below (by (with_reducible repeat (first | apply Kd.R_alloc | apply Kd.R_drewN | apply Kd.R_drew)); exact HO166.out) hb); have n1_ := Aside0.mk (Kd.R_below (by (with_reducible repeat (first | apply Kd.R_alloc | apply Kd.R_drewN | apply Kd.R_drew)); exact HO169.out) hb); have n2_ := Aside0.mk (Kd.R_below (by (with_reducible repeat (first | apply Kd.R_alloc | apply Kd.R_drewN | apply Kd.R_drew)); exact HO174.out) hb); have n3_ := Aside0.mk (Kd.R_below (by (with_reducible repeat (first | apply Kd.R_alloc | apply Kd.R_drewN | apply Kd.R_drew)); exact HO177.out) hb); have n4_ := Aside0.mk (below_step (by repeat (first | (with_reducible first | exact HB.out | apply below_alloc | apply pw_below_drewN | apply below_drew1) | exact HB.out)) hb); have n5_ := Aside0.mk (hbox); have n6_ := Aside0.mk ((by rw [hg]; exact (below_size (by repeat (first | (with_reducible first | exact HB.out | apply below_alloc | apply pw_below_drewN | apply below_drew1) | exact HB.out))) : w.heap.size ≤ gb179)); have n7_ := Aside0.mk ((by rw [hg]; exact (below_size (by repeat (first | (with_reducible first | exact HB.out | apply below_alloc | apply pw_below_drewN | apply below_drew1) | exact HB.out))) : w.heap.size ≤ gb179)); clear HO166; clear HO169; clear HO174; clear HO177; clear HB; have HO166 := n0_; have HO169 := n1_; have HO174 := n2_; have HO177 := n3_; have HB := n4_; have BK179 := n5_; have GW179 := n6_; have GE179 := n7_; clear n0_ n1_ n2_ n3_ n4_ n5_ n6_ n7_; clear hb hbox hg; have hcz135_0 : w134.cell? ⟨gb179, 0, none⟩ = some (.int .i64 0) := (blk_cell BK179.out 0).trans rfl; have hcz135_1 : w134.cell? ⟨gb179, 1, none⟩ = some (.int .i64 0) := (blk_cell BK179.out 1).trans rfl; have hcz135_2 : w134.cell? ⟨gb179, 2, none⟩ = some (.slice none 0 0) := (blk_cell BK179.out 2).trans rfl; have hcz135_3 : w134.cell? ⟨gb179, 3, none⟩ = some (.slice none 0 0) := (blk_cell BK179.out 3).trans rfl; have hcz135_4 : w134.cell? ⟨gb179, 4, none⟩ = some (.int .i64 0) := (blk_cell BK179.out 4).trans rfl; have hcz135_5 : w134.cell? ⟨gb179, 5, none⟩ = some (.int .i64 0) := (blk_cell BK179.out 5).trans rfl; have hcz135_6 : w134.cell? ⟨gb179, 6, none⟩ = some (.slice none 0 0) := (blk_cell BK179.out 6).trans rfl; have hcz135_7 : w134.cell? ⟨gb179, 7, none⟩ = some (.slice none 0 0) := (blk_cell BK179.out 7).trans rfl; have hfz135_0 := blk_frozen BK179.out 0; have hfz135_1 := blk_frozen BK179.out 1; have hfz135_2 := blk_frozen BK179.out 2; have hfz135_3 := blk_frozen BK179.out 3; have hfz135_4 := blk_frozen BK179.out 4; have hfz135_5 := blk_frozen BK179.out 5; have hfz135_6 := blk_frozen BK179.out 6; have hfz135_7 := blk_frozen BK179.out 7; obtain ⟨Ao136, co136, eo136⟩ := Kd.R_slice HO166.out; subst eo136; obtain ⟨Ao137, co137, eo137⟩ := Kd.R_slice HO169.out; subst eo137; obtain ⟨Ao138, co138, eo138⟩ := Kd.R_slice HO174.out; subst eo138; obtain ⟨Ao139, co139, eo139⟩ := Kd.R_slice HO177.out; subst eo139))
     go_ret
     exact ⟨by first | rfl | (simp [errW_none, errW_some] <;> rfl) | (simp [*, errW_none, errW_some] <;> rfl), by repeat (first | (with_reducible first | exact HB.out | apply below_alloc | apply pw_below_drewN | apply below_drew1 | refine below_set ?_ GE179.out) | exact HB.out)⟩
  ·
   replace c5 := Bool.eq_false_iff.mpr c5
   subst c5
   have H1 : (some true) = some r := by rw [if_neg (show ¬ (false = true) by decide)] at H; exact H
   clear H
   have H := H1
   clear H1
   focus
    obtain rfl := Option.some.inj H
    go_enter Try.func3, Try.ntmps3
    go_wp2_with (first | (go_at_call 6; (with_reducible refine (thrumlaw11_live.calls  true _ A2.out).mono ?_); rintro e w140 ⟨rfl, hb⟩; have n0_ := Aside0.mk (below_step (by repeat (first | (with_reducible first | exact HB.out | apply below_alloc | apply pw_below_drewN | apply below_drew1) | exact HB.out)) hb); clear HB; have HB := n0_; clear n0_; (try clear hb); (try clear hb2); (try clear hk); (try clear hi)) | (go_at_call 7; (refine (thrumlaw11_few.calls k _ _ l0 _ _ ([] : List (List Bool)) false _ ?side1 ?side2 ?side3 ?side4 A4.out).mono ?_); (case side1 => repeat (first | exact (Kd.C_below HR0.out HB.out) | (with_reducible refine Kd.C_alloc ?_ _) | (with_reducible refine Kd.C_drewN ?_ _) | (with_reducible refine Kd.C_drew ?_))); (case side2 => exact HC0.out); (case side3 => exact Kd.C_nil _ _); (case side4 => exact Nat.le_refl _); rintro e w141 ⟨rfl, hb⟩; have n0_ := Aside0.mk (below_step (by repeat (first | (with_reducible first | exact HB.out | apply below_alloc | apply pw_below_drewN | apply below_drew1) | exact HB.out)) hb); clear HB; have HB := n0_; clear n0_; (try clear hb); (try clear hb2); (try clear hk); (try clear hi)))
    go_ret
    exact ⟨by first | rfl | (simp [errW_none, errW_some] <;> rfl) | (simp [*, errW_none, errW_some] <;> rfl), by repeat (first | (with_reducible first | exact HB.out | apply below_alloc | apply pw_below_drewN | apply below_drew1) | exact HB.out)⟩
 ·
  replace c3 := Bool.eq_false_iff.mpr c3
  subst c3
  have H1 : (some false) = some r := by rw [if_neg (show ¬ (false = true) by decide)] at H; exact H
  exact absurd (Option.some.inj H1) (by rw [HR_.out]; decide)

/-- THE ONE PURE STATEMENT of thrumlaw11_SignTurned: yours. -/
def thrumlaw11_SignTurned.Pure : Prop := ∀ (l0 : List Int), l0.length ≤ maxLen → l0.length * 8 ≤ 140737488351232 → (∀ x ∈ l0, (Lit.int .i64 x).wf = true) → ∃ k, thrumlaw11_SignTurned.f k l0 = some true
theorem thrumlaw11_SignTurned.walk (P : thrumlaw11_SignTurned.Pure) (a0 : Option Addr) (len0 cap0 : Nat) (z0 : List Int) (w : World) (w0 : (a0 = none ∧ len0 = 0 ∧ cap0 = 0 ∧ z0 = []) ∨ ∃ x, a0 = some x ∧ len0 ≤ cap0 ∧ cap0 ≤ maxLen ∧ z0.length = cap0 ∧ (∀ i, i < z0.length → w.cell? (x.add i) = some (.int .i64 (z0.getD i 0))) ∧ ∀ n ∈ z0, (Lit.int .i64 n).wf = true) (y0 : len0 * 8 ≤ 140737488351232) :
  Calls Try.prog 3 #[.slice a0 len0 cap0] w fun e w' => e = .returned (.bool true) ∧ Below w.heap.size w w' := by
 obtain ⟨l0, rfl, hr0, hm0, hw0, hc0⟩ := ReadsInt.ofRowC w0
 obtain ⟨k, h⟩ := P l0 hm0 y0 hw0
 refine (thrumlaw11_SignTurned.calls k _ _ l0 true w (Kd.C_of_reads (d := (0 : Int)) (h1 := fun _ => rfl) hr0) hc0 h rfl).mono ?_
 rintro e w' ⟨rfl, hd⟩
 exact ⟨rfl, hd⟩



















































































































































































































































































































































































































































































































































end Go.Proofs.Ytnhdeljkoackfaa.HC
