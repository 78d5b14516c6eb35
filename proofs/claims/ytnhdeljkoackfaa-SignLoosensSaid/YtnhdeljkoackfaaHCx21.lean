/- What Go functions do, each as a plain Lean function with the same answers, and the proof of it, in every world: printed by the session's driver over the kit's print, with texts by hand. -/
import Derived.Test.YtnhdeljkoackfaaHCx0
import Derived.Test.YtnhdeljkoackfaaHCx1
import Derived.Test.YtnhdeljkoackfaaHCx7
import Derived.Test.YtnhdeljkoackfaaHCx8
import Derived.Test.YtnhdeljkoackfaaHCx9
import Derived.Test.YtnhdeljkoackfaaHCx18
namespace Go.Proofs.Ytnhdeljkoackfaa.HC
open Go.RowKit Go.Proofs.YtnhdeljkoackfaaW.PrintWords Go.Proofs.YtnhdeljkoackfaaW.PrintLast Go.Proofs.YtnhdeljkoackfaaW.PrintMore
attribute [local go_sem] max2_int min2_int max_two min_two max_three min_three max_four min_four   -- for this text's walks alone
open Go.Proofs.Ytnhdeljkoackfaa.Sp
attribute [local go_sem] Go.Proofs.Ytnhdeljkoackfaa.Sp.u64_not
set_option linter.unusedVariables false
set_option linter.unusedSimpArgs false

/-! ### thrumlaw11_SignLoosens: function 5 -/
mutual
def thrumlaw11_SignLoosens.j0 : Nat → List Int → Bool → List Int → Bool → Int → Int → List Int → List Int → Int → Int → List Int → List Bool → Option (Bool)
 | 0, _, _, _, _, _, _, _, _, _, _, _, _ => none
 | k + 1, x0, x3, x6, x58, x403000, x403001, x403002, x403003, x403004, x403005, x403006, x403007 => if x58 = true then (some false) else (thrumlaw11_SignLoosens.l0 k x0 x3 x6 x0 (x0.length : Int) 0 x403000 x403001 x403002 x403003 x403004 x403005 x403006 x403007)
def thrumlaw11_SignLoosens.l0 : Nat → List Int → Bool → List Int → List Int → Int → Int → Int → Int → List Int → List Int → Int → Int → List Int → List Bool → Option (Bool)
 | 0, _, _, _, _, _, _, _, _, _, _, _, _, _, _ => none
 | k + 1, x0, x3, x6, x59, x60, x61, x403000, x403001, x403002, x403003, x403004, x403005, x403006, x403007 => if x61 < x60 then (if 0 ≤ x61 then (if x61 < (x59.length : Int) then (if (rd x59 x61) < 0 then (if x61 < (x6.length : Int) then (if (rd x6 x61) > 0 then (some false) else (if (rd x59 x61) > 0 then (if (rd x6 x61) < 0 then (some false) else (if (rd x6 x61) = x403004 then (thrumlaw11_SignLoosens.l0 k x0 x3 x6 x59 x60 (wrap64 (x61 + 1)) x403000 x403001 x403002 x403003 x403004 x403005 x403006 x403007) else (if (rd x6 x61) = (wrap64 (-x403004)) then (thrumlaw11_SignLoosens.l0 k x0 x3 x6 x59 x60 (wrap64 (x61 + 1)) x403000 x403001 x403002 x403003 x403004 x403005 x403006 x403007) else (some false)))) else (if (rd x6 x61) = x403004 then (thrumlaw11_SignLoosens.l0 k x0 x3 x6 x59 x60 (wrap64 (x61 + 1)) x403000 x403001 x403002 x403003 x403004 x403005 x403006 x403007) else (if (rd x6 x61) = (wrap64 (-x403004)) then (thrumlaw11_SignLoosens.l0 k x0 x3 x6 x59 x60 (wrap64 (x61 + 1)) x403000 x403001 x403002 x403003 x403004 x403005 x403006 x403007) else (some false))))) else (none)) else (if (rd x59 x61) > 0 then (if x61 < (x6.length : Int) then (if (rd x6 x61) < 0 then (some false) else (if (rd x6 x61) = x403004 then (thrumlaw11_SignLoosens.l0 k x0 x3 x6 x59 x60 (wrap64 (x61 + 1)) x403000 x403001 x403002 x403003 x403004 x403005 x403006 x403007) else (if (rd x6 x61) = (wrap64 (-x403004)) then (thrumlaw11_SignLoosens.l0 k x0 x3 x6 x59 x60 (wrap64 (x61 + 1)) x403000 x403001 x403002 x403003 x403004 x403005 x403006 x403007) else (some false)))) else (none)) else (if x61 < (x6.length : Int) then (if (rd x6 x61) = x403004 then (thrumlaw11_SignLoosens.l0 k x0 x3 x6 x59 x60 (wrap64 (x61 + 1)) x403000 x403001 x403002 x403003 x403004 x403005 x403006 x403007) else (if (rd x6 x61) = (wrap64 (-x403004)) then (thrumlaw11_SignLoosens.l0 k x0 x3 x6 x59 x60 (wrap64 (x61 + 1)) x403000 x403001 x403002 x403003 x403004 x403005 x403006 x403007) else (some false))) else (none)))) else (none)) else (none)) else ((vec_Size.f x0).bind fun bt421 => ((vec_Size.f x6).bind fun bt423 => (if x3 = true then (if bt421.2 = 0 then (if bt423.2 = 0 then (if bt423.1 ≤ bt421.1 then (some (decide ((wrap64 (bt421.1 - bt423.1)) < (x0.length : Int)))) else (some false)) else (some false)) else (some false)) else (some false))))
end
def thrumlaw11_SignLoosens.f (k : Nat) (l0 : List Int) : Option (Bool) := (thrumlaw11_live.f).bind fun t383 => (if t383 = true then ((thrumlaw11_few.f k l0 ([] : List (List Bool))).bind fun t384 => (if t384 = true then ((sign_Press.f l0).bind fun bt385 => (if bt385.2.2.2.2.2.2.2.2 = 0 then ((sign_Loosen.f bt385.1 bt385.2.1 bt385.2.2.1 bt385.2.2.2.1 bt385.2.2.2.2.1 bt385.2.2.2.2.2.1 bt385.2.2.2.2.2.2.1 bt385.2.2.2.2.2.2.2.1).bind fun bt403 => (if bt403.2 = 0 then ((frame_May.f bt385.1 bt385.2.1 bt385.2.2.1 bt385.2.2.2.1 bt385.2.2.2.2.1 bt385.2.2.2.2.2.1 bt385.2.2.2.2.2.2.1 bt385.2.2.2.2.2.2.2.1).bind fun t407 => (if t407 = true then (if (bt403.1.length : Int) = (l0.length : Int) then ((sign_Is.f l0 bt385.1 bt385.2.1 bt385.2.2.1 bt385.2.2.2.1 bt385.2.2.2.2.1 bt385.2.2.2.2.2.1 bt385.2.2.2.2.2.2.1 bt385.2.2.2.2.2.2.2.1).bind fun t408 => (thrumlaw11_SignLoosens.j0 k l0 t383 bt403.1 (!t408) bt385.1 bt385.2.1 bt385.2.2.1 bt385.2.2.2.1 bt385.2.2.2.2.1 bt385.2.2.2.2.2.1 bt385.2.2.2.2.2.2.1 bt385.2.2.2.2.2.2.2.1)) else (thrumlaw11_SignLoosens.j0 k l0 t383 bt403.1 true bt385.1 bt385.2.1 bt385.2.2.1 bt385.2.2.2.1 bt385.2.2.2.2.1 bt385.2.2.2.2.2.1 bt385.2.2.2.2.2.2.1 bt385.2.2.2.2.2.2.2.1)) else (thrumlaw11_SignLoosens.j0 k l0 t383 bt403.1 true bt385.1 bt385.2.1 bt385.2.2.1 bt385.2.2.2.1 bt385.2.2.2.2.1 bt385.2.2.2.2.2.1 bt385.2.2.2.2.2.2.1 bt385.2.2.2.2.2.2.2.1))) else (thrumlaw11_SignLoosens.j0 k l0 t383 bt403.1 true bt385.1 bt385.2.1 bt385.2.2.1 bt385.2.2.2.1 bt385.2.2.2.2.1 bt385.2.2.2.2.2.1 bt385.2.2.2.2.2.2.1 bt385.2.2.2.2.2.2.2.1))) else (some (bt385.2.1 == 0)))) else (some t383))) else (some false))
theorem thrumlaw11_SignLoosens.mono_l : ∀ k, (∀ y0 y1 y2 y3 y4 y5 y6 y7 y8 y9 y10 y11, LeO (thrumlaw11_SignLoosens.j0 k y0 y1 y2 y3 y4 y5 y6 y7 y8 y9 y10 y11) (thrumlaw11_SignLoosens.j0 (k + 1) y0 y1 y2 y3 y4 y5 y6 y7 y8 y9 y10 y11)) ∧ (∀ y0 y1 y2 y3 y4 y5 y6 y7 y8 y9 y10 y11 y12 y13, LeO (thrumlaw11_SignLoosens.l0 k y0 y1 y2 y3 y4 y5 y6 y7 y8 y9 y10 y11 y12 y13) (thrumlaw11_SignLoosens.l0 (k + 1) y0 y1 y2 y3 y4 y5 y6 y7 y8 y9 y10 y11 y12 y13))
 | 0 => ⟨fun _ _ _ _ _ _ _ _ _ _ _ _ r h => by simp [thrumlaw11_SignLoosens.j0] at h, fun _ _ _ _ _ _ _ _ _ _ _ _ _ _ r h => by simp [thrumlaw11_SignLoosens.l0] at h⟩
 | k + 1 => by
  obtain ⟨ih0, ih1⟩ := thrumlaw11_SignLoosens.mono_l k
  refine ⟨?_, ?_⟩
  ·
   intro y0 y1 y2 y3 y4 y5 y6 y7 y8 y9 y10 y11
   unfold thrumlaw11_SignLoosens.j0
   repeat' first
   | (with_reducible exact ih0 _ _ _ _ _ _ _ _ _ _ _ _)
   | (with_reducible exact ih1 _ _ _ _ _ _ _ _ _ _ _ _ _ _)
   | (with_reducible exact thrumlaw11_few.mono _ _ _)
   | (with_reducible exact LeO.refl _)
   | (with_reducible exact LeO.none _)
   | (with_reducible refine LeO.ite ?_ ?_)
   | (with_reducible refine LeO.bind ?_ (fun _ => ?_))
   | exact ih0 _ _ _ _ _ _ _ _ _ _ _ _
   | exact ih1 _ _ _ _ _ _ _ _ _ _ _ _ _ _
   | exact thrumlaw11_few.mono _ _ _
   | exact LeO.none _
   | refine LeO.ite ?_ ?_
   | refine LeO.bind ?_ (fun _ => ?_)
  ·
   intro y0 y1 y2 y3 y4 y5 y6 y7 y8 y9 y10 y11 y12 y13
   unfold thrumlaw11_SignLoosens.l0
   repeat' first
   | (with_reducible exact ih0 _ _ _ _ _ _ _ _ _ _ _ _)
   | (with_reducible exact ih1 _ _ _ _ _ _ _ _ _ _ _ _ _ _)
   | (with_reducible exact thrumlaw11_few.mono _ _ _)
   | (with_reducible exact LeO.refl _)
   | (with_reducible exact LeO.none _)
   | (with_reducible refine LeO.ite ?_ ?_)
   | (with_reducible refine LeO.bind ?_ (fun _ => ?_))
   | exact ih0 _ _ _ _ _ _ _ _ _ _ _ _
   | exact ih1 _ _ _ _ _ _ _ _ _ _ _ _ _ _
   | exact thrumlaw11_few.mono _ _ _
   | exact LeO.none _
   | refine LeO.ite ?_ ?_
   | refine LeO.bind ?_ (fun _ => ?_)
theorem thrumlaw11_SignLoosens.mono : ∀ a0 k, LeO (thrumlaw11_SignLoosens.f k a0) (thrumlaw11_SignLoosens.f (k + 1) a0) := by
 intro a0 k
 obtain ⟨ih0, ih1⟩ := thrumlaw11_SignLoosens.mono_l k
 unfold thrumlaw11_SignLoosens.f
 repeat' first
   | (with_reducible exact ih0 _ _ _ _ _ _ _ _ _ _ _ _)
   | (with_reducible exact ih1 _ _ _ _ _ _ _ _ _ _ _ _ _ _)
   | (with_reducible exact thrumlaw11_few.mono _ _ _)
   | (with_reducible exact LeO.refl _)
   | (with_reducible exact LeO.none _)
   | (with_reducible refine LeO.ite ?_ ?_)
   | (with_reducible refine LeO.bind ?_ (fun _ => ?_))
   | exact ih0 _ _ _ _ _ _ _ _ _ _ _ _
   | exact ih1 _ _ _ _ _ _ _ _ _ _ _ _ _ _
   | exact thrumlaw11_few.mono _ _ _
   | exact LeO.none _
   | refine LeO.ite ?_ ?_
   | refine LeO.bind ?_ (fun _ => ?_)
theorem thrumlaw11_SignLoosens.j0_not {k : Nat} {y0} {y1} {y2} {y4} {y5} {y6} {y7} {y8} {y9} {y10} {y11} (h : thrumlaw11_SignLoosens.j0 k y0 y1 y2 true y4 y5 y6 y7 y8 y9 y10 y11 = some true) : False := by cases k <;> simp [thrumlaw11_SignLoosens.j0] at h
theorem thrumlaw11_SignLoosens.F8 {α : Type} {d : Kd α} {e : Nat} {W : World} {base : Nat} {ok : Nat → Prop} {v : Value} {xs : List α} {g : Nat} (h : d.R e W base (fun k => ok k ∧ k ≠ g) v xs) (x0 x1 x2 x3 x4 x5 x6 x7 : Value) : d.R e ((((((((W.setCell ⟨g, 0, none⟩ x0).setCell ⟨g, 1, none⟩ x1).setCell ⟨g, 2, none⟩ x2).setCell ⟨g, 3, none⟩ x3).setCell ⟨g, 4, none⟩ x4).setCell ⟨g, 5, none⟩ x5).setCell ⟨g, 6, none⟩ x6).setCell ⟨g, 7, none⟩ x7) base (fun k => ok k ∧ k ≠ g) v xs :=
  Kd.R_far (p := ⟨g, 7, none⟩) (Kd.R_far (p := ⟨g, 6, none⟩) (Kd.R_far (p := ⟨g, 5, none⟩) (Kd.R_far (p := ⟨g, 4, none⟩) (Kd.R_far (p := ⟨g, 3, none⟩) (Kd.R_far (p := ⟨g, 2, none⟩) (Kd.R_far (p := ⟨g, 1, none⟩) (Kd.R_far (p := ⟨g, 0, none⟩) h (fun _ hk => hk.2) x0) (fun _ hk => hk.2) x1) (fun _ hk => hk.2) x2) (fun _ hk => hk.2) x3) (fun _ hk => hk.2) x4) (fun _ hk => hk.2) x5) (fun _ hk => hk.2) x6) (fun _ hk => hk.2) x7
set_option maxHeartbeats 80000000 in
set_option maxRecDepth 100000 in
theorem thrumlaw11_SignLoosens.calls (k : Nat) (A0 : Option Addr) (c0 : Nat) (l0 : List Int) (r : Bool) (w : World) (hr0 : Kd.C (Kd.int .i64) w A0 l0.length l0) (hc0 : l0.length ≤ c0) (h : thrumlaw11_SignLoosens.f k l0 = some r) (hr_ : r = true) :
  Calls Try.prog 5 #[.slice A0 l0.length c0] w fun e w' => e = .returned (.bool r) ∧ Below w.heap.size w w' := by
 have HR_ := Aside0.mk hr_
 clear hr_
 have hu29 := Try.underlying29
 have HR0 := Aside0.mk hr0
 have HC0 := Aside0.mk hc0
 clear hr0 hc0
 have HB := Aside0.mk (Below.refl w.heap.size w)
 have H : ((thrumlaw11_live.f).bind fun t383 => (if t383 = true then ((thrumlaw11_few.f k l0 ([] : List (List Bool))).bind fun t384 => (if t384 = true then ((sign_Press.f l0).bind fun bt385 => (if bt385.2.2.2.2.2.2.2.2 = 0 then ((sign_Loosen.f bt385.1 bt385.2.1 bt385.2.2.1 bt385.2.2.2.1 bt385.2.2.2.2.1 bt385.2.2.2.2.2.1 bt385.2.2.2.2.2.2.1 bt385.2.2.2.2.2.2.2.1).bind fun bt403 => (if bt403.2 = 0 then ((frame_May.f bt385.1 bt385.2.1 bt385.2.2.1 bt385.2.2.2.1 bt385.2.2.2.2.1 bt385.2.2.2.2.2.1 bt385.2.2.2.2.2.2.1 bt385.2.2.2.2.2.2.2.1).bind fun t407 => (if t407 = true then (if (bt403.1.length : Int) = (l0.length : Int) then ((sign_Is.f l0 bt385.1 bt385.2.1 bt385.2.2.1 bt385.2.2.2.1 bt385.2.2.2.2.1 bt385.2.2.2.2.2.1 bt385.2.2.2.2.2.2.1 bt385.2.2.2.2.2.2.2.1).bind fun t408 => (thrumlaw11_SignLoosens.j0 k l0 t383 bt403.1 (!t408) bt385.1 bt385.2.1 bt385.2.2.1 bt385.2.2.2.1 bt385.2.2.2.2.1 bt385.2.2.2.2.2.1 bt385.2.2.2.2.2.2.1 bt385.2.2.2.2.2.2.2.1)) else (thrumlaw11_SignLoosens.j0 k l0 t383 bt403.1 true bt385.1 bt385.2.1 bt385.2.2.1 bt385.2.2.2.1 bt385.2.2.2.2.1 bt385.2.2.2.2.2.1 bt385.2.2.2.2.2.2.1 bt385.2.2.2.2.2.2.2.1)) else (thrumlaw11_SignLoosens.j0 k l0 t383 bt403.1 true bt385.1 bt385.2.1 bt385.2.2.1 bt385.2.2.2.1 bt385.2.2.2.2.1 bt385.2.2.2.2.2.1 bt385.2.2.2.2.2.2.1 bt385.2.2.2.2.2.2.2.1))) else (thrumlaw11_SignLoosens.j0 k l0 t383 bt403.1 true bt385.1 bt385.2.1 bt385.2.2.1 bt385.2.2.2.1 bt385.2.2.2.2.1 bt385.2.2.2.2.2.1 bt385.2.2.2.2.2.2.1 bt385.2.2.2.2.2.2.2.1))) else (some (bt385.2.1 == 0)))) else (some t383))) else (some false))) = some r := h
 clear h
 replace H := Option.bind_eq_some_iff.mp H
 obtain ⟨t383, A20, H⟩ := H
 replace H : (if t383 = true then ((thrumlaw11_few.f k l0 ([] : List (List Bool))).bind fun t384 => (if t384 = true then ((sign_Press.f l0).bind fun bt385 => (if bt385.2.2.2.2.2.2.2.2 = 0 then ((sign_Loosen.f bt385.1 bt385.2.1 bt385.2.2.1 bt385.2.2.2.1 bt385.2.2.2.2.1 bt385.2.2.2.2.2.1 bt385.2.2.2.2.2.2.1 bt385.2.2.2.2.2.2.2.1).bind fun bt403 => (if bt403.2 = 0 then ((frame_May.f bt385.1 bt385.2.1 bt385.2.2.1 bt385.2.2.2.1 bt385.2.2.2.2.1 bt385.2.2.2.2.2.1 bt385.2.2.2.2.2.2.1 bt385.2.2.2.2.2.2.2.1).bind fun t407 => (if t407 = true then (if (bt403.1.length : Int) = (l0.length : Int) then ((sign_Is.f l0 bt385.1 bt385.2.1 bt385.2.2.1 bt385.2.2.2.1 bt385.2.2.2.2.1 bt385.2.2.2.2.2.1 bt385.2.2.2.2.2.2.1 bt385.2.2.2.2.2.2.2.1).bind fun t408 => (thrumlaw11_SignLoosens.j0 k l0 t383 bt403.1 (!t408) bt385.1 bt385.2.1 bt385.2.2.1 bt385.2.2.2.1 bt385.2.2.2.2.1 bt385.2.2.2.2.2.1 bt385.2.2.2.2.2.2.1 bt385.2.2.2.2.2.2.2.1)) else (thrumlaw11_SignLoosens.j0 k l0 t383 bt403.1 true bt385.1 bt385.2.1 bt385.2.2.1 bt385.2.2.2.1 bt385.2.2.2.2.1 bt385.2.2.2.2.2.1 bt385.2.2.2.2.2.2.1 bt385.2.2.2.2.2.2.2.1)) else (thrumlaw11_SignLoosens.j0 k l0 t383 bt403.1 true bt385.1 bt385.2.1 bt385.2.2.1 bt385.2.2.2.1 bt385.2.2.2.2.1 bt385.2.2.2.2.2.1 bt385.2.2.2.2.2.2.1 bt385.2.2.2.2.2.2.2.1))) else (thrumlaw11_SignLoosens.j0 k l0 t383 bt403.1 true bt385.1 bt385.2.1 bt385.2.2.1 bt385.2.2.2.1 bt385.2.2.2.2.1 bt385.2.2.2.2.2.1 bt385.2.2.2.2.2.2.1 bt385.2.2.2.2.2.2.2.1))) else (some (bt385.2.1 == 0)))) else (some t383))) else (some false)) = some r := H
 have A2 := Aside0.mk A20
 clear A20
 by_cases c3 : t383 = true
 ·
  subst c3
  have H1 : ((thrumlaw11_few.f k l0 ([] : List (List Bool))).bind fun t384 => (if t384 = true then ((sign_Press.f l0).bind fun bt385 => (if bt385.2.2.2.2.2.2.2.2 = 0 then ((sign_Loosen.f bt385.1 bt385.2.1 bt385.2.2.1 bt385.2.2.2.1 bt385.2.2.2.2.1 bt385.2.2.2.2.2.1 bt385.2.2.2.2.2.2.1 bt385.2.2.2.2.2.2.2.1).bind fun bt403 => (if bt403.2 = 0 then ((frame_May.f bt385.1 bt385.2.1 bt385.2.2.1 bt385.2.2.2.1 bt385.2.2.2.2.1 bt385.2.2.2.2.2.1 bt385.2.2.2.2.2.2.1 bt385.2.2.2.2.2.2.2.1).bind fun t407 => (if t407 = true then (if (bt403.1.length : Int) = (l0.length : Int) then ((sign_Is.f l0 bt385.1 bt385.2.1 bt385.2.2.1 bt385.2.2.2.1 bt385.2.2.2.2.1 bt385.2.2.2.2.2.1 bt385.2.2.2.2.2.2.1 bt385.2.2.2.2.2.2.2.1).bind fun t408 => (thrumlaw11_SignLoosens.j0 k l0 true bt403.1 (!t408) bt385.1 bt385.2.1 bt385.2.2.1 bt385.2.2.2.1 bt385.2.2.2.2.1 bt385.2.2.2.2.2.1 bt385.2.2.2.2.2.2.1 bt385.2.2.2.2.2.2.2.1)) else (thrumlaw11_SignLoosens.j0 k l0 true bt403.1 true bt385.1 bt385.2.1 bt385.2.2.1 bt385.2.2.2.1 bt385.2.2.2.2.1 bt385.2.2.2.2.2.1 bt385.2.2.2.2.2.2.1 bt385.2.2.2.2.2.2.2.1)) else (thrumlaw11_SignLoosens.j0 k l0 true bt403.1 true bt385.1 bt385.2.1 bt385.2.2.1 bt385.2.2.2.1 bt385.2.2.2.2.1 bt385.2.2.2.2.2.1 bt385.2.2.2.2.2.2.1 bt385.2.2.2.2.2.2.2.1))) else (thrumlaw11_SignLoosens.j0 k l0 true bt403.1 true bt385.1 bt385.2.1 bt385.2.2.1 bt385.2.2.2.1 bt385.2.2.2.2.1 bt385.2.2.2.2.2.1 bt385.2.2.2.2.2.2.1 bt385.2.2.2.2.2.2.2.1))) else (some (bt385.2.1 == 0)))) else (some true))) = some r := by rw [if_pos rfl] at H; exact H
  clear H
  have H := H1
  clear H1
  replace H := Option.bind_eq_some_iff.mp H
  obtain ⟨t384, A40, H⟩ := H
  replace H : (if t384 = true then ((sign_Press.f l0).bind fun bt385 => (if bt385.2.2.2.2.2.2.2.2 = 0 then ((sign_Loosen.f bt385.1 bt385.2.1 bt385.2.2.1 bt385.2.2.2.1 bt385.2.2.2.2.1 bt385.2.2.2.2.2.1 bt385.2.2.2.2.2.2.1 bt385.2.2.2.2.2.2.2.1).bind fun bt403 => (if bt403.2 = 0 then ((frame_May.f bt385.1 bt385.2.1 bt385.2.2.1 bt385.2.2.2.1 bt385.2.2.2.2.1 bt385.2.2.2.2.2.1 bt385.2.2.2.2.2.2.1 bt385.2.2.2.2.2.2.2.1).bind fun t407 => (if t407 = true then (if (bt403.1.length : Int) = (l0.length : Int) then ((sign_Is.f l0 bt385.1 bt385.2.1 bt385.2.2.1 bt385.2.2.2.1 bt385.2.2.2.2.1 bt385.2.2.2.2.2.1 bt385.2.2.2.2.2.2.1 bt385.2.2.2.2.2.2.2.1).bind fun t408 => (thrumlaw11_SignLoosens.j0 k l0 true bt403.1 (!t408) bt385.1 bt385.2.1 bt385.2.2.1 bt385.2.2.2.1 bt385.2.2.2.2.1 bt385.2.2.2.2.2.1 bt385.2.2.2.2.2.2.1 bt385.2.2.2.2.2.2.2.1)) else (thrumlaw11_SignLoosens.j0 k l0 true bt403.1 true bt385.1 bt385.2.1 bt385.2.2.1 bt385.2.2.2.1 bt385.2.2.2.2.1 bt385.2.2.2.2.2.1 bt385.2.2.2.2.2.2.1 bt385.2.2.2.2.2.2.2.1)) else (thrumlaw11_SignLoosens.j0 k l0 true bt403.1 true bt385.1 bt385.2.1 bt385.2.2.1 bt385.2.2.2.1 bt385.2.2.2.2.1 bt385.2.2.2.2.2.1 bt385.2.2.2.2.2.2.1 bt385.2.2.2.2.2.2.2.1))) else (thrumlaw11_SignLoosens.j0 k l0 true bt403.1 true bt385.1 bt385.2.1 bt385.2.2.1 bt385.2.2.2.1 bt385.2.2.2.2.1 bt385.2.2.2.2.2.1 bt385.2.2.2.2.2.2.1 bt385.2.2.2.2.2.2.2.1))) else (some (bt385.2.1 == 0)))) else (some true)) = some r := H
  have A4 := Aside0.mk A40
  clear A40
  by_cases c5 : t384 = true
  ·
   subst c5
   have H1 : ((sign_Press.f l0).bind fun bt385 => (if bt385.2.2.2.2.2.2.2.2 = 0 then ((sign_Loosen.f bt385.1 bt385.2.1 bt385.2.2.1 bt385.2.2.2.1 bt385.2.2.2.2.1 bt385.2.2.2.2.2.1 bt385.2.2.2.2.2.2.1 bt385.2.2.2.2.2.2.2.1).bind fun bt403 => (if bt403.2 = 0 then ((frame_May.f bt385.1 bt385.2.1 bt385.2.2.1 bt385.2.2.2.1 bt385.2.2.2.2.1 bt385.2.2.2.2.2.1 bt385.2.2.2.2.2.2.1 bt385.2.2.2.2.2.2.2.1).bind fun t407 => (if t407 = true then (if (bt403.1.length : Int) = (l0.length : Int) then ((sign_Is.f l0 bt385.1 bt385.2.1 bt385.2.2.1 bt385.2.2.2.1 bt385.2.2.2.2.1 bt385.2.2.2.2.2.1 bt385.2.2.2.2.2.2.1 bt385.2.2.2.2.2.2.2.1).bind fun t408 => (thrumlaw11_SignLoosens.j0 k l0 true bt403.1 (!t408) bt385.1 bt385.2.1 bt385.2.2.1 bt385.2.2.2.1 bt385.2.2.2.2.1 bt385.2.2.2.2.2.1 bt385.2.2.2.2.2.2.1 bt385.2.2.2.2.2.2.2.1)) else (thrumlaw11_SignLoosens.j0 k l0 true bt403.1 true bt385.1 bt385.2.1 bt385.2.2.1 bt385.2.2.2.1 bt385.2.2.2.2.1 bt385.2.2.2.2.2.1 bt385.2.2.2.2.2.2.1 bt385.2.2.2.2.2.2.2.1)) else (thrumlaw11_SignLoosens.j0 k l0 true bt403.1 true bt385.1 bt385.2.1 bt385.2.2.1 bt385.2.2.2.1 bt385.2.2.2.2.1 bt385.2.2.2.2.2.1 bt385.2.2.2.2.2.2.1 bt385.2.2.2.2.2.2.2.1))) else (thrumlaw11_SignLoosens.j0 k l0 true bt403.1 true bt385.1 bt385.2.1 bt385.2.2.1 bt385.2.2.2.1 bt385.2.2.2.2.1 bt385.2.2.2.2.2.1 bt385.2.2.2.2.2.2.1 bt385.2.2.2.2.2.2.2.1))) else (some (bt385.2.1 == 0)))) = some r := by rw [if_pos rfl] at H; exact H
   clear H
   have H := H1
   clear H1
   replace H := Option.bind_eq_some_iff.mp H
   obtain ⟨⟨t385, t386, t387, t390, t393, t394, t395, t398, t401⟩, A60, H⟩ := H
   replace H : (if t401 = 0 then ((sign_Loosen.f t385 t386 t387 t390 t393 t394 t395 t398).bind fun bt403 => (if bt403.2 = 0 then ((frame_May.f t385 t386 t387 t390 t393 t394 t395 t398).bind fun t407 => (if t407 = true then (if (bt403.1.length : Int) = (l0.length : Int) then ((sign_Is.f l0 t385 t386 t387 t390 t393 t394 t395 t398).bind fun t408 => (thrumlaw11_SignLoosens.j0 k l0 true bt403.1 (!t408) t385 t386 t387 t390 t393 t394 t395 t398)) else (thrumlaw11_SignLoosens.j0 k l0 true bt403.1 true t385 t386 t387 t390 t393 t394 t395 t398)) else (thrumlaw11_SignLoosens.j0 k l0 true bt403.1 true t385 t386 t387 t390 t393 t394 t395 t398))) else (thrumlaw11_SignLoosens.j0 k l0 true bt403.1 true t385 t386 t387 t390 t393 t394 t395 t398))) else (some (t386 == 0))) = some r := H
   have A6 := Aside0.mk A60
   clear A60
   by_cases c7 : t401 = 0
   ·
    rw [if_pos c7] at H
    have c7b0 : (t401 == 0) = true := beq_iff_eq.mpr c7
    have c7b1 : (t401 != 0) = false := bne_eq_false_iff_eq.mpr c7
    clear c7
    replace H := Option.bind_eq_some_iff.mp H
    obtain ⟨⟨t403, t406⟩, A80, H⟩ := H
    replace H : (if t406 = 0 then ((frame_May.f t385 t386 t387 t390 t393 t394 t395 t398).bind fun t407 => (if t407 = true then (if (t403.length : Int) = (l0.length : Int) then ((sign_Is.f l0 t385 t386 t387 t390 t393 t394 t395 t398).bind fun t408 => (thrumlaw11_SignLoosens.j0 k l0 true t403 (!t408) t385 t386 t387 t390 t393 t394 t395 t398)) else (thrumlaw11_SignLoosens.j0 k l0 true t403 true t385 t386 t387 t390 t393 t394 t395 t398)) else (thrumlaw11_SignLoosens.j0 k l0 true t403 true t385 t386 t387 t390 t393 t394 t395 t398))) else (thrumlaw11_SignLoosens.j0 k l0 true t403 true t385 t386 t387 t390 t393 t394 t395 t398)) = some r := H
    have A8 := Aside0.mk A80
    clear A80
    have HC9 := Aside0.mk H
    clear H
    go_enter Try.func5, Try.ntmps5
    go_upto_region 10 with (first | (go_at_call 6; (with_reducible refine (thrumlaw11_live.calls  true _ A2.out).mono ?_); rintro e w10 ⟨rfl, hb⟩; have n0_ := Aside0.mk (below_step (by repeat (first | (with_reducible first | exact HB.out | apply below_alloc | apply pw_below_drewN | apply below_drew1) | exact HB.out)) hb); clear HB; have HB := n0_; clear n0_; (try clear hb); (try clear hb2); (try clear hk); (try clear hi)) | (go_at_call 7; (refine (thrumlaw11_few.calls k _ _ l0 _ _ ([] : List (List Bool)) true _ ?side1 ?side2 ?side3 ?side4 A4.out).mono ?_); (case side1 => repeat (first | exact (Kd.C_below HR0.out HB.out) | (with_reducible refine Kd.C_alloc ?_ _) | (with_reducible refine Kd.C_drewN ?_ _) | (with_reducible refine Kd.C_drew ?_))); (case side2 => exact HC0.out); (case side3 => exact Kd.C_nil _ _); (case side4 => exact Nat.le_refl _); rintro e w11 ⟨rfl, hb⟩; have n0_ := Aside0.mk (below_step (by repeat (first | (with_reducible first | exact HB.out | apply below_alloc | apply pw_below_drewN | apply below_drew1) | exact HB.out)) hb); clear HB; have HB := n0_; clear n0_; (try clear hb); (try clear hb2); (try clear hk); (try clear hi)) | (go_at_call 8; (with_reducible refine (sign_Press.calls _ _ l0 t385 t386 t387 t390 t393 t394 t395 t398 t401 _ ?side1 ?side2 A6.out).mono ?_); (case side1 => repeat (first | exact (Kd.C_below HR0.out HB.out) | (with_reducible refine Kd.C_alloc ?_ _) | (with_reducible refine Kd.C_drewN ?_ _) | (with_reducible refine Kd.C_drew ?_))); (case side2 => exact HC0.out); rintro e w12 ⟨v388, v391, v396, v399, rfl, ho0, ho1, ho2, ho3, hb⟩; have n0_ := Aside0.mk (Kd.R_lower ho0 (below_size (by repeat (first | (with_reducible first | exact HB.out | apply below_alloc | apply pw_below_drewN | apply below_drew1) | exact HB.out)))); have n1_ := Aside0.mk (Kd.R_lower ho1 (below_size (by repeat (first | (with_reducible first | exact HB.out | apply below_alloc | apply pw_below_drewN | apply below_drew1) | exact HB.out)))); have n2_ := Aside0.mk (Kd.R_lower ho2 (below_size (by repeat (first | (with_reducible first | exact HB.out | apply below_alloc | apply pw_below_drewN | apply below_drew1) | exact HB.out)))); have n3_ := Aside0.mk (Kd.R_lower ho3 (below_size (by repeat (first | (with_reducible first | exact HB.out | apply below_alloc | apply pw_below_drewN | apply below_drew1) | exact HB.out)))); have n4_ := Aside0.mk (below_step (by repeat (first | (with_reducible first | exact HB.out | apply below_alloc | apply pw_below_drewN | apply below_drew1) | exact HB.out)) hb); clear HB; have HO389 := n0_; have HO392 := n1_; have HO397 := n2_; have HO400 := n3_; have HB := n4_; clear n0_ n1_ n2_ n3_ n4_; (try clear hb); (try clear hb2); (try clear hk); (try clear hi); (try clear ho0); (try clear ho1); (try clear ho2); (try clear ho3)) | ((with_reducible refine gate_dst (N := 4) rfl ?_); (try (refine gate_guard (by rfl) ?_; dsimp only)); refine box_event ?hg (N := 4) ?hd (cs := #[.int .i64 0, .int .i64 0, .slice none 0 0, .slice none 0 0, .int .i64 0, .int .i64 0, .slice none 0 0, .slice none 0 0]) (t := 29) ?hr ?_; (case hd => rfl); (case hg => rfl); (case hr => first | (go_simp; done) | (go_simp; rfl)); intro gb402 hg w13 hbox hb; have n0_ := Aside0.mk (Kd.R_below (by (with_reducible repeat (first | apply Kd.R_alloc | apply Kd.R_drewN | apply Kd.R_drew)); exact HO389.out) hb); have n1_ := Aside0.mk (Kd.R_below (by (with_reducible repeat (first | apply Kd.R_alloc | apply Kd.R_drewN | apply Kd.R_drew)); exact HO392.out) hb); have n2_ := Aside0.mk (Kd.R_below (by (with_reducible repeat (first | apply Kd.R_alloc | apply Kd.R_drewN | apply Kd.R_drew)); exact HO397.out) hb); have n3_ := Aside0.mk (Kd.R_below (by (with_reducible repeat (first | apply Kd.R_alloc | apply Kd.R_drewN | apply Kd.R_drew)); exact HO400.out) hb); have n4_ := Aside0.mk (below_step (by repeat (first | (with_reducible first | exact HB.out | apply below_alloc | apply pw_below_drewN | apply below_drew1) | exact HB.out)) hb); have n5_ := Aside0.mk (hbox); have n6_ := Aside0.mk ((by rw [hg]; exact (below_size (by repeat (first | (with_reducible first | exact HB.out | apply below_alloc | apply pw_below_drewN | apply below_drew1) | exact HB.out))) : w.heap.size ≤ gb402)); have n7_ := Aside0.mk ((by rw [hg]; exact (below_size (by repeat (first | (with_reducible first | exact HB.out | apply below_alloc | apply pw_below_drewN | apply below_drew1) | exact HB.out))) : w.heap.size ≤ gb402)); clear HO389; clear HO392; clear HO397; clear HO400; clear HB; have HO389 := n0_; have HO392 := n1_; have HO397 := n2_; have HO400 := n3_; have HB := n4_; have BK402 := n5_; have GW402 := n6_; have GE402 := n7_; clear n0_ n1_ n2_ n3_ n4_ n5_ n6_ n7_; clear hb hbox hg; have hcz14_0 : w13.cell? ⟨gb402, 0, none⟩ = some (.int .i64 0) := (blk_cell BK402.out 0).trans rfl; have hcz14_1 : w13.cell? ⟨gb402, 1, none⟩ = some (.int .i64 0) := (blk_cell BK402.out 1).trans rfl; have hcz14_2 : w13.cell? ⟨gb402, 2, none⟩ = some (.slice none 0 0) := (blk_cell BK402.out 2).trans rfl; have hcz14_3 : w13.cell? ⟨gb402, 3, none⟩ = some (.slice none 0 0) := (blk_cell BK402.out 3).trans rfl; have hcz14_4 : w13.cell? ⟨gb402, 4, none⟩ = some (.int .i64 0) := (blk_cell BK402.out 4).trans rfl; have hcz14_5 : w13.cell? ⟨gb402, 5, none⟩ = some (.int .i64 0) := (blk_cell BK402.out 5).trans rfl; have hcz14_6 : w13.cell? ⟨gb402, 6, none⟩ = some (.slice none 0 0) := (blk_cell BK402.out 6).trans rfl; have hcz14_7 : w13.cell? ⟨gb402, 7, none⟩ = some (.slice none 0 0) := (blk_cell BK402.out 7).trans rfl; have hfz14_0 := blk_frozen BK402.out 0; have hfz14_1 := blk_frozen BK402.out 1; have hfz14_2 := blk_frozen BK402.out 2; have hfz14_3 := blk_frozen BK402.out 3; have hfz14_4 := blk_frozen BK402.out 4; have hfz14_5 := blk_frozen BK402.out 5; have hfz14_6 := blk_frozen BK402.out 6; have hfz14_7 := blk_frozen BK402.out 7; obtain ⟨Ao15, co15, eo15⟩ := Kd.R_slice HO389.out; subst eo15; obtain ⟨Ao16, co16, eo16⟩ := Kd.R_slice HO392.out; subst eo16; obtain ⟨Ao17, co17, eo17⟩ := Kd.R_slice HO397.out; subst eo17; obtain ⟨Ao18, co18, eo18⟩ := Kd.R_slice HO400.out; subst eo18) | (go_at_call 9; (with_reducible refine (sign_Loosen.calls t385 t386 _ _ t387 _ _ t390 t393 t394 _ _ t395 _ _ t398 t403 t406 _ ?side1 ?side2 ?side3 ?side4 ?side5 ?side6 ?side7 ?side8 A8.out).mono ?_); (case side1 => refine (Kd.R_reads' (e := 3) (base := w.heap.size) (ok := fun k_ => True) (n := t387.length) (c := co15) ?_).2.2; exact (by (with_reducible repeat (first | apply Kd.R_alloc | apply Kd.R_drewN | apply Kd.R_drew)); exact (Kd.R_mono (thrumlaw11_SignLoosens.F8 (Kd.R_types HO389.out BK402.out (by decide)) _ _ _ _ _ _ _ _) (fun _ h_ => h_.1)))); (case side2 => exact (Kd.R_reads' HO389.out).2.1); (case side3 => refine (Kd.R_reads' (e := 2) (base := w.heap.size) (ok := fun k_ => True) (n := t390.length) (c := co16) ?_).2.2; exact (by (with_reducible repeat (first | apply Kd.R_alloc | apply Kd.R_drewN | apply Kd.R_drew)); exact (Kd.R_mono (thrumlaw11_SignLoosens.F8 (Kd.R_types HO392.out BK402.out (by decide)) _ _ _ _ _ _ _ _) (fun _ h_ => h_.1)))); (case side4 => exact (Kd.R_reads' HO392.out).2.1); (case side5 => refine (Kd.R_reads' (e := 58) (base := w.heap.size) (ok := fun k_ => True) (n := t395.length) (c := co17) ?_).2.2; exact (by (with_reducible repeat (first | apply Kd.R_alloc | apply Kd.R_drewN | apply Kd.R_drew)); exact (Kd.R_mono (thrumlaw11_SignLoosens.F8 (Kd.R_types HO397.out BK402.out (by decide)) _ _ _ _ _ _ _ _) (fun _ h_ => h_.1)))); (case side6 => exact (Kd.R_reads' HO397.out).2.1); (case side7 => refine (Kd.R_reads' (e := 4) (base := w.heap.size) (ok := fun k_ => True) (n := t398.length) (c := co18) ?_).2.2; exact (by (with_reducible repeat (first | apply Kd.R_alloc | apply Kd.R_drewN | apply Kd.R_drew)); exact (Kd.R_mono (thrumlaw11_SignLoosens.F8 (Kd.R_types HO400.out BK402.out (by decide)) _ _ _ _ _ _ _ _) (fun _ h_ => h_.1)))); (case side8 => exact (Kd.R_reads' HO400.out).2.1); rintro e w19 ⟨v404, rfl, ho0, hb⟩; have n0_ := Aside0.mk (Kd.R_below (by (with_reducible repeat (first | apply Kd.R_alloc | apply Kd.R_drewN | apply Kd.R_drew)); exact (Kd.R_mono (thrumlaw11_SignLoosens.F8 (Kd.R_types HO389.out BK402.out (by decide)) _ _ _ _ _ _ _ _) (fun _ h_ => h_.1))) hb); have n1_ := Aside0.mk (Kd.R_elder' (by (with_reducible repeat (first | apply Kd.R_alloc | apply Kd.R_drewN | apply Kd.R_drew)); exact (Kd.R_mono (thrumlaw11_SignLoosens.F8 (Kd.R_types HO392.out BK402.out (by decide)) _ _ _ _ _ _ _ _) (fun _ h_ => h_.1))) (Kd.R_base ho0) hb); have n2_ := Aside0.mk (Kd.R_below (by (with_reducible repeat (first | apply Kd.R_alloc | apply Kd.R_drewN | apply Kd.R_drew)); exact (Kd.R_mono (thrumlaw11_SignLoosens.F8 (Kd.R_types HO397.out BK402.out (by decide)) _ _ _ _ _ _ _ _) (fun _ h_ => h_.1))) hb); have n3_ := Aside0.mk (Kd.R_below (by (with_reducible repeat (first | apply Kd.R_alloc | apply Kd.R_drewN | apply Kd.R_drew)); exact (Kd.R_mono (thrumlaw11_SignLoosens.F8 (Kd.R_types HO400.out BK402.out (by decide)) _ _ _ _ _ _ _ _) (fun _ h_ => h_.1))) hb); have n4_ := Aside0.mk (Kd.R_lower (Kd.R_new' ho0 (Kd.R_lt (by (with_reducible repeat (first | apply Kd.R_alloc | apply Kd.R_drewN | apply Kd.R_drew)); exact (Kd.R_mono (thrumlaw11_SignLoosens.F8 (Kd.R_types HO392.out BK402.out (by decide)) _ _ _ _ _ _ _ _) (fun _ h_ => h_.1))))) (below_size (by repeat (first | (with_reducible first | exact HB.out | apply below_alloc | apply pw_below_drewN | apply below_drew1 | refine below_set ?_ GE402.out) | exact HB.out)))); have n5_ := Aside0.mk (blk_below (g := gb402) (o := .cells #[.int .i64 t385, .int .i64 t386, .slice Ao15 t387.length co15, .slice Ao16 t390.length co16, .int .i64 t393, .int .i64 t394, .slice Ao17 t395.length co17, .slice Ao18 t398.length co18] 29 (0, 0)) (by (with_reducible repeat (first | refine blk_drewN ?_ _ | refine blk_drew ?_ | refine blk_alloc ?_ _)); refine blk_put (cs := #[.int .i64 t385, .int .i64 t386, .slice Ao15 t387.length co15, .slice Ao16 t390.length co16, .int .i64 t393, .int .i64 t394, .slice Ao17 t395.length co17, .slice none 0 0]) ?_ 7 _ rfl; (with_reducible repeat (first | refine blk_drewN ?_ _ | refine blk_drew ?_ | refine blk_alloc ?_ _)); refine blk_put (cs := #[.int .i64 t385, .int .i64 t386, .slice Ao15 t387.length co15, .slice Ao16 t390.length co16, .int .i64 t393, .int .i64 t394, .slice none 0 0, .slice none 0 0]) ?_ 6 _ rfl; (with_reducible repeat (first | refine blk_drewN ?_ _ | refine blk_drew ?_ | refine blk_alloc ?_ _)); refine blk_put (cs := #[.int .i64 t385, .int .i64 t386, .slice Ao15 t387.length co15, .slice Ao16 t390.length co16, .int .i64 t393, .int .i64 0, .slice none 0 0, .slice none 0 0]) ?_ 5 _ rfl; (with_reducible repeat (first | refine blk_drewN ?_ _ | refine blk_drew ?_ | refine blk_alloc ?_ _)); refine blk_put (cs := #[.int .i64 t385, .int .i64 t386, .slice Ao15 t387.length co15, .slice Ao16 t390.length co16, .int .i64 0, .int .i64 0, .slice none 0 0, .slice none 0 0]) ?_ 4 _ rfl; (with_reducible repeat (first | refine blk_drewN ?_ _ | refine blk_drew ?_ | refine blk_alloc ?_ _)); refine blk_put (cs := #[.int .i64 t385, .int .i64 t386, .slice Ao15 t387.length co15, .slice none 0 0, .int .i64 0, .int .i64 0, .slice none 0 0, .slice none 0 0]) ?_ 3 _ rfl; (with_reducible repeat (first | refine blk_drewN ?_ _ | refine blk_drew ?_ | refine blk_alloc ?_ _)); refine blk_put (cs := #[.int .i64 t385, .int .i64 t386, .slice none 0 0, .slice none 0 0, .int .i64 0, .int .i64 0, .slice none 0 0, .slice none 0 0]) ?_ 2 _ rfl; (with_reducible repeat (first | refine blk_drewN ?_ _ | refine blk_drew ?_ | refine blk_alloc ?_ _)); refine blk_put (cs := #[.int .i64 t385, .int .i64 0, .slice none 0 0, .slice none 0 0, .int .i64 0, .int .i64 0, .slice none 0 0, .slice none 0 0]) ?_ 1 _ rfl; (with_reducible repeat (first | refine blk_drewN ?_ _ | refine blk_drew ?_ | refine blk_alloc ?_ _)); refine blk_put (cs := #[.int .i64 0, .int .i64 0, .slice none 0 0, .slice none 0 0, .int .i64 0, .int .i64 0, .slice none 0 0, .slice none 0 0]) ?_ 0 _ rfl; (with_reducible repeat (first | refine blk_drewN ?_ _ | refine blk_drew ?_ | refine blk_alloc ?_ _)); exact BK402.out) hb); have n6_ := Aside0.mk (below_step (by repeat (first | (with_reducible first | exact HB.out | apply below_alloc | apply pw_below_drewN | apply below_drew1 | refine below_set ?_ GE402.out) | exact HB.out)) hb); clear HO389; clear HO392; clear HO397; clear HO400; clear BK402; clear HB; have HO389 := n0_; have HO392 := n1_; have HO397 := n2_; have HO400 := n3_; have HO405 := n4_; have BK402 := n5_; have HB := n6_; clear n0_ n1_ n2_ n3_ n4_ n5_ n6_; (try clear hb); (try clear hb2); (try clear hk); (try clear hi); (try clear ho0)))
    (try simp only [Act.put, List.setIfInBounds_toArray, List.set_cons_zero, List.set_cons_succ])
    go_cut [58] (fun v58 wc => ∃ (kq : Nat) (x58_8 : Bool), v58 = .bool x58_8 ∧ Aside0 (thrumlaw11_SignLoosens.j0 kq l0 true t403 x58_8 t385 t386 t387 t390 t393 t394 t395 t398 = some r) ∧ Aside0 (kq ≤ k) ∧ Aside0 (Kd.R (Kd.int .i64) 2 wc w.heap.size (fun k_ => some k_ ≠ ((.slice Ao16 t390.length co16) : Value).ownBlock) v404 t403) ∧ Aside0 (Kd.R (Kd.int .i64) 3 wc w.heap.size (fun _ => True) (.slice Ao15 t387.length co15) t387) ∧ Aside0 (Kd.R (Kd.int .i64) 2 wc w.heap.size (fun k_ => some k_ ≠ (v404 : Value).ownBlock) (.slice Ao16 t390.length co16) t390) ∧ Aside0 (Kd.R (Kd.int .u64) 58 wc w.heap.size (fun _ => True) (.slice Ao17 t395.length co17) t395) ∧ Aside0 (Kd.R Kd.bool 4 wc w.heap.size (fun _ => True) (.slice Ao18 t398.length co18) t398) ∧ Aside0 (wc.heap[gb402]? = some (.cells #[.int .i64 t385, .int .i64 t386, (.slice Ao15 t387.length co15), (.slice Ao16 t390.length co16), .int .i64 t393, .int .i64 t394, (.slice Ao17 t395.length co17), (.slice Ao18 t398.length co18)] 29 (0, 0))) ∧ Aside0 (Below w.heap.size w wc))
    case first =>
     have H := HC9.out
     clear HC9
     by_cases c20 : t406 = 0
     ·
      rw [if_pos c20] at H
      have c20b0 : (t406 == 0) = true := beq_iff_eq.mpr c20
      have c20b1 : (t406 != 0) = false := bne_eq_false_iff_eq.mpr c20
      clear c20
      (first | rw [c20b0] | (simp only [i64_w, i32_w]; rw [c20b0]) | skip)
      replace H := Option.bind_eq_some_iff.mp H
      obtain ⟨t407, A210, H⟩ := H
      replace H : (if t407 = true then (if (t403.length : Int) = (l0.length : Int) then ((sign_Is.f l0 t385 t386 t387 t390 t393 t394 t395 t398).bind fun t408 => (thrumlaw11_SignLoosens.j0 k l0 true t403 (!t408) t385 t386 t387 t390 t393 t394 t395 t398)) else (thrumlaw11_SignLoosens.j0 k l0 true t403 true t385 t386 t387 t390 t393 t394 t395 t398)) else (thrumlaw11_SignLoosens.j0 k l0 true t403 true t385 t386 t387 t390 t393 t394 t395 t398)) = some r := H
      have A21 := Aside0.mk A210
      clear A210
      by_cases c22 : t407 = true
      ·
       subst c22
       have H1 : (if (t403.length : Int) = (l0.length : Int) then ((sign_Is.f l0 t385 t386 t387 t390 t393 t394 t395 t398).bind fun t408 => (thrumlaw11_SignLoosens.j0 k l0 true t403 (!t408) t385 t386 t387 t390 t393 t394 t395 t398)) else (thrumlaw11_SignLoosens.j0 k l0 true t403 true t385 t386 t387 t390 t393 t394 t395 t398)) = some r := by rw [if_pos rfl] at H; exact H
       clear H
       have H := H1
       clear H1
       by_cases c23 : (t403.length : Int) = (l0.length : Int)
       ·
        rw [if_pos c23] at H
        have c23b0 : ((t403.length : Int) == (l0.length : Int)) = true := beq_iff_eq.mpr c23
        have c23b1 : ((t403.length : Int) != (l0.length : Int)) = false := bne_eq_false_iff_eq.mpr c23
        have c23b2 : (t403.length == l0.length) = true := by first | simpa using c23 | (simp at c23 ⊢; omega)
        clear c23
        replace H := Option.bind_eq_some_iff.mp H
        obtain ⟨t408, A240, H⟩ := H
        replace H : (thrumlaw11_SignLoosens.j0 k l0 true t403 (!t408) t385 t386 t387 t390 t393 t394 t395 t398) = some r := H
        have A24 := Aside0.mk A240
        clear A240
        focus
         have H' := Aside0.mk H
         clear H
         have hcz25_0 : w19.cell? ⟨gb402, 0, none⟩ = some (.int .i64 t385) := (blk_cell BK402.out 0).trans rfl
         have hcz25_1 : w19.cell? ⟨gb402, 1, none⟩ = some (.int .i64 t386) := (blk_cell BK402.out 1).trans rfl
         have hcz25_2 : w19.cell? ⟨gb402, 2, none⟩ = some (.slice Ao15 t387.length co15) := (blk_cell BK402.out 2).trans rfl
         have hcz25_3 : w19.cell? ⟨gb402, 3, none⟩ = some (.slice Ao16 t390.length co16) := (blk_cell BK402.out 3).trans rfl
         have hcz25_4 : w19.cell? ⟨gb402, 4, none⟩ = some (.int .i64 t393) := (blk_cell BK402.out 4).trans rfl
         have hcz25_5 : w19.cell? ⟨gb402, 5, none⟩ = some (.int .i64 t394) := (blk_cell BK402.out 5).trans rfl
         have hcz25_6 : w19.cell? ⟨gb402, 6, none⟩ = some (.slice Ao17 t395.length co17) := (blk_cell BK402.out 6).trans rfl
         have hcz25_7 : w19.cell? ⟨gb402, 7, none⟩ = some (.slice Ao18 t398.length co18) := (blk_cell BK402.out 7).trans rfl
         have hfz25_0 := blk_frozen BK402.out 0
         have hfz25_1 := blk_frozen BK402.out 1
         have hfz25_2 := blk_frozen BK402.out 2
         have hfz25_3 := blk_frozen BK402.out 3
         have hfz25_4 := blk_frozen BK402.out 4
         have hfz25_5 := blk_frozen BK402.out 5
         have hfz25_6 := blk_frozen BK402.out 6
         have hfz25_7 := blk_frozen BK402.out 7
         go_wp2_with (first | (go_at_call 19; (with_reducible refine (frame_May.calls t385 t386 _ _ t387 _ _ t390 t393 t394 _ _ t395 _ _ t398 true _ ?side1 ?side2 ?side3 ?side4 ?side5 ?side6 ?side7 ?side8 A21.out).mono ?_); (case side1 => repeat (first | exact (Kd.R_reads' HO389.out).2.2 | (with_reducible refine Kd.C_alloc ?_ _) | (with_reducible refine Kd.C_drewN ?_ _) | (with_reducible refine Kd.C_drew ?_))); (case side2 => exact (Kd.R_reads' HO389.out).2.1); (case side3 => repeat (first | exact (Kd.R_reads' HO392.out).2.2 | (with_reducible refine Kd.C_alloc ?_ _) | (with_reducible refine Kd.C_drewN ?_ _) | (with_reducible refine Kd.C_drew ?_))); (case side4 => exact (Kd.R_reads' HO392.out).2.1); (case side5 => repeat (first | exact (Kd.R_reads' HO397.out).2.2 | (with_reducible refine Kd.C_alloc ?_ _) | (with_reducible refine Kd.C_drewN ?_ _) | (with_reducible refine Kd.C_drew ?_))); (case side6 => exact (Kd.R_reads' HO397.out).2.1); (case side7 => repeat (first | exact (Kd.R_reads' HO400.out).2.2 | (with_reducible refine Kd.C_alloc ?_ _) | (with_reducible refine Kd.C_drewN ?_ _) | (with_reducible refine Kd.C_drew ?_))); (case side8 => exact (Kd.R_reads' HO400.out).2.1); rintro e w26 ⟨rfl, hb⟩; have n0_ := Aside0.mk (Kd.R_below (by (with_reducible repeat (first | apply Kd.R_alloc | apply Kd.R_drewN | apply Kd.R_drew)); exact HO389.out) hb); have n1_ := Aside0.mk (Kd.R_below (by (with_reducible repeat (first | apply Kd.R_alloc | apply Kd.R_drewN | apply Kd.R_drew)); exact HO392.out) hb); have n2_ := Aside0.mk (Kd.R_below (by (with_reducible repeat (first | apply Kd.R_alloc | apply Kd.R_drewN | apply Kd.R_drew)); exact HO397.out) hb); have n3_ := Aside0.mk (Kd.R_below (by (with_reducible repeat (first | apply Kd.R_alloc | apply Kd.R_drewN | apply Kd.R_drew)); exact HO400.out) hb); have n4_ := Aside0.mk (Kd.R_below (by (with_reducible repeat (first | apply Kd.R_alloc | apply Kd.R_drewN | apply Kd.R_drew)); exact HO405.out) hb); have n5_ := Aside0.mk (blk_below (g := gb402) (o := .cells #[.int .i64 t385, .int .i64 t386, .slice Ao15 t387.length co15, .slice Ao16 t390.length co16, .int .i64 t393, .int .i64 t394, .slice Ao17 t395.length co17, .slice Ao18 t398.length co18] 29 (0, 0)) (by (with_reducible repeat (first | refine blk_drewN ?_ _ | refine blk_drew ?_ | refine blk_alloc ?_ _)); exact BK402.out) hb); have n6_ := Aside0.mk (below_step (by repeat (first | (with_reducible first | exact HB.out | apply below_alloc | apply pw_below_drewN | apply below_drew1 | refine below_set ?_ GE402.out) | exact HB.out)) hb); clear HO389; clear HO392; clear HO397; clear HO400; clear HO405; clear BK402; clear HB; have HO389 := n0_; have HO392 := n1_; have HO397 := n2_; have HO400 := n3_; have HO405 := n4_; have BK402 := n5_; have HB := n6_; clear n0_ n1_ n2_ n3_ n4_ n5_ n6_; (try clear hb); (try clear hb2); (try clear hk); (try clear hi); obtain ⟨Ao27, co27, eo27⟩ := Kd.R_slice HO405.out; subst eo27; have hcz28_0 : w26.cell? ⟨gb402, 0, none⟩ = some (.int .i64 t385) := (blk_cell BK402.out 0).trans rfl; have hcz28_1 : w26.cell? ⟨gb402, 1, none⟩ = some (.int .i64 t386) := (blk_cell BK402.out 1).trans rfl; have hcz28_2 : w26.cell? ⟨gb402, 2, none⟩ = some (.slice Ao15 t387.length co15) := (blk_cell BK402.out 2).trans rfl; have hcz28_3 : w26.cell? ⟨gb402, 3, none⟩ = some (.slice Ao16 t390.length co16) := (blk_cell BK402.out 3).trans rfl; have hcz28_4 : w26.cell? ⟨gb402, 4, none⟩ = some (.int .i64 t393) := (blk_cell BK402.out 4).trans rfl; have hcz28_5 : w26.cell? ⟨gb402, 5, none⟩ = some (.int .i64 t394) := (blk_cell BK402.out 5).trans rfl; have hcz28_6 : w26.cell? ⟨gb402, 6, none⟩ = some (.slice Ao17 t395.length co17) := (blk_cell BK402.out 6).trans rfl; have hcz28_7 : w26.cell? ⟨gb402, 7, none⟩ = some (.slice Ao18 t398.length co18) := (blk_cell BK402.out 7).trans rfl; have hfz28_0 := blk_frozen BK402.out 0; have hfz28_1 := blk_frozen BK402.out 1; have hfz28_2 := blk_frozen BK402.out 2; have hfz28_3 := blk_frozen BK402.out 3; have hfz28_4 := blk_frozen BK402.out 4; have hfz28_5 := blk_frozen BK402.out 5; have hfz28_6 := blk_frozen BK402.out 6; have hfz28_7 := blk_frozen BK402.out 7) | (go_at_call 17; (with_reducible refine (sign_Is.calls _ _ l0 t385 t386 _ _ t387 _ _ t390 t393 t394 _ _ t395 _ _ t398 t408 _ ?side1 ?side2 ?side3 ?side4 ?side5 ?side6 ?side7 ?side8 ?side9 ?side10 A24.out).mono ?_); (case side1 => repeat (first | exact (Kd.C_below HR0.out HB.out) | (with_reducible refine Kd.C_alloc ?_ _) | (with_reducible refine Kd.C_drewN ?_ _) | (with_reducible refine Kd.C_drew ?_))); (case side2 => exact HC0.out); (case side3 => repeat (first | exact (Kd.R_reads' HO389.out).2.2 | (with_reducible refine Kd.C_alloc ?_ _) | (with_reducible refine Kd.C_drewN ?_ _) | (with_reducible refine Kd.C_drew ?_))); (case side4 => exact (Kd.R_reads' HO389.out).2.1); (case side5 => repeat (first | exact (Kd.R_reads' HO392.out).2.2 | (with_reducible refine Kd.C_alloc ?_ _) | (with_reducible refine Kd.C_drewN ?_ _) | (with_reducible refine Kd.C_drew ?_))); (case side6 => exact (Kd.R_reads' HO392.out).2.1); (case side7 => repeat (first | exact (Kd.R_reads' HO397.out).2.2 | (with_reducible refine Kd.C_alloc ?_ _) | (with_reducible refine Kd.C_drewN ?_ _) | (with_reducible refine Kd.C_drew ?_))); (case side8 => exact (Kd.R_reads' HO397.out).2.1); (case side9 => repeat (first | exact (Kd.R_reads' HO400.out).2.2 | (with_reducible refine Kd.C_alloc ?_ _) | (with_reducible refine Kd.C_drewN ?_ _) | (with_reducible refine Kd.C_drew ?_))); (case side10 => exact (Kd.R_reads' HO400.out).2.1); rintro e w29 ⟨rfl, hb⟩; have n0_ := Aside0.mk (Kd.R_below (by (with_reducible repeat (first | apply Kd.R_alloc | apply Kd.R_drewN | apply Kd.R_drew)); exact HO389.out) hb); have n1_ := Aside0.mk (Kd.R_below (by (with_reducible repeat (first | apply Kd.R_alloc | apply Kd.R_drewN | apply Kd.R_drew)); exact HO392.out) hb); have n2_ := Aside0.mk (Kd.R_below (by (with_reducible repeat (first | apply Kd.R_alloc | apply Kd.R_drewN | apply Kd.R_drew)); exact HO397.out) hb); have n3_ := Aside0.mk (Kd.R_below (by (with_reducible repeat (first | apply Kd.R_alloc | apply Kd.R_drewN | apply Kd.R_drew)); exact HO400.out) hb); have n4_ := Aside0.mk (Kd.R_below (by (with_reducible repeat (first | apply Kd.R_alloc | apply Kd.R_drewN | apply Kd.R_drew)); exact HO405.out) hb); have n5_ := Aside0.mk (blk_below (g := gb402) (o := .cells #[.int .i64 t385, .int .i64 t386, .slice Ao15 t387.length co15, .slice Ao16 t390.length co16, .int .i64 t393, .int .i64 t394, .slice Ao17 t395.length co17, .slice Ao18 t398.length co18] 29 (0, 0)) (by (with_reducible repeat (first | refine blk_drewN ?_ _ | refine blk_drew ?_ | refine blk_alloc ?_ _)); exact BK402.out) hb); have n6_ := Aside0.mk (below_step (by repeat (first | (with_reducible first | exact HB.out | apply below_alloc | apply pw_below_drewN | apply below_drew1 | refine below_set ?_ GE402.out) | exact HB.out)) hb); clear HO389; clear HO392; clear HO397; clear HO400; clear HO405; clear BK402; clear HB; have HO389 := n0_; have HO392 := n1_; have HO397 := n2_; have HO400 := n3_; have HO405 := n4_; have BK402 := n5_; have HB := n6_; clear n0_ n1_ n2_ n3_ n4_ n5_ n6_; (try clear hb); (try clear hb2); (try clear hk); (try clear hi)))
         go_meet
         case rel => exact ⟨_, (!t408), (by first | rfl | (simp; done) | (simp [*]; done)), H', ⟨by first | omega | exact Nat.le_refl _⟩, ⟨by (with_reducible repeat (first | apply Kd.R_alloc | apply Kd.R_drewN | apply Kd.R_drew)); exact Kd.R_mono HO405.out (fun _ hk => hk.2)⟩, ⟨by (with_reducible repeat (first | apply Kd.R_alloc | apply Kd.R_drewN | apply Kd.R_drew)); exact HO389.out⟩, ⟨by (with_reducible repeat (first | apply Kd.R_alloc | apply Kd.R_drewN | apply Kd.R_drew)); exact Kd.R_mono HO392.out (fun _ hk => hk.2)⟩, ⟨by (with_reducible repeat (first | apply Kd.R_alloc | apply Kd.R_drewN | apply Kd.R_drew)); exact HO397.out⟩, ⟨by (with_reducible repeat (first | apply Kd.R_alloc | apply Kd.R_drewN | apply Kd.R_drew)); exact HO400.out⟩, ⟨by (with_reducible repeat (first | refine blk_drewN ?_ _ | refine blk_drew ?_ | refine blk_alloc ?_ _)); exact BK402.out⟩, ⟨by repeat (first | (with_reducible first | exact HB.out | apply below_alloc | apply pw_below_drewN | apply below_drew1 | refine below_set ?_ GE402.out) | exact HB.out)⟩⟩
       ·
        rw [if_neg c23] at H
        exact (thrumlaw11_SignLoosens.j0_not (H.trans (by rw [HR_.out]))).elim
      ·
       replace c22 := Bool.eq_false_iff.mpr c22
       subst c22
       have H1 : (thrumlaw11_SignLoosens.j0 k l0 true t403 true t385 t386 t387 t390 t393 t394 t395 t398) = some r := by rw [if_neg (show ¬ (false = true) by decide)] at H; exact H
       exact (thrumlaw11_SignLoosens.j0_not (H1.trans (by rw [HR_.out]))).elim
     ·
      rw [if_neg c20] at H
      exact (thrumlaw11_SignLoosens.j0_not (H.trans (by rw [HR_.out]))).elim
    case rest =>
     clear HC9
     try clear c2
     try clear p2
     try clear c3
     try clear c5
     try clear c7
     try clear c7b0
     try clear c7b1
     try clear c20
     try clear c20b0
     try clear c20b1
     try clear c22
     try clear c23
     try clear c23b0
     try clear c23b1
     try clear c23b2
     try clear hcz14_0
     try clear hcz14_1
     try clear hcz14_2
     try clear hcz14_3
     try clear hcz14_4
     try clear hcz14_5
     try clear hcz14_6
     try clear hcz14_7
     try clear hcz25_0
     try clear hcz25_1
     try clear hcz25_2
     try clear hcz25_3
     try clear hcz25_4
     try clear hcz25_5
     try clear hcz25_6
     try clear hcz25_7
     try clear hcz28_0
     try clear hcz28_1
     try clear hcz28_2
     try clear hcz28_3
     try clear hcz28_4
     try clear hcz28_5
     try clear hcz28_6
     try clear hcz28_7
     try clear hcz30_0
     try clear hcz30_1
     try clear hcz30_2
     try clear hcz30_3
     try clear hcz30_4
     try clear hcz30_5
     try clear hcz30_6
     try clear hcz30_7
     try clear hcz33_0
     try clear hcz33_1
     try clear hcz33_2
     try clear hcz33_3
     try clear hcz33_4
     try clear hcz33_5
     try clear hcz33_6
     try clear hcz33_7
     try clear hfz14_0
     try clear hfz14_1
     try clear hfz14_2
     try clear hfz14_3
     try clear hfz14_4
     try clear hfz14_5
     try clear hfz14_6
     try clear hfz14_7
     try clear hfz25_0
     try clear hfz25_1
     try clear hfz25_2
     try clear hfz25_3
     try clear hfz25_4
     try clear hfz25_5
     try clear hfz25_6
     try clear hfz25_7
     try clear hfz28_0
     try clear hfz28_1
     try clear hfz28_2
     try clear hfz28_3
     try clear hfz28_4
     try clear hfz28_5
     try clear hfz28_6
     try clear hfz28_7
     try clear hfz30_0
     try clear hfz30_1
     try clear hfz30_2
     try clear hfz30_3
     try clear hfz30_4
     try clear hfz30_5
     try clear hfz30_6
     try clear hfz30_7
     try clear hfz33_0
     try clear hfz33_1
     try clear hfz33_2
     try clear hfz33_3
     try clear hfz33_4
     try clear hfz33_5
     try clear hfz33_6
     try clear hfz33_7
     obtain ⟨kq, x58_8, rfl, HA, HJ8, HO_6, HO_403002, HO_403003, HO_403006, HO_403007, BK402, HB⟩ := hcut
     cases kq with
     | zero => exact absurd HA.out (by simp [thrumlaw11_SignLoosens.j0])
     | succ kj8 =>
      have H := HA.out
      clear HA
      simp only [thrumlaw11_SignLoosens.j0] at H
      by_cases c35 : x58_8 = true
      ·
       subst c35
       have H1 : (some false) = some r := by rw [if_pos rfl] at H; exact H
       exact absurd (Option.some.inj H1) (by rw [HR_.out]; decide)
      ·
       replace c35 := Bool.eq_false_iff.mpr c35
       subst c35
       have H1 : (thrumlaw11_SignLoosens.l0 kj8 l0 true t403 l0 (l0.length : Int) 0 t385 t386 t387 t390 t393 t394 t395 t398) = some r := by rw [if_neg (show ¬ (false = true) by decide)] at H; exact H
       clear H
       have H := H1
       clear H1
       have H' := Aside0.mk H
       clear H
       go_wp2
       repeat (go_quiet (fail); try go_wp2)
       go_loopg [61] kj8 (fun kq v61 w' => ∃ (x61_2 : Int), v61 = .int .i64 x61_2 ∧ Aside0 (thrumlaw11_SignLoosens.l0 kq l0 true t403 l0 (l0.length : Int) x61_2 t385 t386 t387 t390 t393 t394 t395 t398 = some r) ∧ Aside0 (kq ≤ kj8) ∧ Aside0 (Kd.R (Kd.int .i64) 2 w' w.heap.size (fun k_ => some k_ ≠ ((.slice Ao16 t390.length co16) : Value).ownBlock) v404 t403) ∧ Aside0 (Kd.R (Kd.int .i64) 3 w' w.heap.size (fun _ => True) (.slice Ao15 t387.length co15) t387) ∧ Aside0 (Kd.R (Kd.int .i64) 2 w' w.heap.size (fun k_ => some k_ ≠ (v404 : Value).ownBlock) (.slice Ao16 t390.length co16) t390) ∧ Aside0 (Kd.R (Kd.int .u64) 58 w' w.heap.size (fun _ => True) (.slice Ao17 t395.length co17) t395) ∧ Aside0 (Kd.R Kd.bool 4 w' w.heap.size (fun _ => True) (.slice Ao18 t398.length co18) t398) ∧ Aside0 (w'.heap[gb402]? = some (.cells #[.int .i64 t385, .int .i64 t386, (.slice Ao15 t387.length co15), (.slice Ao16 t390.length co16), .int .i64 t393, .int .i64 t394, (.slice Ao17 t395.length co17), (.slice Ao18 t398.length co18)] 29 (0, 0))) ∧ Aside0 (Below w.heap.size w w'))
       case atStart => exact ⟨(0), (by first | rfl | (simp; done) | (simp [*]; done)), H', ⟨Nat.le_refl _⟩, ⟨by (with_reducible repeat (first | apply Kd.R_alloc | apply Kd.R_drewN | apply Kd.R_drew)); exact HO_6.out⟩, ⟨by (with_reducible repeat (first | apply Kd.R_alloc | apply Kd.R_drewN | apply Kd.R_drew)); exact HO_403002.out⟩, ⟨by (with_reducible repeat (first | apply Kd.R_alloc | apply Kd.R_drewN | apply Kd.R_drew)); exact HO_403003.out⟩, ⟨by (with_reducible repeat (first | apply Kd.R_alloc | apply Kd.R_drewN | apply Kd.R_drew)); exact HO_403006.out⟩, ⟨by (with_reducible repeat (first | apply Kd.R_alloc | apply Kd.R_drewN | apply Kd.R_drew)); exact HO_403007.out⟩, ⟨by (with_reducible repeat (first | refine blk_drewN ?_ _ | refine blk_drew ?_ | refine blk_alloc ?_ _)); exact BK402.out⟩, ⟨by repeat (first | (with_reducible first | exact HB.out | apply below_alloc | apply pw_below_drewN | apply below_drew1 | refine below_set ?_ GE402.out) | exact HB.out)⟩⟩
       case round =>
        clear H'
        try clear c2
        try clear p2
        try clear c3
        try clear c5
        try clear c7
        try clear c7b0
        try clear c7b1
        try clear c20
        try clear c20b0
        try clear c20b1
        try clear c22
        try clear c23
        try clear c23b0
        try clear c23b1
        try clear c23b2
        try clear c35
        try clear hcz14_0
        try clear hcz14_1
        try clear hcz14_2
        try clear hcz14_3
        try clear hcz14_4
        try clear hcz14_5
        try clear hcz14_6
        try clear hcz14_7
        try clear hcz25_0
        try clear hcz25_1
        try clear hcz25_2
        try clear hcz25_3
        try clear hcz25_4
        try clear hcz25_5
        try clear hcz25_6
        try clear hcz25_7
        try clear hcz28_0
        try clear hcz28_1
        try clear hcz28_2
        try clear hcz28_3
        try clear hcz28_4
        try clear hcz28_5
        try clear hcz28_6
        try clear hcz28_7
        try clear hcz30_0
        try clear hcz30_1
        try clear hcz30_2
        try clear hcz30_3
        try clear hcz30_4
        try clear hcz30_5
        try clear hcz30_6
        try clear hcz30_7
        try clear hcz33_0
        try clear hcz33_1
        try clear hcz33_2
        try clear hcz33_3
        try clear hcz33_4
        try clear hcz33_5
        try clear hcz33_6
        try clear hcz33_7
        try clear hfz14_0
        try clear hfz14_1
        try clear hfz14_2
        try clear hfz14_3
        try clear hfz14_4
        try clear hfz14_5
        try clear hfz14_6
        try clear hfz14_7
        try clear hfz25_0
        try clear hfz25_1
        try clear hfz25_2
        try clear hfz25_3
        try clear hfz25_4
        try clear hfz25_5
        try clear hfz25_6
        try clear hfz25_7
        try clear hfz28_0
        try clear hfz28_1
        try clear hfz28_2
        try clear hfz28_3
        try clear hfz28_4
        try clear hfz28_5
        try clear hfz28_6
        try clear hfz28_7
        try clear hfz30_0
        try clear hfz30_1
        try clear hfz30_2
        try clear hfz30_3
        try clear hfz30_4
        try clear hfz30_5
        try clear hfz30_6
        try clear hfz30_7
        try clear hfz33_0
        try clear hfz33_1
        try clear hfz33_2
        try clear hfz33_3
        try clear hfz33_4
        try clear hfz33_5
        try clear hfz33_6
        try clear hfz33_7
        try clear p2
        obtain ⟨x61_2, rfl, HA, HK2, HO_6, HO_403002, HO_403003, HO_403006, HO_403007, BK402, HB⟩ := hrel
        cases gk with
        | zero => exact absurd HA.out (by simp [thrumlaw11_SignLoosens.l0])
        | succ k2 =>
         have H := HA.out
         clear HA
         simp only [thrumlaw11_SignLoosens.l0] at H
         by_cases c36 : x61_2 < (l0.length : Int)
         ·
          rw [if_pos c36] at H
          have c36b0 : decide (x61_2 < (l0.length : Int)) = true := decide_eq_true c36
          clear c36
          by_cases c37 : 0 ≤ x61_2
          ·
           rw [if_pos c37] at H
           have c37b0 : decide (0 ≤ x61_2) = true := decide_eq_true c37
           clear c37
           by_cases c38 : x61_2 < (l0.length : Int)
           ·
            rw [if_pos c38] at H
            have c38b0 : decide (x61_2 < (l0.length : Int)) = true := decide_eq_true c38
            clear c38
            by_cases c39 : (rd l0 x61_2) < 0
            ·
             rw [if_pos c39] at H
             have c39b0 : decide ((rd l0 x61_2) < 0) = true := decide_eq_true c39
             clear c39
             by_cases c40 : x61_2 < (t403.length : Int)
             ·
              rw [if_pos c40] at H
              have c40b0 : decide (x61_2 < (t403.length : Int)) = true := decide_eq_true c40
              clear c40
              by_cases c41 : (rd t403 x61_2) > 0
              ·
               rw [if_pos c41] at H
               exact absurd (Option.some.inj H) (by rw [HR_.out]; decide)
              ·
               rw [if_neg c41] at H
               have c41b0 : decide (0 < (rd t403 x61_2)) = false := decide_eq_false c41
               clear c41
               by_cases c43 : (rd l0 x61_2) > 0
               ·
                rw [if_pos c43] at H
                have c43b0 : decide (0 < (rd l0 x61_2)) = true := decide_eq_true c43
                clear c43
                by_cases c44 : (rd t403 x61_2) < 0
                ·
                 rw [if_pos c44] at H
                 exact absurd (Option.some.inj H) (by rw [HR_.out]; decide)
                ·
                 rw [if_neg c44] at H
                 have c44b0 : decide ((rd t403 x61_2) < 0) = false := decide_eq_false c44
                 clear c44
                 by_cases c46 : (rd t403 x61_2) = t393
                 ·
                  rw [if_pos c46] at H
                  have c46b0 : ((rd t403 x61_2) == t393) = true := beq_iff_eq.mpr c46
                  have c46b1 : ((rd t403 x61_2) != t393) = false := bne_eq_false_iff_eq.mpr c46
                  clear c46
                  focus
                   have H' := Aside0.mk H
                   clear H
                   have p409 : 0 ≤ (x61_2 : Int) := of_decide_eq_true (by first | (with_reducible assumption) | assumption)
                   have q409 : x61_2 < (l0.length : Int) := of_decide_eq_true (by first | (with_reducible assumption) | assumption)
                   obtain ⟨ad409, e409, hx409_0⟩ := Kd.at_int HR0.out x61_2 p409 q409
                   cases e409
                   replace hx409_0 := (HB.out.cell (World.block_lt_of_cell? w _ hx409_0)).trans hx409_0
                   replace p409 := eq_true p409
                   replace q409 := eq_true q409
                   obtain ⟨Ao47, co47, eo47⟩ := Kd.R_slice HO_6.out
                   subst eo47
                   have p410 : 0 ≤ (x61_2 : Int) := of_decide_eq_true (by first | (with_reducible assumption) | assumption)
                   have q410 : x61_2 < (t403.length : Int) := of_decide_eq_true (by first | (with_reducible assumption) | assumption)
                   obtain ⟨ad410, e410, hx410_0⟩ := Kd.at_int (Kd.R_reads' HO_6.out).2.2 x61_2 p410 q410
                   cases e410
                   replace p410 := eq_true p410
                   replace q410 := eq_true q410
                   have p411 : 0 ≤ (x61_2 : Int) := of_decide_eq_true (by first | (with_reducible assumption) | assumption)
                   have q411 : x61_2 < (t403.length : Int) := of_decide_eq_true (by first | (with_reducible assumption) | assumption)
                   obtain ⟨ad411, e411, hx411_0⟩ := Kd.at_int (Kd.R_reads' HO_6.out).2.2 x61_2 p411 q411
                   obtain rfl : ad410 = ad411 := (by injection e411)
                   replace p411 := eq_true p411
                   replace q411 := eq_true q411
                   have p412 : 0 ≤ (x61_2 : Int) := of_decide_eq_true (by first | (with_reducible assumption) | assumption)
                   have q412 : x61_2 < (t403.length : Int) := of_decide_eq_true (by first | (with_reducible assumption) | assumption)
                   obtain ⟨ad412, e412, hx412_0⟩ := Kd.at_int (Kd.R_reads' HO_6.out).2.2 x61_2 p412 q412
                   obtain rfl : ad410 = ad412 := (by injection e412)
                   replace p412 := eq_true p412
                   replace q412 := eq_true q412
                   have hcz48_0 : wr.cell? ⟨gb402, 0, none⟩ = some (.int .i64 t385) := (blk_cell BK402.out 0).trans rfl
                   have hcz48_1 : wr.cell? ⟨gb402, 1, none⟩ = some (.int .i64 t386) := (blk_cell BK402.out 1).trans rfl
                   have hcz48_2 : wr.cell? ⟨gb402, 2, none⟩ = some (.slice Ao15 t387.length co15) := (blk_cell BK402.out 2).trans rfl
                   have hcz48_3 : wr.cell? ⟨gb402, 3, none⟩ = some (.slice Ao16 t390.length co16) := (blk_cell BK402.out 3).trans rfl
                   have hcz48_4 : wr.cell? ⟨gb402, 4, none⟩ = some (.int .i64 t393) := (blk_cell BK402.out 4).trans rfl
                   have hcz48_5 : wr.cell? ⟨gb402, 5, none⟩ = some (.int .i64 t394) := (blk_cell BK402.out 5).trans rfl
                   have hcz48_6 : wr.cell? ⟨gb402, 6, none⟩ = some (.slice Ao17 t395.length co17) := (blk_cell BK402.out 6).trans rfl
                   have hcz48_7 : wr.cell? ⟨gb402, 7, none⟩ = some (.slice Ao18 t398.length co18) := (blk_cell BK402.out 7).trans rfl
                   have hfz48_0 := blk_frozen BK402.out 0
                   have hfz48_1 := blk_frozen BK402.out 1
                   have hfz48_2 := blk_frozen BK402.out 2
                   have hfz48_3 := blk_frozen BK402.out 3
                   have hfz48_4 := blk_frozen BK402.out 4
                   have hfz48_5 := blk_frozen BK402.out 5
                   have hfz48_6 := blk_frozen BK402.out 6
                   have hfz48_7 := blk_frozen BK402.out 7
                   go_wp2
                   repeat (go_quiet (fail); try go_wp2)
                   go_roundg k2
                   case measure => have := HJ8.out; have := HK2.out; omega
                   case rel => exact ⟨(wrap64 (x61_2 + 1)), (by first | rfl | (simp; done) | (simp [*]; done)), H', ⟨by have := HJ8.out; have := HK2.out; omega⟩, ⟨by (with_reducible repeat (first | apply Kd.R_alloc | apply Kd.R_drewN | apply Kd.R_drew)); exact HO_6.out⟩, ⟨by (with_reducible repeat (first | apply Kd.R_alloc | apply Kd.R_drewN | apply Kd.R_drew)); exact HO_403002.out⟩, ⟨by (with_reducible repeat (first | apply Kd.R_alloc | apply Kd.R_drewN | apply Kd.R_drew)); exact HO_403003.out⟩, ⟨by (with_reducible repeat (first | apply Kd.R_alloc | apply Kd.R_drewN | apply Kd.R_drew)); exact HO_403006.out⟩, ⟨by (with_reducible repeat (first | apply Kd.R_alloc | apply Kd.R_drewN | apply Kd.R_drew)); exact HO_403007.out⟩, ⟨by (with_reducible repeat (first | refine blk_drewN ?_ _ | refine blk_drew ?_ | refine blk_alloc ?_ _)); exact BK402.out⟩, ⟨by repeat (first | (with_reducible first | exact HB.out | apply below_alloc | apply pw_below_drewN | apply below_drew1 | refine below_set ?_ GE402.out) | exact HB.out)⟩⟩
                 ·
                  rw [if_neg c46] at H
                  have c46b0 : ((rd t403 x61_2) == t393) = false := beq_eq_false_iff_ne.mpr c46
                  have c46b1 : ((rd t403 x61_2) != t393) = true := bne_iff_ne.mpr c46
                  by_cases c49 : (rd t403 x61_2) = (wrap64 (-t393))
                  ·
                   rw [if_pos c49] at H
                   have c49b0 : ((rd t403 x61_2) == (wrap64 (-t393))) = true := beq_iff_eq.mpr c49
                   have c49b1 : ((rd t403 x61_2) != (wrap64 (-t393))) = false := bne_eq_false_iff_eq.mpr c49
                   clear c49
                   focus
                    have H' := Aside0.mk H
                    clear H
                    have p409 : 0 ≤ (x61_2 : Int) := of_decide_eq_true (by first | (with_reducible assumption) | assumption)
                    have q409 : x61_2 < (l0.length : Int) := of_decide_eq_true (by first | (with_reducible assumption) | assumption)
                    obtain ⟨ad409, e409, hx409_0⟩ := Kd.at_int HR0.out x61_2 p409 q409
                    cases e409
                    replace hx409_0 := (HB.out.cell (World.block_lt_of_cell? w _ hx409_0)).trans hx409_0
                    replace p409 := eq_true p409
                    replace q409 := eq_true q409
                    obtain ⟨Ao50, co50, eo50⟩ := Kd.R_slice HO_6.out
                    subst eo50
                    have p410 : 0 ≤ (x61_2 : Int) := of_decide_eq_true (by first | (with_reducible assumption) | assumption)
                    have q410 : x61_2 < (t403.length : Int) := of_decide_eq_true (by first | (with_reducible assumption) | assumption)
                    obtain ⟨ad410, e410, hx410_0⟩ := Kd.at_int (Kd.R_reads' HO_6.out).2.2 x61_2 p410 q410
                    cases e410
                    replace p410 := eq_true p410
                    replace q410 := eq_true q410
                    have p411 : 0 ≤ (x61_2 : Int) := of_decide_eq_true (by first | (with_reducible assumption) | assumption)
                    have q411 : x61_2 < (t403.length : Int) := of_decide_eq_true (by first | (with_reducible assumption) | assumption)
                    obtain ⟨ad411, e411, hx411_0⟩ := Kd.at_int (Kd.R_reads' HO_6.out).2.2 x61_2 p411 q411
                    obtain rfl : ad410 = ad411 := (by injection e411)
                    replace p411 := eq_true p411
                    replace q411 := eq_true q411
                    have p412 : 0 ≤ (x61_2 : Int) := of_decide_eq_true (by first | (with_reducible assumption) | assumption)
                    have q412 : x61_2 < (t403.length : Int) := of_decide_eq_true (by first | (with_reducible assumption) | assumption)
                    obtain ⟨ad412, e412, hx412_0⟩ := Kd.at_int (Kd.R_reads' HO_6.out).2.2 x61_2 p412 q412
                    obtain rfl : ad410 = ad412 := (by injection e412)
                    replace p412 := eq_true p412
                    replace q412 := eq_true q412
                    have hcz51_0 : wr.cell? ⟨gb402, 0, none⟩ = some (.int .i64 t385) := (blk_cell BK402.out 0).trans rfl
                    have hcz51_1 : wr.cell? ⟨gb402, 1, none⟩ = some (.int .i64 t386) := (blk_cell BK402.out 1).trans rfl
                    have hcz51_2 : wr.cell? ⟨gb402, 2, none⟩ = some (.slice Ao15 t387.length co15) := (blk_cell BK402.out 2).trans rfl
                    have hcz51_3 : wr.cell? ⟨gb402, 3, none⟩ = some (.slice Ao16 t390.length co16) := (blk_cell BK402.out 3).trans rfl
                    have hcz51_4 : wr.cell? ⟨gb402, 4, none⟩ = some (.int .i64 t393) := (blk_cell BK402.out 4).trans rfl
                    have hcz51_5 : wr.cell? ⟨gb402, 5, none⟩ = some (.int .i64 t394) := (blk_cell BK402.out 5).trans rfl
                    have hcz51_6 : wr.cell? ⟨gb402, 6, none⟩ = some (.slice Ao17 t395.length co17) := (blk_cell BK402.out 6).trans rfl
                    have hcz51_7 : wr.cell? ⟨gb402, 7, none⟩ = some (.slice Ao18 t398.length co18) := (blk_cell BK402.out 7).trans rfl
                    have hfz51_0 := blk_frozen BK402.out 0
                    have hfz51_1 := blk_frozen BK402.out 1
                    have hfz51_2 := blk_frozen BK402.out 2
                    have hfz51_3 := blk_frozen BK402.out 3
                    have hfz51_4 := blk_frozen BK402.out 4
                    have hfz51_5 := blk_frozen BK402.out 5
                    have hfz51_6 := blk_frozen BK402.out 6
                    have hfz51_7 := blk_frozen BK402.out 7
                    have p413 : 0 ≤ (x61_2 : Int) := of_decide_eq_true (by first | (with_reducible assumption) | assumption)
                    have q413 : x61_2 < (t403.length : Int) := of_decide_eq_true (by first | (with_reducible assumption) | assumption)
                    obtain ⟨ad413, e413, hx413_0⟩ := Kd.at_int (Kd.R_reads' HO_6.out).2.2 x61_2 p413 q413
                    obtain rfl : ad410 = ad413 := (by injection e413)
                    replace p413 := eq_true p413
                    replace q413 := eq_true q413
                    go_wp2
                    repeat (go_quiet (fail); try go_wp2)
                    go_roundg k2
                    case measure => have := HJ8.out; have := HK2.out; omega
                    case rel => exact ⟨(wrap64 (x61_2 + 1)), (by first | rfl | (simp; done) | (simp [*]; done)), H', ⟨by have := HJ8.out; have := HK2.out; omega⟩, ⟨by (with_reducible repeat (first | apply Kd.R_alloc | apply Kd.R_drewN | apply Kd.R_drew)); exact HO_6.out⟩, ⟨by (with_reducible repeat (first | apply Kd.R_alloc | apply Kd.R_drewN | apply Kd.R_drew)); exact HO_403002.out⟩, ⟨by (with_reducible repeat (first | apply Kd.R_alloc | apply Kd.R_drewN | apply Kd.R_drew)); exact HO_403003.out⟩, ⟨by (with_reducible repeat (first | apply Kd.R_alloc | apply Kd.R_drewN | apply Kd.R_drew)); exact HO_403006.out⟩, ⟨by (with_reducible repeat (first | apply Kd.R_alloc | apply Kd.R_drewN | apply Kd.R_drew)); exact HO_403007.out⟩, ⟨by (with_reducible repeat (first | refine blk_drewN ?_ _ | refine blk_drew ?_ | refine blk_alloc ?_ _)); exact BK402.out⟩, ⟨by repeat (first | (with_reducible first | exact HB.out | apply below_alloc | apply pw_below_drewN | apply below_drew1 | refine below_set ?_ GE402.out) | exact HB.out)⟩⟩
                  ·
                   rw [if_neg c49] at H
                   exact absurd (Option.some.inj H) (by rw [HR_.out]; decide)
               ·
                rw [if_neg c43] at H
                have c43b0 : decide (0 < (rd l0 x61_2)) = false := decide_eq_false c43
                clear c43
                by_cases c54 : (rd t403 x61_2) = t393
                ·
                 rw [if_pos c54] at H
                 have c54b0 : ((rd t403 x61_2) == t393) = true := beq_iff_eq.mpr c54
                 have c54b1 : ((rd t403 x61_2) != t393) = false := bne_eq_false_iff_eq.mpr c54
                 clear c54
                 focus
                  have H' := Aside0.mk H
                  clear H
                  have p409 : 0 ≤ (x61_2 : Int) := of_decide_eq_true (by first | (with_reducible assumption) | assumption)
                  have q409 : x61_2 < (l0.length : Int) := of_decide_eq_true (by first | (with_reducible assumption) | assumption)
                  obtain ⟨ad409, e409, hx409_0⟩ := Kd.at_int HR0.out x61_2 p409 q409
                  cases e409
                  replace hx409_0 := (HB.out.cell (World.block_lt_of_cell? w _ hx409_0)).trans hx409_0
                  replace p409 := eq_true p409
                  replace q409 := eq_true q409
                  obtain ⟨Ao55, co55, eo55⟩ := Kd.R_slice HO_6.out
                  subst eo55
                  have p410 : 0 ≤ (x61_2 : Int) := of_decide_eq_true (by first | (with_reducible assumption) | assumption)
                  have q410 : x61_2 < (t403.length : Int) := of_decide_eq_true (by first | (with_reducible assumption) | assumption)
                  obtain ⟨ad410, e410, hx410_0⟩ := Kd.at_int (Kd.R_reads' HO_6.out).2.2 x61_2 p410 q410
                  cases e410
                  replace p410 := eq_true p410
                  replace q410 := eq_true q410
                  have p414 : 0 ≤ (x61_2 : Int) := of_decide_eq_true (by first | (with_reducible assumption) | assumption)
                  have q414 : x61_2 < (t403.length : Int) := of_decide_eq_true (by first | (with_reducible assumption) | assumption)
                  obtain ⟨ad414, e414, hx414_0⟩ := Kd.at_int (Kd.R_reads' HO_6.out).2.2 x61_2 p414 q414
                  obtain rfl : ad410 = ad414 := (by injection e414)
                  replace p414 := eq_true p414
                  replace q414 := eq_true q414
                  have hcz56_0 : wr.cell? ⟨gb402, 0, none⟩ = some (.int .i64 t385) := (blk_cell BK402.out 0).trans rfl
                  have hcz56_1 : wr.cell? ⟨gb402, 1, none⟩ = some (.int .i64 t386) := (blk_cell BK402.out 1).trans rfl
                  have hcz56_2 : wr.cell? ⟨gb402, 2, none⟩ = some (.slice Ao15 t387.length co15) := (blk_cell BK402.out 2).trans rfl
                  have hcz56_3 : wr.cell? ⟨gb402, 3, none⟩ = some (.slice Ao16 t390.length co16) := (blk_cell BK402.out 3).trans rfl
                  have hcz56_4 : wr.cell? ⟨gb402, 4, none⟩ = some (.int .i64 t393) := (blk_cell BK402.out 4).trans rfl
                  have hcz56_5 : wr.cell? ⟨gb402, 5, none⟩ = some (.int .i64 t394) := (blk_cell BK402.out 5).trans rfl
                  have hcz56_6 : wr.cell? ⟨gb402, 6, none⟩ = some (.slice Ao17 t395.length co17) := (blk_cell BK402.out 6).trans rfl
                  have hcz56_7 : wr.cell? ⟨gb402, 7, none⟩ = some (.slice Ao18 t398.length co18) := (blk_cell BK402.out 7).trans rfl
                  have hfz56_0 := blk_frozen BK402.out 0
                  have hfz56_1 := blk_frozen BK402.out 1
                  have hfz56_2 := blk_frozen BK402.out 2
                  have hfz56_3 := blk_frozen BK402.out 3
                  have hfz56_4 := blk_frozen BK402.out 4
                  have hfz56_5 := blk_frozen BK402.out 5
                  have hfz56_6 := blk_frozen BK402.out 6
                  have hfz56_7 := blk_frozen BK402.out 7
                  go_wp2
                  repeat (go_quiet (fail); try go_wp2)
                  go_roundg k2
                  case measure => have := HJ8.out; have := HK2.out; omega
                  case rel => exact ⟨(wrap64 (x61_2 + 1)), (by first | rfl | (simp; done) | (simp [*]; done)), H', ⟨by have := HJ8.out; have := HK2.out; omega⟩, ⟨by (with_reducible repeat (first | apply Kd.R_alloc | apply Kd.R_drewN | apply Kd.R_drew)); exact HO_6.out⟩, ⟨by (with_reducible repeat (first | apply Kd.R_alloc | apply Kd.R_drewN | apply Kd.R_drew)); exact HO_403002.out⟩, ⟨by (with_reducible repeat (first | apply Kd.R_alloc | apply Kd.R_drewN | apply Kd.R_drew)); exact HO_403003.out⟩, ⟨by (with_reducible repeat (first | apply Kd.R_alloc | apply Kd.R_drewN | apply Kd.R_drew)); exact HO_403006.out⟩, ⟨by (with_reducible repeat (first | apply Kd.R_alloc | apply Kd.R_drewN | apply Kd.R_drew)); exact HO_403007.out⟩, ⟨by (with_reducible repeat (first | refine blk_drewN ?_ _ | refine blk_drew ?_ | refine blk_alloc ?_ _)); exact BK402.out⟩, ⟨by repeat (first | (with_reducible first | exact HB.out | apply below_alloc | apply pw_below_drewN | apply below_drew1 | refine below_set ?_ GE402.out) | exact HB.out)⟩⟩
                ·
                 rw [if_neg c54] at H
                 have c54b0 : ((rd t403 x61_2) == t393) = false := beq_eq_false_iff_ne.mpr c54
                 have c54b1 : ((rd t403 x61_2) != t393) = true := bne_iff_ne.mpr c54
                 by_cases c57 : (rd t403 x61_2) = (wrap64 (-t393))
                 ·
                  rw [if_pos c57] at H
                  have c57b0 : ((rd t403 x61_2) == (wrap64 (-t393))) = true := beq_iff_eq.mpr c57
                  have c57b1 : ((rd t403 x61_2) != (wrap64 (-t393))) = false := bne_eq_false_iff_eq.mpr c57
                  clear c57
                  focus
                   have H' := Aside0.mk H
                   clear H
                   have p409 : 0 ≤ (x61_2 : Int) := of_decide_eq_true (by first | (with_reducible assumption) | assumption)
                   have q409 : x61_2 < (l0.length : Int) := of_decide_eq_true (by first | (with_reducible assumption) | assumption)
                   obtain ⟨ad409, e409, hx409_0⟩ := Kd.at_int HR0.out x61_2 p409 q409
                   cases e409
                   replace hx409_0 := (HB.out.cell (World.block_lt_of_cell? w _ hx409_0)).trans hx409_0
                   replace p409 := eq_true p409
                   replace q409 := eq_true q409
                   obtain ⟨Ao58, co58, eo58⟩ := Kd.R_slice HO_6.out
                   subst eo58
                   have p410 : 0 ≤ (x61_2 : Int) := of_decide_eq_true (by first | (with_reducible assumption) | assumption)
                   have q410 : x61_2 < (t403.length : Int) := of_decide_eq_true (by first | (with_reducible assumption) | assumption)
                   obtain ⟨ad410, e410, hx410_0⟩ := Kd.at_int (Kd.R_reads' HO_6.out).2.2 x61_2 p410 q410
                   cases e410
                   replace p410 := eq_true p410
                   replace q410 := eq_true q410
                   have p414 : 0 ≤ (x61_2 : Int) := of_decide_eq_true (by first | (with_reducible assumption) | assumption)
                   have q414 : x61_2 < (t403.length : Int) := of_decide_eq_true (by first | (with_reducible assumption) | assumption)
                   obtain ⟨ad414, e414, hx414_0⟩ := Kd.at_int (Kd.R_reads' HO_6.out).2.2 x61_2 p414 q414
                   obtain rfl : ad410 = ad414 := (by injection e414)
                   replace p414 := eq_true p414
                   replace q414 := eq_true q414
                   have hcz59_0 : wr.cell? ⟨gb402, 0, none⟩ = some (.int .i64 t385) := (blk_cell BK402.out 0).trans rfl
                   have hcz59_1 : wr.cell? ⟨gb402, 1, none⟩ = some (.int .i64 t386) := (blk_cell BK402.out 1).trans rfl
                   have hcz59_2 : wr.cell? ⟨gb402, 2, none⟩ = some (.slice Ao15 t387.length co15) := (blk_cell BK402.out 2).trans rfl
                   have hcz59_3 : wr.cell? ⟨gb402, 3, none⟩ = some (.slice Ao16 t390.length co16) := (blk_cell BK402.out 3).trans rfl
                   have hcz59_4 : wr.cell? ⟨gb402, 4, none⟩ = some (.int .i64 t393) := (blk_cell BK402.out 4).trans rfl
                   have hcz59_5 : wr.cell? ⟨gb402, 5, none⟩ = some (.int .i64 t394) := (blk_cell BK402.out 5).trans rfl
                   have hcz59_6 : wr.cell? ⟨gb402, 6, none⟩ = some (.slice Ao17 t395.length co17) := (blk_cell BK402.out 6).trans rfl
                   have hcz59_7 : wr.cell? ⟨gb402, 7, none⟩ = some (.slice Ao18 t398.length co18) := (blk_cell BK402.out 7).trans rfl
                   have hfz59_0 := blk_frozen BK402.out 0
                   have hfz59_1 := blk_frozen BK402.out 1
                   have hfz59_2 := blk_frozen BK402.out 2
                   have hfz59_3 := blk_frozen BK402.out 3
                   have hfz59_4 := blk_frozen BK402.out 4
                   have hfz59_5 := blk_frozen BK402.out 5
                   have hfz59_6 := blk_frozen BK402.out 6
                   have hfz59_7 := blk_frozen BK402.out 7
                   have p415 : 0 ≤ (x61_2 : Int) := of_decide_eq_true (by first | (with_reducible assumption) | assumption)
                   have q415 : x61_2 < (t403.length : Int) := of_decide_eq_true (by first | (with_reducible assumption) | assumption)
                   obtain ⟨ad415, e415, hx415_0⟩ := Kd.at_int (Kd.R_reads' HO_6.out).2.2 x61_2 p415 q415
                   obtain rfl : ad410 = ad415 := (by injection e415)
                   replace p415 := eq_true p415
                   replace q415 := eq_true q415
                   go_wp2
                   repeat (go_quiet (fail); try go_wp2)
                   go_roundg k2
                   case measure => have := HJ8.out; have := HK2.out; omega
                   case rel => exact ⟨(wrap64 (x61_2 + 1)), (by first | rfl | (simp; done) | (simp [*]; done)), H', ⟨by have := HJ8.out; have := HK2.out; omega⟩, ⟨by (with_reducible repeat (first | apply Kd.R_alloc | apply Kd.R_drewN | apply Kd.R_drew)); exact HO_6.out⟩, ⟨by (with_reducible repeat (first | apply Kd.R_alloc | apply Kd.R_drewN | apply Kd.R_drew)); exact HO_403002.out⟩, ⟨by (with_reducible repeat (first | apply Kd.R_alloc | apply Kd.R_drewN | apply Kd.R_drew)); exact HO_403003.out⟩, ⟨by (with_reducible repeat (first | apply Kd.R_alloc | apply Kd.R_drewN | apply Kd.R_drew)); exact HO_403006.out⟩, ⟨by (with_reducible repeat (first | apply Kd.R_alloc | apply Kd.R_drewN | apply Kd.R_drew)); exact HO_403007.out⟩, ⟨by (with_reducible repeat (first | refine blk_drewN ?_ _ | refine blk_drew ?_ | refine blk_alloc ?_ _)); exact BK402.out⟩, ⟨by repeat (first | (with_reducible first | exact HB.out | apply below_alloc | apply pw_below_drewN | apply below_drew1 | refine below_set ?_ GE402.out) | exact HB.out)⟩⟩
                 ·
                  rw [if_neg c57] at H
                  exact absurd (Option.some.inj H) (by rw [HR_.out]; decide)
             ·
              rw [if_neg c40] at H
              exact absurd H (by simp)
            ·
             rw [if_neg c39] at H
             have c39b0 : decide ((rd l0 x61_2) < 0) = false := decide_eq_false c39
             clear c39
             by_cases c62 : (rd l0 x61_2) > 0
             ·
              rw [if_pos c62] at H
              have c62b0 : decide (0 < (rd l0 x61_2)) = true := decide_eq_true c62
              clear c62
              by_cases c63 : x61_2 < (t403.length : Int)
              ·
               rw [if_pos c63] at H
               have c63b0 : decide (x61_2 < (t403.length : Int)) = true := decide_eq_true c63
               clear c63
               by_cases c64 : (rd t403 x61_2) < 0
               ·
                rw [if_pos c64] at H
                exact absurd (Option.some.inj H) (by rw [HR_.out]; decide)
               ·
                rw [if_neg c64] at H
                have c64b0 : decide ((rd t403 x61_2) < 0) = false := decide_eq_false c64
                clear c64
                by_cases c66 : (rd t403 x61_2) = t393
                ·
                 rw [if_pos c66] at H
                 have c66b0 : ((rd t403 x61_2) == t393) = true := beq_iff_eq.mpr c66
                 have c66b1 : ((rd t403 x61_2) != t393) = false := bne_eq_false_iff_eq.mpr c66
                 clear c66
                 focus
                  have H' := Aside0.mk H
                  clear H
                  have p409 : 0 ≤ (x61_2 : Int) := of_decide_eq_true (by first | (with_reducible assumption) | assumption)
                  have q409 : x61_2 < (l0.length : Int) := of_decide_eq_true (by first | (with_reducible assumption) | assumption)
                  obtain ⟨ad409, e409, hx409_0⟩ := Kd.at_int HR0.out x61_2 p409 q409
                  cases e409
                  replace hx409_0 := (HB.out.cell (World.block_lt_of_cell? w _ hx409_0)).trans hx409_0
                  replace p409 := eq_true p409
                  replace q409 := eq_true q409
                  obtain ⟨Ao67, co67, eo67⟩ := Kd.R_slice HO_6.out
                  subst eo67
                  have p416 : 0 ≤ (x61_2 : Int) := of_decide_eq_true (by first | (with_reducible assumption) | assumption)
                  have q416 : x61_2 < (t403.length : Int) := of_decide_eq_true (by first | (with_reducible assumption) | assumption)
                  obtain ⟨ad416, e416, hx416_0⟩ := Kd.at_int (Kd.R_reads' HO_6.out).2.2 x61_2 p416 q416
                  cases e416
                  replace p416 := eq_true p416
                  replace q416 := eq_true q416
                  have p417 : 0 ≤ (x61_2 : Int) := of_decide_eq_true (by first | (with_reducible assumption) | assumption)
                  have q417 : x61_2 < (t403.length : Int) := of_decide_eq_true (by first | (with_reducible assumption) | assumption)
                  obtain ⟨ad417, e417, hx417_0⟩ := Kd.at_int (Kd.R_reads' HO_6.out).2.2 x61_2 p417 q417
                  obtain rfl : ad416 = ad417 := (by injection e417)
                  replace p417 := eq_true p417
                  replace q417 := eq_true q417
                  have hcz68_0 : wr.cell? ⟨gb402, 0, none⟩ = some (.int .i64 t385) := (blk_cell BK402.out 0).trans rfl
                  have hcz68_1 : wr.cell? ⟨gb402, 1, none⟩ = some (.int .i64 t386) := (blk_cell BK402.out 1).trans rfl
                  have hcz68_2 : wr.cell? ⟨gb402, 2, none⟩ = some (.slice Ao15 t387.length co15) := (blk_cell BK402.out 2).trans rfl
                  have hcz68_3 : wr.cell? ⟨gb402, 3, none⟩ = some (.slice Ao16 t390.length co16) := (blk_cell BK402.out 3).trans rfl
                  have hcz68_4 : wr.cell? ⟨gb402, 4, none⟩ = some (.int .i64 t393) := (blk_cell BK402.out 4).trans rfl
                  have hcz68_5 : wr.cell? ⟨gb402, 5, none⟩ = some (.int .i64 t394) := (blk_cell BK402.out 5).trans rfl
                  have hcz68_6 : wr.cell? ⟨gb402, 6, none⟩ = some (.slice Ao17 t395.length co17) := (blk_cell BK402.out 6).trans rfl
                  have hcz68_7 : wr.cell? ⟨gb402, 7, none⟩ = some (.slice Ao18 t398.length co18) := (blk_cell BK402.out 7).trans rfl
                  have hfz68_0 := blk_frozen BK402.out 0
                  have hfz68_1 := blk_frozen BK402.out 1
                  have hfz68_2 := blk_frozen BK402.out 2
                  have hfz68_3 := blk_frozen BK402.out 3
                  have hfz68_4 := blk_frozen BK402.out 4
                  have hfz68_5 := blk_frozen BK402.out 5
                  have hfz68_6 := blk_frozen BK402.out 6
                  have hfz68_7 := blk_frozen BK402.out 7
                  go_wp2
                  repeat (go_quiet (fail); try go_wp2)
                  go_roundg k2
                  case measure => have := HJ8.out; have := HK2.out; omega
                  case rel => exact ⟨(wrap64 (x61_2 + 1)), (by first | rfl | (simp; done) | (simp [*]; done)), H', ⟨by have := HJ8.out; have := HK2.out; omega⟩, ⟨by (with_reducible repeat (first | apply Kd.R_alloc | apply Kd.R_drewN | apply Kd.R_drew)); exact HO_6.out⟩, ⟨by (with_reducible repeat (first | apply Kd.R_alloc | apply Kd.R_drewN | apply Kd.R_drew)); exact HO_403002.out⟩, ⟨by (with_reducible repeat (first | apply Kd.R_alloc | apply Kd.R_drewN | apply Kd.R_drew)); exact HO_403003.out⟩, ⟨by (with_reducible repeat (first | apply Kd.R_alloc | apply Kd.R_drewN | apply Kd.R_drew)); exact HO_403006.out⟩, ⟨by (with_reducible repeat (first | apply Kd.R_alloc | apply Kd.R_drewN | apply Kd.R_drew)); exact HO_403007.out⟩, ⟨by (with_reducible repeat (first | refine blk_drewN ?_ _ | refine blk_drew ?_ | refine blk_alloc ?_ _)); exact BK402.out⟩, ⟨by repeat (first | (with_reducible first | exact HB.out | apply below_alloc | apply pw_below_drewN | apply below_drew1 | refine below_set ?_ GE402.out) | exact HB.out)⟩⟩
                ·
                 rw [if_neg c66] at H
                 have c66b0 : ((rd t403 x61_2) == t393) = false := beq_eq_false_iff_ne.mpr c66
                 have c66b1 : ((rd t403 x61_2) != t393) = true := bne_iff_ne.mpr c66
                 by_cases c69 : (rd t403 x61_2) = (wrap64 (-t393))
                 ·
                  rw [if_pos c69] at H
                  have c69b0 : ((rd t403 x61_2) == (wrap64 (-t393))) = true := beq_iff_eq.mpr c69
                  have c69b1 : ((rd t403 x61_2) != (wrap64 (-t393))) = false := bne_eq_false_iff_eq.mpr c69
                  clear c69
                  focus
                   have H' := Aside0.mk H
                   clear H
                   have p409 : 0 ≤ (x61_2 : Int) := of_decide_eq_true (by first | (with_reducible assumption) | assumption)
                   have q409 : x61_2 < (l0.length : Int) := of_decide_eq_true (by first | (with_reducible assumption) | assumption)
                   obtain ⟨ad409, e409, hx409_0⟩ := Kd.at_int HR0.out x61_2 p409 q409
                   cases e409
                   replace hx409_0 := (HB.out.cell (World.block_lt_of_cell? w _ hx409_0)).trans hx409_0
                   replace p409 := eq_true p409
                   replace q409 := eq_true q409
                   obtain ⟨Ao70, co70, eo70⟩ := Kd.R_slice HO_6.out
                   subst eo70
                   have p416 : 0 ≤ (x61_2 : Int) := of_decide_eq_true (by first | (with_reducible assumption) | assumption)
                   have q416 : x61_2 < (t403.length : Int) := of_decide_eq_true (by first | (with_reducible assumption) | assumption)
                   obtain ⟨ad416, e416, hx416_0⟩ := Kd.at_int (Kd.R_reads' HO_6.out).2.2 x61_2 p416 q416
                   cases e416
                   replace p416 := eq_true p416
                   replace q416 := eq_true q416
                   have p417 : 0 ≤ (x61_2 : Int) := of_decide_eq_true (by first | (with_reducible assumption) | assumption)
                   have q417 : x61_2 < (t403.length : Int) := of_decide_eq_true (by first | (with_reducible assumption) | assumption)
                   obtain ⟨ad417, e417, hx417_0⟩ := Kd.at_int (Kd.R_reads' HO_6.out).2.2 x61_2 p417 q417
                   obtain rfl : ad416 = ad417 := (by injection e417)
                   replace p417 := eq_true p417
                   replace q417 := eq_true q417
                   have hcz71_0 : wr.cell? ⟨gb402, 0, none⟩ = some (.int .i64 t385) := (blk_cell BK402.out 0).trans rfl
                   have hcz71_1 : wr.cell? ⟨gb402, 1, none⟩ = some (.int .i64 t386) := (blk_cell BK402.out 1).trans rfl
                   have hcz71_2 : wr.cell? ⟨gb402, 2, none⟩ = some (.slice Ao15 t387.length co15) := (blk_cell BK402.out 2).trans rfl
                   have hcz71_3 : wr.cell? ⟨gb402, 3, none⟩ = some (.slice Ao16 t390.length co16) := (blk_cell BK402.out 3).trans rfl
                   have hcz71_4 : wr.cell? ⟨gb402, 4, none⟩ = some (.int .i64 t393) := (blk_cell BK402.out 4).trans rfl
                   have hcz71_5 : wr.cell? ⟨gb402, 5, none⟩ = some (.int .i64 t394) := (blk_cell BK402.out 5).trans rfl
                   have hcz71_6 : wr.cell? ⟨gb402, 6, none⟩ = some (.slice Ao17 t395.length co17) := (blk_cell BK402.out 6).trans rfl
                   have hcz71_7 : wr.cell? ⟨gb402, 7, none⟩ = some (.slice Ao18 t398.length co18) := (blk_cell BK402.out 7).trans rfl
                   have hfz71_0 := blk_frozen BK402.out 0
                   have hfz71_1 := blk_frozen BK402.out 1
                   have hfz71_2 := blk_frozen BK402.out 2
                   have hfz71_3 := blk_frozen BK402.out 3
                   have hfz71_4 := blk_frozen BK402.out 4
                   have hfz71_5 := blk_frozen BK402.out 5
                   have hfz71_6 := blk_frozen BK402.out 6
                   have hfz71_7 := blk_frozen BK402.out 7
                   have p418 : 0 ≤ (x61_2 : Int) := of_decide_eq_true (by first | (with_reducible assumption) | assumption)
                   have q418 : x61_2 < (t403.length : Int) := of_decide_eq_true (by first | (with_reducible assumption) | assumption)
                   obtain ⟨ad418, e418, hx418_0⟩ := Kd.at_int (Kd.R_reads' HO_6.out).2.2 x61_2 p418 q418
                   obtain rfl : ad416 = ad418 := (by injection e418)
                   replace p418 := eq_true p418
                   replace q418 := eq_true q418
                   go_wp2
                   repeat (go_quiet (fail); try go_wp2)
                   go_roundg k2
                   case measure => have := HJ8.out; have := HK2.out; omega
                   case rel => exact ⟨(wrap64 (x61_2 + 1)), (by first | rfl | (simp; done) | (simp [*]; done)), H', ⟨by have := HJ8.out; have := HK2.out; omega⟩, ⟨by (with_reducible repeat (first | apply Kd.R_alloc | apply Kd.R_drewN | apply Kd.R_drew)); exact HO_6.out⟩, ⟨by (with_reducible repeat (first | apply Kd.R_alloc | apply Kd.R_drewN | apply Kd.R_drew)); exact HO_403002.out⟩, ⟨by (with_reducible repeat (first | apply Kd.R_alloc | apply Kd.R_drewN | apply Kd.R_drew)); exact HO_403003.out⟩, ⟨by (with_reducible repeat (first | apply Kd.R_alloc | apply Kd.R_drewN | apply Kd.R_drew)); exact HO_403006.out⟩, ⟨by (with_reducible repeat (first | apply Kd.R_alloc | apply Kd.R_drewN | apply Kd.R_drew)); exact HO_403007.out⟩, ⟨by (with_reducible repeat (first | refine blk_drewN ?_ _ | refine blk_drew ?_ | refine blk_alloc ?_ _)); exact BK402.out⟩, ⟨by repeat (first | (with_reducible first | exact HB.out | apply below_alloc | apply pw_below_drewN | apply below_drew1 | refine below_set ?_ GE402.out) | exact HB.out)⟩⟩
                 ·
                  rw [if_neg c69] at H
                  exact absurd (Option.some.inj H) (by rw [HR_.out]; decide)
              ·
               rw [if_neg c63] at H
               exact absurd H (by simp)
             ·
              rw [if_neg c62] at H
              have c62b0 : decide (0 < (rd l0 x61_2)) = false := decide_eq_false c62
              clear c62
              by_cases c74 : x61_2 < (t403.length : Int)
              ·
               rw [if_pos c74] at H
               have c74b0 : decide (x61_2 < (t403.length : Int)) = true := decide_eq_true c74
               clear c74
               by_cases c75 : (rd t403 x61_2) = t393
               ·
                rw [if_pos c75] at H
                have c75b0 : ((rd t403 x61_2) == t393) = true := beq_iff_eq.mpr c75
                have c75b1 : ((rd t403 x61_2) != t393) = false := bne_eq_false_iff_eq.mpr c75
                clear c75
                focus
                 have H' := Aside0.mk H
                 clear H
                 have p409 : 0 ≤ (x61_2 : Int) := of_decide_eq_true (by first | (with_reducible assumption) | assumption)
                 have q409 : x61_2 < (l0.length : Int) := of_decide_eq_true (by first | (with_reducible assumption) | assumption)
                 obtain ⟨ad409, e409, hx409_0⟩ := Kd.at_int HR0.out x61_2 p409 q409
                 cases e409
                 replace hx409_0 := (HB.out.cell (World.block_lt_of_cell? w _ hx409_0)).trans hx409_0
                 replace p409 := eq_true p409
                 replace q409 := eq_true q409
                 obtain ⟨Ao76, co76, eo76⟩ := Kd.R_slice HO_6.out
                 subst eo76
                 have p419 : 0 ≤ (x61_2 : Int) := of_decide_eq_true (by first | (with_reducible assumption) | assumption)
                 have q419 : x61_2 < (t403.length : Int) := of_decide_eq_true (by first | (with_reducible assumption) | assumption)
                 obtain ⟨ad419, e419, hx419_0⟩ := Kd.at_int (Kd.R_reads' HO_6.out).2.2 x61_2 p419 q419
                 cases e419
                 replace p419 := eq_true p419
                 replace q419 := eq_true q419
                 have hcz77_0 : wr.cell? ⟨gb402, 0, none⟩ = some (.int .i64 t385) := (blk_cell BK402.out 0).trans rfl
                 have hcz77_1 : wr.cell? ⟨gb402, 1, none⟩ = some (.int .i64 t386) := (blk_cell BK402.out 1).trans rfl
                 have hcz77_2 : wr.cell? ⟨gb402, 2, none⟩ = some (.slice Ao15 t387.length co15) := (blk_cell BK402.out 2).trans rfl
                 have hcz77_3 : wr.cell? ⟨gb402, 3, none⟩ = some (.slice Ao16 t390.length co16) := (blk_cell BK402.out 3).trans rfl
                 have hcz77_4 : wr.cell? ⟨gb402, 4, none⟩ = some (.int .i64 t393) := (blk_cell BK402.out 4).trans rfl
                 have hcz77_5 : wr.cell? ⟨gb402, 5, none⟩ = some (.int .i64 t394) := (blk_cell BK402.out 5).trans rfl
                 have hcz77_6 : wr.cell? ⟨gb402, 6, none⟩ = some (.slice Ao17 t395.length co17) := (blk_cell BK402.out 6).trans rfl
                 have hcz77_7 : wr.cell? ⟨gb402, 7, none⟩ = some (.slice Ao18 t398.length co18) := (blk_cell BK402.out 7).trans rfl
                 have hfz77_0 := blk_frozen BK402.out 0
                 have hfz77_1 := blk_frozen BK402.out 1
                 have hfz77_2 := blk_frozen BK402.out 2
                 have hfz77_3 := blk_frozen BK402.out 3
                 have hfz77_4 := blk_frozen BK402.out 4
                 have hfz77_5 := blk_frozen BK402.out 5
                 have hfz77_6 := blk_frozen BK402.out 6
                 have hfz77_7 := blk_frozen BK402.out 7
                 go_wp2
                 repeat (go_quiet (fail); try go_wp2)
                 go_roundg k2
                 case measure => have := HJ8.out; have := HK2.out; omega
                 case rel => exact ⟨(wrap64 (x61_2 + 1)), (by first | rfl | (simp; done) | (simp [*]; done)), H', ⟨by have := HJ8.out; have := HK2.out; omega⟩, ⟨by (with_reducible repeat (first | apply Kd.R_alloc | apply Kd.R_drewN | apply Kd.R_drew)); exact HO_6.out⟩, ⟨by (with_reducible repeat (first | apply Kd.R_alloc | apply Kd.R_drewN | apply Kd.R_drew)); exact HO_403002.out⟩, ⟨by (with_reducible repeat (first | apply Kd.R_alloc | apply Kd.R_drewN | apply Kd.R_drew)); exact HO_403003.out⟩, ⟨by (with_reducible repeat (first | apply Kd.R_alloc | apply Kd.R_drewN | apply Kd.R_drew)); exact HO_403006.out⟩, ⟨by (with_reducible repeat (first | apply Kd.R_alloc | apply Kd.R_drewN | apply Kd.R_drew)); exact HO_403007.out⟩, ⟨by (with_reducible repeat (first | refine blk_drewN ?_ _ | refine blk_drew ?_ | refine blk_alloc ?_ _)); exact BK402.out⟩, ⟨by repeat (first | (with_reducible first | exact HB.out | apply below_alloc | apply pw_below_drewN | apply below_drew1 | refine below_set ?_ GE402.out) | exact HB.out)⟩⟩
               ·
                rw [if_neg c75] at H
                have c75b0 : ((rd t403 x61_2) == t393) = false := beq_eq_false_iff_ne.mpr c75
                have c75b1 : ((rd t403 x61_2) != t393) = true := bne_iff_ne.mpr c75
                by_cases c78 : (rd t403 x61_2) = (wrap64 (-t393))
                ·
                 rw [if_pos c78] at H
                 have c78b0 : ((rd t403 x61_2) == (wrap64 (-t393))) = true := beq_iff_eq.mpr c78
                 have c78b1 : ((rd t403 x61_2) != (wrap64 (-t393))) = false := bne_eq_false_iff_eq.mpr c78
                 clear c78
                 focus
                  have H' := Aside0.mk H
                  clear H
                  have p409 : 0 ≤ (x61_2 : Int) := of_decide_eq_true (by first | (with_reducible assumption) | assumption)
                  have q409 : x61_2 < (l0.length : Int) := of_decide_eq_true (by first | (with_reducible assumption) | assumption)
                  obtain ⟨ad409, e409, hx409_0⟩ := Kd.at_int HR0.out x61_2 p409 q409
                  cases e409
                  replace hx409_0 := (HB.out.cell (World.block_lt_of_cell? w _ hx409_0)).trans hx409_0
                  replace p409 := eq_true p409
                  replace q409 := eq_true q409
                  obtain ⟨Ao79, co79, eo79⟩ := Kd.R_slice HO_6.out
                  subst eo79
                  have p419 : 0 ≤ (x61_2 : Int) := of_decide_eq_true (by first | (with_reducible assumption) | assumption)
                  have q419 : x61_2 < (t403.length : Int) := of_decide_eq_true (by first | (with_reducible assumption) | assumption)
                  obtain ⟨ad419, e419, hx419_0⟩ := Kd.at_int (Kd.R_reads' HO_6.out).2.2 x61_2 p419 q419
                  cases e419
                  replace p419 := eq_true p419
                  replace q419 := eq_true q419
                  have hcz80_0 : wr.cell? ⟨gb402, 0, none⟩ = some (.int .i64 t385) := (blk_cell BK402.out 0).trans rfl
                  have hcz80_1 : wr.cell? ⟨gb402, 1, none⟩ = some (.int .i64 t386) := (blk_cell BK402.out 1).trans rfl
                  have hcz80_2 : wr.cell? ⟨gb402, 2, none⟩ = some (.slice Ao15 t387.length co15) := (blk_cell BK402.out 2).trans rfl
                  have hcz80_3 : wr.cell? ⟨gb402, 3, none⟩ = some (.slice Ao16 t390.length co16) := (blk_cell BK402.out 3).trans rfl
                  have hcz80_4 : wr.cell? ⟨gb402, 4, none⟩ = some (.int .i64 t393) := (blk_cell BK402.out 4).trans rfl
                  have hcz80_5 : wr.cell? ⟨gb402, 5, none⟩ = some (.int .i64 t394) := (blk_cell BK402.out 5).trans rfl
                  have hcz80_6 : wr.cell? ⟨gb402, 6, none⟩ = some (.slice Ao17 t395.length co17) := (blk_cell BK402.out 6).trans rfl
                  have hcz80_7 : wr.cell? ⟨gb402, 7, none⟩ = some (.slice Ao18 t398.length co18) := (blk_cell BK402.out 7).trans rfl
                  have hfz80_0 := blk_frozen BK402.out 0
                  have hfz80_1 := blk_frozen BK402.out 1
                  have hfz80_2 := blk_frozen BK402.out 2
                  have hfz80_3 := blk_frozen BK402.out 3
                  have hfz80_4 := blk_frozen BK402.out 4
                  have hfz80_5 := blk_frozen BK402.out 5
                  have hfz80_6 := blk_frozen BK402.out 6
                  have hfz80_7 := blk_frozen BK402.out 7
                  have p420 : 0 ≤ (x61_2 : Int) := of_decide_eq_true (by first | (with_reducible assumption) | assumption)
                  have q420 : x61_2 < (t403.length : Int) := of_decide_eq_true (by first | (with_reducible assumption) | assumption)
                  obtain ⟨ad420, e420, hx420_0⟩ := Kd.at_int (Kd.R_reads' HO_6.out).2.2 x61_2 p420 q420
                  obtain rfl : ad419 = ad420 := (by injection e420)
                  replace p420 := eq_true p420
                  replace q420 := eq_true q420
                  go_wp2
                  repeat (go_quiet (fail); try go_wp2)
                  go_roundg k2
                  case measure => have := HJ8.out; have := HK2.out; omega
                  case rel => exact ⟨(wrap64 (x61_2 + 1)), (by first | rfl | (simp; done) | (simp [*]; done)), H', ⟨by have := HJ8.out; have := HK2.out; omega⟩, ⟨by (with_reducible repeat (first | apply Kd.R_alloc | apply Kd.R_drewN | apply Kd.R_drew)); exact HO_6.out⟩, ⟨by (with_reducible repeat (first | apply Kd.R_alloc | apply Kd.R_drewN | apply Kd.R_drew)); exact HO_403002.out⟩, ⟨by (with_reducible repeat (first | apply Kd.R_alloc | apply Kd.R_drewN | apply Kd.R_drew)); exact HO_403003.out⟩, ⟨by (with_reducible repeat (first | apply Kd.R_alloc | apply Kd.R_drewN | apply Kd.R_drew)); exact HO_403006.out⟩, ⟨by (with_reducible repeat (first | apply Kd.R_alloc | apply Kd.R_drewN | apply Kd.R_drew)); exact HO_403007.out⟩, ⟨by (with_reducible repeat (first | refine blk_drewN ?_ _ | refine blk_drew ?_ | refine blk_alloc ?_ _)); exact BK402.out⟩, ⟨by repeat (first | (with_reducible first | exact HB.out | apply below_alloc | apply pw_below_drewN | apply below_drew1 | refine below_set ?_ GE402.out) | exact HB.out)⟩⟩
                ·
                 rw [if_neg c78] at H
                 exact absurd (Option.some.inj H) (by rw [HR_.out]; decide)
              ·
               rw [if_neg c74] at H
               exact absurd H (by simp)
           ·
            rw [if_neg c38] at H
            exact absurd H (by simp)
          ·
           rw [if_neg c37] at H
           exact absurd H (by simp)
         ·
          rw [if_neg c36] at H
          have c36b0 : decide (x61_2 < (l0.length : Int)) = false := decide_eq_false c36
          clear c36
          replace H := Option.bind_eq_some_iff.mp H
          obtain ⟨⟨t421, t422⟩, A830, H⟩ := H
          replace H : ((vec_Size.f t403).bind fun bt423 => (if true = true then (if t422 = 0 then (if bt423.2 = 0 then (if bt423.1 ≤ t421 then (some (decide ((wrap64 (t421 - bt423.1)) < (l0.length : Int)))) else (some false)) else (some false)) else (some false)) else (some false))) = some r := H
          have A83 := Aside0.mk A830
          clear A830
          replace H := Option.bind_eq_some_iff.mp H
          obtain ⟨⟨t423, t424⟩, A840, H⟩ := H
          replace H : (if true = true then (if t422 = 0 then (if t424 = 0 then (if t423 ≤ t421 then (some (decide ((wrap64 (t421 - t423)) < (l0.length : Int)))) else (some false)) else (some false)) else (some false)) else (some false)) = some r := H
          have A84 := Aside0.mk A840
          clear A840
          first | rw [if_pos rfl] at H | rw [if_pos trivial] at H
          by_cases c85 : t422 = 0
          ·
           rw [if_pos c85] at H
           have c85b0 : (t422 == 0) = true := beq_iff_eq.mpr c85
           have c85b1 : (t422 != 0) = false := bne_eq_false_iff_eq.mpr c85
           clear c85
           by_cases c86 : t424 = 0
           ·
            rw [if_pos c86] at H
            have c86b0 : (t424 == 0) = true := beq_iff_eq.mpr c86
            have c86b1 : (t424 != 0) = false := bne_eq_false_iff_eq.mpr c86
            clear c86
            by_cases c87 : t423 ≤ t421
            ·
             rw [if_pos c87] at H
             have c87b0 : decide (t423 ≤ t421) = true := decide_eq_true c87
             clear c87
             focus
              obtain rfl := Option.some.inj H
              go_wp2_with (first | (go_at_call 20; (with_reducible refine (vec_Size.calls _ _ l0 t421 t422 _ ?side1 ?side2 A83.out).mono ?_); (case side1 => repeat (first | exact (Kd.C_below HR0.out HB.out) | (with_reducible refine Kd.C_alloc ?_ _) | (with_reducible refine Kd.C_drewN ?_ _) | (with_reducible refine Kd.C_drew ?_))); (case side2 => exact HC0.out); rintro e w88 ⟨rfl, hb⟩; have n0_ := Aside0.mk (Kd.R_below (by (with_reducible repeat (first | apply Kd.R_alloc | apply Kd.R_drewN | apply Kd.R_drew)); exact HO_6.out) hb); have n1_ := Aside0.mk (Kd.R_below (by (with_reducible repeat (first | apply Kd.R_alloc | apply Kd.R_drewN | apply Kd.R_drew)); exact HO_403002.out) hb); have n2_ := Aside0.mk (Kd.R_below (by (with_reducible repeat (first | apply Kd.R_alloc | apply Kd.R_drewN | apply Kd.R_drew)); exact HO_403003.out) hb); have n3_ := Aside0.mk (Kd.R_below (by (with_reducible repeat (first | apply Kd.R_alloc | apply Kd.R_drewN | apply Kd.R_drew)); exact HO_403006.out) hb); have n4_ := Aside0.mk (Kd.R_below (by (with_reducible repeat (first | apply Kd.R_alloc | apply Kd.R_drewN | apply Kd.R_drew)); exact HO_403007.out) hb); have n5_ := Aside0.mk (blk_below (g := gb402) (o := .cells #[.int .i64 t385, .int .i64 t386, .slice Ao15 t387.length co15, .slice Ao16 t390.length co16, .int .i64 t393, .int .i64 t394, .slice Ao17 t395.length co17, .slice Ao18 t398.length co18] 29 (0, 0)) (by (with_reducible repeat (first | refine blk_drewN ?_ _ | refine blk_drew ?_ | refine blk_alloc ?_ _)); exact BK402.out) hb); have n6_ := Aside0.mk (below_step (by repeat (first | (with_reducible first | exact HB.out | apply below_alloc | apply pw_below_drewN | apply below_drew1 | refine below_set ?_ GE402.out) | exact HB.out)) hb); clear HO_6; clear HO_403002; clear HO_403003; clear HO_403006; clear HO_403007; clear BK402; clear HB; have HO_6 := n0_; have HO_403002 := n1_; have HO_403003 := n2_; have HO_403006 := n3_; have HO_403007 := n4_; have BK402 := n5_; have HB := n6_; clear n0_ n1_ n2_ n3_ n4_ n5_ n6_; (try clear hb); (try clear hb2); (try clear hk); (try clear hi); obtain ⟨Ao89, co89, eo89⟩ := Kd.R_slice HO_6.out; subst eo89) | (go_at_call 20; (with_reducible refine (vec_Size.calls _ _ t403 t423 t424 _ ?side1 ?side2 A84.out).mono ?_); (case side1 => repeat (first | exact (Kd.R_reads' HO_6.out).2.2 | (with_reducible refine Kd.C_alloc ?_ _) | (with_reducible refine Kd.C_drewN ?_ _) | (with_reducible refine Kd.C_drew ?_))); (case side2 => exact (Kd.R_reads' HO_6.out).2.1); rintro e w90 ⟨rfl, hb⟩; have n0_ := Aside0.mk (Kd.R_below (by (with_reducible repeat (first | apply Kd.R_alloc | apply Kd.R_drewN | apply Kd.R_drew)); exact HO_6.out) hb); have n1_ := Aside0.mk (Kd.R_below (by (with_reducible repeat (first | apply Kd.R_alloc | apply Kd.R_drewN | apply Kd.R_drew)); exact HO_403002.out) hb); have n2_ := Aside0.mk (Kd.R_below (by (with_reducible repeat (first | apply Kd.R_alloc | apply Kd.R_drewN | apply Kd.R_drew)); exact HO_403003.out) hb); have n3_ := Aside0.mk (Kd.R_below (by (with_reducible repeat (first | apply Kd.R_alloc | apply Kd.R_drewN | apply Kd.R_drew)); exact HO_403006.out) hb); have n4_ := Aside0.mk (Kd.R_below (by (with_reducible repeat (first | apply Kd.R_alloc | apply Kd.R_drewN | apply Kd.R_drew)); exact HO_403007.out) hb); have n5_ := Aside0.mk (blk_below (g := gb402) (o := .cells #[.int .i64 t385, .int .i64 t386, .slice Ao15 t387.length co15, .slice Ao16 t390.length co16, .int .i64 t393, .int .i64 t394, .slice Ao17 t395.length co17, .slice Ao18 t398.length co18] 29 (0, 0)) (by (with_reducible repeat (first | refine blk_drewN ?_ _ | refine blk_drew ?_ | refine blk_alloc ?_ _)); exact BK402.out) hb); have n6_ := Aside0.mk (below_step (by repeat (first | (with_reducible first | exact HB.out | apply below_alloc | apply pw_below_drewN | apply below_drew1 | refine below_set ?_ GE402.out) | exact HB.out)) hb); clear HO_6; clear HO_403002; clear HO_403003; clear HO_403006; clear HO_403007; clear BK402; clear HB; have HO_6 := n0_; have HO_403002 := n1_; have HO_403003 := n2_; have HO_403006 := n3_; have HO_403007 := n4_; have BK402 := n5_; have HB := n6_; clear n0_ n1_ n2_ n3_ n4_ n5_ n6_; (try clear hb); (try clear hb2); (try clear hk); (try clear hi)))
              go_ret
              exact ⟨by first | rfl | (simp [errW_none, errW_some] <;> rfl) | (simp [*, errW_none, errW_some] <;> rfl), by repeat (first | (with_reducible first | exact HB.out | apply below_alloc | apply pw_below_drewN | apply below_drew1 | refine below_set ?_ GE402.out) | exact HB.out)⟩
            ·
             rw [if_neg c87] at H
             exact absurd (Option.some.inj H) (by rw [HR_.out]; decide)
           ·
            rw [if_neg c86] at H
            exact absurd (Option.some.inj H) (by rw [HR_.out]; decide)
          ·
           rw [if_neg c85] at H
           exact absurd (Option.some.inj H) (by rw [HR_.out]; decide)
   ·
    rw [if_neg c7] at H
    have c7b0 : (t401 == 0) = false := beq_eq_false_iff_ne.mpr c7
    have c7b1 : (t401 != 0) = true := bne_iff_ne.mpr c7
    focus
     obtain rfl := Option.some.inj H
     go_enter Try.func5, Try.ntmps5
     go_wp2_with (first | (go_at_call 6; (with_reducible refine (thrumlaw11_live.calls  true _ A2.out).mono ?_); rintro e w100 ⟨rfl, hb⟩; have n0_ := Aside0.mk (below_step (by repeat (first | (with_reducible first | exact HB.out | apply below_alloc | apply pw_below_drewN | apply below_drew1) | exact HB.out)) hb); clear HB; have HB := n0_; clear n0_; (try clear hb); (try clear hb2); (try clear hk); (try clear hi)) | (go_at_call 7; (refine (thrumlaw11_few.calls k _ _ l0 _ _ ([] : List (List Bool)) true _ ?side1 ?side2 ?side3 ?side4 A4.out).mono ?_); (case side1 => repeat (first | exact (Kd.C_below HR0.out HB.out) | (with_reducible refine Kd.C_alloc ?_ _) | (with_reducible refine Kd.C_drewN ?_ _) | (with_reducible refine Kd.C_drew ?_))); (case side2 => exact HC0.out); (case side3 => exact Kd.C_nil _ _); (case side4 => exact Nat.le_refl _); rintro e w101 ⟨rfl, hb⟩; have n0_ := Aside0.mk (below_step (by repeat (first | (with_reducible first | exact HB.out | apply below_alloc | apply pw_below_drewN | apply below_drew1) | exact HB.out)) hb); clear HB; have HB := n0_; clear n0_; (try clear hb); (try clear hb2); (try clear hk); (try clear hi)) | (go_at_call 8; (with_reducible refine (sign_Press.calls _ _ l0 t385 t386 t387 t390 t393 t394 t395 t398 t401 _ ?side1 ?side2 A6.out).mono ?_); (case side1 => repeat (first | exact (Kd.C_below HR0.out HB.out) | (with_reducible refine Kd.C_alloc ?_ _) | (with_reducible refine Kd.C_drewN ?_ _) | (with_reducible refine Kd.C_drew ?_))); (case side2 => exact HC0.out); rintro e w102 ⟨v388, v391, v396, v399, rfl, ho0, ho1, ho2, ho3, hb⟩; have n0_ := Aside0.mk (Kd.R_lower ho0 (below_size (by repeat (first | (with_reducible first | exact HB.out | apply below_alloc | apply pw_below_drewN | apply below_drew1) | exact HB.out)))); have n1_ := Aside0.mk (Kd.R_lower ho1 (below_size (by repeat (first | (with_reducible first | exact HB.out | apply below_alloc | apply pw_below_drewN | apply below_drew1) | exact HB.out)))); have n2_ := Aside0.mk (Kd.R_lower ho2 (below_size (by repeat (first | (with_reducible first | exact HB.out | apply below_alloc | apply pw_below_drewN | apply below_drew1) | exact HB.out)))); have n3_ := Aside0.mk (Kd.R_lower ho3 (below_size (by repeat (first | (with_reducible first | exact HB.out | apply below_alloc | apply pw_below_drewN | apply below_drew1) | exact HB.out)))); have n4_ := Aside0.mk (below_step (by repeat (first | (with_reducible first | exact HB.out | apply below_alloc | apply pw_below_drewN | apply below_drew1) | exact HB.out)) hb); clear HB; have HO389 := n0_; have HO392 := n1_; have HO397 := n2_; have HO400 := n3_; have HB := n4_; clear n0_ n1_ n2_ n3_ n4_; (try clear hb); (try clear hb2); (try clear hk); (try clear hi); (try clear ho0); (try clear ho1); (try clear ho2); (try clear ho3)) | ((with_reducible refine gate_dst (N := 4) rfl ?_); (try (refine gate_guard (by rfl) ?_; dsimp only)); refine box_event ?hg (N := 4) ?hd (cs := #[.int .i64 0, .int .i64 0, .slice none 0 0, .slice none 0 0, .int .i64 0, .int .i64 0, .slice none 0 0, .slice none 0 0]) (t := 29) ?hr ?_; (case hd => rfl); (case hg => rfl); (case hr => first | (go_simp; done) | (go_simp; rfl)); intro gb402 hg w103 hbox hb; have n0_ := Aside0.mk (Kd.R_below (by (with_reducible repeat (first | apply Kd.R_alloc | apply Kd.R_drewN | apply Kd.R_drew)); exact HO389.out) hb); have n1_ := Aside0.mk (Kd.R_below (by (with_reducible repeat (first | apply Kd.R_alloc | apply Kd.R_drewN | apply Kd.R_drew)); exact HO392.out) hb); have n2_ := Aside0.mk (Kd.R_below (by (with_reducible repeat (first | apply Kd.R_alloc | apply Kd.R_drewN | apply Kd.R_drew)); exact HO397.out) hb); have n3_ := Aside0.mk (Kd.R_below (by (with_reducible repeat (first | apply Kd.R_alloc | apply Kd.R_drewN | apply Kd.R_drew)); exact HO400.out) hb); have n4_ := Aside0.mk (below_step (by repeat (first | (with_reducible first | exact HB.out | apply below_alloc | apply pw_below_drewN | apply below_drew1) | exact HB.out)) hb); have n5_ := Aside0.mk (hbox); have n6_ := Aside0.mk ((by rw [hg]; exact (below_size (by repeat (first | (with_reducible first | exact HB.out | apply below_alloc | apply pw_below_drewN | apply below_drew1) | exact HB.out))) : w.heap.size ≤ gb402)); have n7_ := Aside0.mk ((by rw [hg]; exact (below_size (by repeat (first | (with_reducible first | exact HB.out | apply below_alloc | apply pw_below_drewN | apply below_drew1) | exact HB.out))) : w.heap.size ≤ gb402)); clear HO389; clear HO392; clear HO397; clear HO400; clear HB; have HO389 := n0_; have HO392 := n1_; have HO397 := n2_; have HO400 := n3_; have HB := n4_; have BK402 := n5_; have GW402 := n6_; have GE402 := n7_; clear n0_ n1_ n2_ n3_ n4_ n5_ n6_ n7_; clear hb hbox hg; have hcz104_0 : w103.cell? ⟨gb402, 0, none⟩ = some (.int .i64 0) := (blk_cell BK402.out 0).trans rfl; have hcz104_1 : w103.cell? ⟨gb402, 1, none⟩ = some (.int .i64 0) := (blk_cell BK402.out 1).trans rfl; have hcz104_2 : w103.cell? ⟨gb402, 2, none⟩ = some (.slice none 0 0) := (blk_cell BK402.out 2).trans rfl; have hcz104_3 : w103.cell? ⟨gb402, 3, none⟩ = some (.slice none 0 0) := (blk_cell BK402.out 3).trans rfl; have hcz104_4 : w103.cell? ⟨gb402, 4, none⟩ = some (.int .i64 0) := (blk_cell BK402.out 4).trans rfl; have hcz104_5 : w103.cell? ⟨gb402, 5, none⟩ = some (.int .i64 0) := (blk_cell BK402.out 5).trans rfl; have hcz104_6 : w103.cell? ⟨gb402, 6, none⟩ = some (.slice none 0 0) := (blk_cell BK402.out 6).trans rfl; have hcz104_7 : w103.cell? ⟨gb402, 7, none⟩ = some (.slice none 0 0) := (blk_cell BK402.out 7).trans rfl; have hfz104_0 := blk_frozen BK402.out 0; have hfz104_1 := blk_frozen BK402.out 1; have hfz104_2 := blk_frozen BK402.out 2; have hfz104_3 := blk_frozen BK402.out 3; have hfz104_4 := blk_frozen BK402.out 4; have hfz104_5 := blk_frozen BK402.out 5; have hfz104_6 := blk_frozen BK402.out 6; have hfz104_7 := blk_frozen BK402.out 7; obtain ⟨Ao105, co105, eo105⟩ := Kd.R_slice HO389.out; subst eo105; obtain ⟨Ao106, co106, eo106⟩ := Kd.R_slice HO392.out; subst eo106; obtain ⟨Ao107, co107, eo107⟩ := Kd.R_slice HO397.out; subst eo107; obtain ⟨Ao108, co108, eo108⟩ := Kd.R_slice HO400.out; subst eo108))
     go_ret
     exact ⟨by first | rfl | (simp [errW_none, errW_some] <;> rfl) | (simp [*, errW_none, errW_some] <;> rfl), by repeat (first | (with_reducible first | exact HB.out | apply below_alloc | apply pw_below_drewN | apply below_drew1 | refine below_set ?_ GE402.out) | exact HB.out)⟩
  ·
   replace c5 := Bool.eq_false_iff.mpr c5
   subst c5
   have H1 : (some true) = some r := by rw [if_neg (show ¬ (false = true) by decide)] at H; exact H
   clear H
   have H := H1
   clear H1
   focus
    obtain rfl := Option.some.inj H
    go_enter Try.func5, Try.ntmps5
    go_wp2_with (first | (go_at_call 6; (with_reducible refine (thrumlaw11_live.calls  true _ A2.out).mono ?_); rintro e w109 ⟨rfl, hb⟩; have n0_ := Aside0.mk (below_step (by repeat (first | (with_reducible first | exact HB.out | apply below_alloc | apply pw_below_drewN | apply below_drew1) | exact HB.out)) hb); clear HB; have HB := n0_; clear n0_; (try clear hb); (try clear hb2); (try clear hk); (try clear hi)) | (go_at_call 7; (refine (thrumlaw11_few.calls k _ _ l0 _ _ ([] : List (List Bool)) false _ ?side1 ?side2 ?side3 ?side4 A4.out).mono ?_); (case side1 => repeat (first | exact (Kd.C_below HR0.out HB.out) | (with_reducible refine Kd.C_alloc ?_ _) | (with_reducible refine Kd.C_drewN ?_ _) | (with_reducible refine Kd.C_drew ?_))); (case side2 => exact HC0.out); (case side3 => exact Kd.C_nil _ _); (case side4 => exact Nat.le_refl _); rintro e w110 ⟨rfl, hb⟩; have n0_ := Aside0.mk (below_step (by repeat (first | (with_reducible first | exact HB.out | apply below_alloc | apply pw_below_drewN | apply below_drew1) | exact HB.out)) hb); clear HB; have HB := n0_; clear n0_; (try clear hb); (try clear hb2); (try clear hk); (try clear hi)))
    go_ret
    exact ⟨by first | rfl | (simp [errW_none, errW_some] <;> rfl) | (simp [*, errW_none, errW_some] <;> rfl), by repeat (first | (with_reducible first | exact HB.out | apply below_alloc | apply pw_below_drewN | apply below_drew1) | exact HB.out)⟩
 ·
  replace c3 := Bool.eq_false_iff.mpr c3
  subst c3
  have H1 : (some false) = some r := by rw [if_neg (show ¬ (false = true) by decide)] at H; exact H
  exact absurd (Option.some.inj H1) (by rw [HR_.out]; decide)

/-- THE ONE PURE STATEMENT of thrumlaw11_SignLoosens: yours. -/
def thrumlaw11_SignLoosens.Pure : Prop := ∀ (l0 : List Int), l0.length ≤ maxLen → l0.length * 8 ≤ 140737488351232 → (∀ x ∈ l0, (Lit.int .i64 x).wf = true) → ∃ k, thrumlaw11_SignLoosens.f k l0 = some true
theorem thrumlaw11_SignLoosens.walk (P : thrumlaw11_SignLoosens.Pure) (a0 : Option Addr) (len0 cap0 : Nat) (z0 : List Int) (w : World) (w0 : (a0 = none ∧ len0 = 0 ∧ cap0 = 0 ∧ z0 = []) ∨ ∃ x, a0 = some x ∧ len0 ≤ cap0 ∧ cap0 ≤ maxLen ∧ z0.length = cap0 ∧ (∀ i, i < z0.length → w.cell? (x.add i) = some (.int .i64 (z0.getD i 0))) ∧ ∀ n ∈ z0, (Lit.int .i64 n).wf = true) (y0 : len0 * 8 ≤ 140737488351232) :
  Calls Try.prog 5 #[.slice a0 len0 cap0] w fun e w' => e = .returned (.bool true) ∧ Below w.heap.size w w' := by
 obtain ⟨l0, rfl, hr0, hm0, hw0, hc0⟩ := ReadsInt.ofRowC w0
 obtain ⟨k, h⟩ := P l0 hm0 y0 hw0
 refine (thrumlaw11_SignLoosens.calls k _ _ l0 true w (Kd.C_of_reads (d := (0 : Int)) (h1 := fun _ => rfl) hr0) hc0 h rfl).mono ?_
 rintro e w' ⟨rfl, hd⟩
 exact ⟨rfl, hd⟩



















































































































































































































































































































































































































































































































































end Go.Proofs.Ytnhdeljkoackfaa.HC
