/- What Go functions do, each as a plain Lean function with the same answers, and the proof of it, in every world: printed by the session's driver over the kit's print, with texts by hand. -/
import Derived.Test.YtalamamjodihaaaHRx0
import Derived.Test.YtalamamjodihaaaHRx2
import Derived.Test.YtalamamjodihaaaHRx3
import Derived.Test.YtalamamjodihaaaHRx8
namespace Go.Proofs.Ytalamamjodihaaa.HR
open Go.RowKit Go.Proofs.YtalamamjodihaaaW.PrintWords Go.Proofs.YtalamamjodihaaaW.PrintLast Go.Proofs.YtalamamjodihaaaW.PrintMore
attribute [local go_sem] max2_int min2_int max_two min_two max_three min_three max_four min_four   -- for this text's walks alone
open Go.Proofs.Ytalamamjodihaaa.Sp
attribute [local go_sem] Go.Proofs.Ytalamamjodihaaa.Sp.u64_not
set_option linter.unusedVariables false
set_option linter.unusedSimpArgs false

/-! ### thrumlaw16_MlpRight: function 5 -/
mutual
def thrumlaw16_MlpRight.j0 : Nat → Int → List Int → Int → List (S26) → Bool → Bool → Option (Bool)
 | 0, _, _, _, _, _, _ => none
 | k + 1, x0, x1, x2, x3, x9, x40 => if x40 = true then (some x9) else (thrumlaw16_MlpRight.l0 k x0 x1 x2 x3 x9 ([] : List (S26)) x3 (x3.length : Int) 0)
def thrumlaw16_MlpRight.l0 : Nat → Int → List Int → Int → List (S26) → Bool → List (S26) → List (S26) → Int → Int → Option (Bool)
 | 0, _, _, _, _, _, _, _, _, _ => none
 | k + 1, x0, x1, x2, x3, x9, x10, x42, x43, x44 => if x44 < x43 then (if 0 ≤ x44 then (if x44 < (x42.length : Int) then ((mlp_Tell.f x0 x1 ((rd_T26 x42 x44).f0) x2).bind fun bt181 => (if bt181.2 = 0 then (if x10.length < 4398046511104 then (thrumlaw16_MlpRight.l0 k x0 x1 x2 x3 x9 (x10 ++ [(⟨(rd_T26 x42 x44).f0, bt181.1⟩ : S26)]) x42 x43 (wrap64 (x44 + 1))) else (none)) else (some x9))) else (none)) else (none)) else ((mlp_Grad.f x0 x1 x2 x10).bind fun bt186 => (if bt186.2 = 0 then (thrumlaw16_MlpRight.j2 k x0 x1 x2 x3 x9 bt186.1 ((bt186.1.length : Int) != (x1.length : Int))) else (thrumlaw16_MlpRight.j2 k x0 x1 x2 x3 x9 bt186.1 true)))
def thrumlaw16_MlpRight.j2 : Nat → Int → List Int → Int → List (S26) → Bool → List Int → Bool → Option (Bool)
 | 0, _, _, _, _, _, _, _ => none
 | k + 1, x0, x1, x2, x3, x9, x15, x84 => if x84 = true then (some false) else (thrumlaw16_MlpRight.l1 k x0 x1 x2 x3 x9 x15 (x15.length : Int) 0)
def thrumlaw16_MlpRight.l1 : Nat → Int → List Int → Int → List (S26) → Bool → List Int → Int → Int → Option (Bool)
 | 0, _, _, _, _, _, _, _, _ => none
 | k + 1, x0, x1, x2, x3, x9, x85, x86, x87 => if x87 < x86 then (if 0 ≤ x87 then (if x87 < (x85.length : Int) then (if (rd x85 x87) = 0 then (thrumlaw16_MlpRight.l1 k x0 x1 x2 x3 x9 x85 x86 (wrap64 (x87 + 1))) else (some false)) else (none)) else (none)) else (if ([] : List Int).length + x1.length < 17592186044416 then ((some (([] : List Int) ++ x1 : List Int)).bind fun y191 => (if x0 < 1 then (thrumlaw16_MlpRight.j4 k x0 x1 x2 x3 x9 y191 (wrap64 ((wrap64 ((x1.length : Int) - 1)) - x0)) true) else (thrumlaw16_MlpRight.j4 k x0 x1 x2 x3 x9 y191 (wrap64 ((wrap64 ((x1.length : Int) - 1)) - x0)) (decide ((wrap64 ((wrap64 ((x1.length : Int) - 1)) - x0)) < 0))))) else (none))
def thrumlaw16_MlpRight.j4 : Nat → Int → List Int → Int → List (S26) → Bool → List Int → Int → Bool → Option (Bool)
 | 0, _, _, _, _, _, _, _, _ => none
 | k + 1, x0, x1, x2, x3, x9, x19, x20, x106 => if x106 = true then (some false) else (thrumlaw16_MlpRight.l2 k x0 x1 x2 x3 x9 x19 x20 x20)
def thrumlaw16_MlpRight.l2 : Nat → Int → List Int → Int → List (S26) → Bool → List Int → Int → Int → Option (Bool)
 | 0, _, _, _, _, _, _, _, _ => none
 | k + 1, x0, x1, x2, x3, x9, x19, x20, x21 => if x21 < (wrap64 ((x1.length : Int) - 1)) then (if 0 ≤ x21 then (if x21 < (x19.length : Int) then (thrumlaw16_MlpRight.l2 k x0 x1 x2 x3 x9 (x19.set (x21 : Int).toNat 0) x20 (wrap64 (x21 + 1))) else (none)) else (none)) else ((mlp_Grad.f x0 x19 x2 x3).bind fun bt195 => (if bt195.2 = 0 then (if (bt195.1.length : Int) = (x1.length : Int) then (if 0 ≤ x20 then (if x20 ≤ (bt195.1.length : Int) then ((some (bt195.1.take (x20 : Int).toNat : List Int)).bind fun y199 => (thrumlaw16_MlpRight.l3 k x9 y199 (y199.length : Int) 0)) else (none)) else (none)) else (some false)) else (some x9)))
def thrumlaw16_MlpRight.l3 : Nat → Bool → List Int → Int → Int → Option (Bool)
 | 0, _, _, _, _ => none
 | k + 1, x9, x136, x137, x138 => if x138 < x137 then (if 0 ≤ x138 then (if x138 < (x136.length : Int) then (if (rd x136 x138) = 0 then (thrumlaw16_MlpRight.l3 k x9 x136 x137 (wrap64 (x138 + 1))) else (some false)) else (none)) else (none)) else (some x9)
end
def thrumlaw16_MlpRight.f (k : Nat) (a0 : Int) (l1 : List Int) (a2 : Int) (l3 : List (S26)) : Option (Bool) := (thrumlaw16_live.f).bind fun t177 => (if t177 = true then ((thrumref14_Few.f l1 l3).bind fun t178 => (if t178 = true then (if (l3.length : Int) = 0 then (thrumlaw16_MlpRight.j0 k a0 l1 a2 l3 t177 true) else (thrumlaw16_MlpRight.j0 k a0 l1 a2 l3 t177 (decide ((l3.length : Int) > 64)))) else (thrumlaw16_MlpRight.j0 k a0 l1 a2 l3 t177 true))) else (some false))
theorem thrumlaw16_MlpRight.mono_l : ∀ k, (∀ y0 y1 y2 y3 y4 y5, LeO (thrumlaw16_MlpRight.j0 k y0 y1 y2 y3 y4 y5) (thrumlaw16_MlpRight.j0 (k + 1) y0 y1 y2 y3 y4 y5)) ∧ (∀ y0 y1 y2 y3 y4 y5 y6 y7 y8, LeO (thrumlaw16_MlpRight.l0 k y0 y1 y2 y3 y4 y5 y6 y7 y8) (thrumlaw16_MlpRight.l0 (k + 1) y0 y1 y2 y3 y4 y5 y6 y7 y8)) ∧ (∀ y0 y1 y2 y3 y4 y5 y6, LeO (thrumlaw16_MlpRight.j2 k y0 y1 y2 y3 y4 y5 y6) (thrumlaw16_MlpRight.j2 (k + 1) y0 y1 y2 y3 y4 y5 y6)) ∧ (∀ y0 y1 y2 y3 y4 y5 y6 y7, LeO (thrumlaw16_MlpRight.l1 k y0 y1 y2 y3 y4 y5 y6 y7) (thrumlaw16_MlpRight.l1 (k + 1) y0 y1 y2 y3 y4 y5 y6 y7)) ∧ (∀ y0 y1 y2 y3 y4 y5 y6 y7, LeO (thrumlaw16_MlpRight.j4 k y0 y1 y2 y3 y4 y5 y6 y7) (thrumlaw16_MlpRight.j4 (k + 1) y0 y1 y2 y3 y4 y5 y6 y7)) ∧ (∀ y0 y1 y2 y3 y4 y5 y6 y7, LeO (thrumlaw16_MlpRight.l2 k y0 y1 y2 y3 y4 y5 y6 y7) (thrumlaw16_MlpRight.l2 (k + 1) y0 y1 y2 y3 y4 y5 y6 y7)) ∧ (∀ y0 y1 y2 y3, LeO (thrumlaw16_MlpRight.l3 k y0 y1 y2 y3) (thrumlaw16_MlpRight.l3 (k + 1) y0 y1 y2 y3))
 | 0 => ⟨fun _ _ _ _ _ _ r h => by simp [thrumlaw16_MlpRight.j0] at h, fun _ _ _ _ _ _ _ _ _ r h => by simp [thrumlaw16_MlpRight.l0] at h, fun _ _ _ _ _ _ _ r h => by simp [thrumlaw16_MlpRight.j2] at h, fun _ _ _ _ _ _ _ _ r h => by simp [thrumlaw16_MlpRight.l1] at h, fun _ _ _ _ _ _ _ _ r h => by simp [thrumlaw16_MlpRight.j4] at h, fun _ _ _ _ _ _ _ _ r h => by simp [thrumlaw16_MlpRight.l2] at h, fun _ _ _ _ r h => by simp [thrumlaw16_MlpRight.l3] at h⟩
 | k + 1 => by
  obtain ⟨ih0, ih1, ih2, ih3, ih4, ih5, ih6⟩ := thrumlaw16_MlpRight.mono_l k
  refine ⟨?_, ?_, ?_, ?_, ?_, ?_, ?_⟩
  ·
   intro y0 y1 y2 y3 y4 y5
   unfold thrumlaw16_MlpRight.j0
   repeat' first
   | (with_reducible exact ih0 _ _ _ _ _ _)
   | (with_reducible exact ih1 _ _ _ _ _ _ _ _ _)
   | (with_reducible exact ih2 _ _ _ _ _ _ _)
   | (with_reducible exact ih3 _ _ _ _ _ _ _ _)
   | (with_reducible exact ih4 _ _ _ _ _ _ _ _)
   | (with_reducible exact ih5 _ _ _ _ _ _ _ _)
   | (with_reducible exact ih6 _ _ _ _)
   | (with_reducible exact LeO.refl _)
   | (with_reducible exact LeO.none _)
   | (with_reducible refine LeO.ite ?_ ?_)
   | (with_reducible refine LeO.bind ?_ (fun _ => ?_))
   | exact ih0 _ _ _ _ _ _
   | exact ih1 _ _ _ _ _ _ _ _ _
   | exact ih2 _ _ _ _ _ _ _
   | exact ih3 _ _ _ _ _ _ _ _
   | exact ih4 _ _ _ _ _ _ _ _
   | exact ih5 _ _ _ _ _ _ _ _
   | exact ih6 _ _ _ _
   | exact LeO.none _
   | refine LeO.ite ?_ ?_
   | refine LeO.bind ?_ (fun _ => ?_)
  ·
   intro y0 y1 y2 y3 y4 y5 y6 y7 y8
   unfold thrumlaw16_MlpRight.l0
   repeat' first
   | (with_reducible exact ih0 _ _ _ _ _ _)
   | (with_reducible exact ih1 _ _ _ _ _ _ _ _ _)
   | (with_reducible exact ih2 _ _ _ _ _ _ _)
   | (with_reducible exact ih3 _ _ _ _ _ _ _ _)
   | (with_reducible exact ih4 _ _ _ _ _ _ _ _)
   | (with_reducible exact ih5 _ _ _ _ _ _ _ _)
   | (with_reducible exact ih6 _ _ _ _)
   | (with_reducible exact LeO.refl _)
   | (with_reducible exact LeO.none _)
   | (with_reducible refine LeO.ite ?_ ?_)
   | (with_reducible refine LeO.bind ?_ (fun _ => ?_))
   | exact ih0 _ _ _ _ _ _
   | exact ih1 _ _ _ _ _ _ _ _ _
   | exact ih2 _ _ _ _ _ _ _
   | exact ih3 _ _ _ _ _ _ _ _
   | exact ih4 _ _ _ _ _ _ _ _
   | exact ih5 _ _ _ _ _ _ _ _
   | exact ih6 _ _ _ _
   | exact LeO.none _
   | refine LeO.ite ?_ ?_
   | refine LeO.bind ?_ (fun _ => ?_)
  ·
   intro y0 y1 y2 y3 y4 y5 y6
   unfold thrumlaw16_MlpRight.j2
   repeat' first
   | (with_reducible exact ih0 _ _ _ _ _ _)
   | (with_reducible exact ih1 _ _ _ _ _ _ _ _ _)
   | (with_reducible exact ih2 _ _ _ _ _ _ _)
   | (with_reducible exact ih3 _ _ _ _ _ _ _ _)
   | (with_reducible exact ih4 _ _ _ _ _ _ _ _)
   | (with_reducible exact ih5 _ _ _ _ _ _ _ _)
   | (with_reducible exact ih6 _ _ _ _)
   | (with_reducible exact LeO.refl _)
   | (with_reducible exact LeO.none _)
   | (with_reducible refine LeO.ite ?_ ?_)
   | (with_reducible refine LeO.bind ?_ (fun _ => ?_))
   | exact ih0 _ _ _ _ _ _
   | exact ih1 _ _ _ _ _ _ _ _ _
   | exact ih2 _ _ _ _ _ _ _
   | exact ih3 _ _ _ _ _ _ _ _
   | exact ih4 _ _ _ _ _ _ _ _
   | exact ih5 _ _ _ _ _ _ _ _
   | exact ih6 _ _ _ _
   | exact LeO.none _
   | refine LeO.ite ?_ ?_
   | refine LeO.bind ?_ (fun _ => ?_)
  ·
   intro y0 y1 y2 y3 y4 y5 y6 y7
   unfold thrumlaw16_MlpRight.l1
   repeat' first
   | (with_reducible exact ih0 _ _ _ _ _ _)
   | (with_reducible exact ih1 _ _ _ _ _ _ _ _ _)
   | (with_reducible exact ih2 _ _ _ _ _ _ _)
   | (with_reducible exact ih3 _ _ _ _ _ _ _ _)
   | (with_reducible exact ih4 _ _ _ _ _ _ _ _)
   | (with_reducible exact ih5 _ _ _ _ _ _ _ _)
   | (with_reducible exact ih6 _ _ _ _)
   | (with_reducible exact LeO.refl _)
   | (with_reducible exact LeO.none _)
   | (with_reducible refine LeO.ite ?_ ?_)
   | (with_reducible refine LeO.bind ?_ (fun _ => ?_))
   | exact ih0 _ _ _ _ _ _
   | exact ih1 _ _ _ _ _ _ _ _ _
   | exact ih2 _ _ _ _ _ _ _
   | exact ih3 _ _ _ _ _ _ _ _
   | exact ih4 _ _ _ _ _ _ _ _
   | exact ih5 _ _ _ _ _ _ _ _
   | exact ih6 _ _ _ _
   | exact LeO.none _
   | refine LeO.ite ?_ ?_
   | refine LeO.bind ?_ (fun _ => ?_)
  ·
   intro y0 y1 y2 y3 y4 y5 y6 y7
   unfold thrumlaw16_MlpRight.j4
   repeat' first
   | (with_reducible exact ih0 _ _ _ _ _ _)
   | (with_reducible exact ih1 _ _ _ _ _ _ _ _ _)
   | (with_reducible exact ih2 _ _ _ _ _ _ _)
   | (with_reducible exact ih3 _ _ _ _ _ _ _ _)
   | (with_reducible exact ih4 _ _ _ _ _ _ _ _)
   | (with_reducible exact ih5 _ _ _ _ _ _ _ _)
   | (with_reducible exact ih6 _ _ _ _)
   | (with_reducible exact LeO.refl _)
   | (with_reducible exact LeO.none _)
   | (with_reducible refine LeO.ite ?_ ?_)
   | (with_reducible refine LeO.bind ?_ (fun _ => ?_))
   | exact ih0 _ _ _ _ _ _
   | exact ih1 _ _ _ _ _ _ _ _ _
   | exact ih2 _ _ _ _ _ _ _
   | exact ih3 _ _ _ _ _ _ _ _
   | exact ih4 _ _ _ _ _ _ _ _
   | exact ih5 _ _ _ _ _ _ _ _
   | exact ih6 _ _ _ _
   | exact LeO.none _
   | refine LeO.ite ?_ ?_
   | refine LeO.bind ?_ (fun _ => ?_)
  ·
   intro y0 y1 y2 y3 y4 y5 y6 y7
   unfold thrumlaw16_MlpRight.l2
   repeat' first
   | (with_reducible exact ih0 _ _ _ _ _ _)
   | (with_reducible exact ih1 _ _ _ _ _ _ _ _ _)
   | (with_reducible exact ih2 _ _ _ _ _ _ _)
   | (with_reducible exact ih3 _ _ _ _ _ _ _ _)
   | (with_reducible exact ih4 _ _ _ _ _ _ _ _)
   | (with_reducible exact ih5 _ _ _ _ _ _ _ _)
   | (with_reducible exact ih6 _ _ _ _)
   | (with_reducible exact LeO.refl _)
   | (with_reducible exact LeO.none _)
   | (with_reducible refine LeO.ite ?_ ?_)
   | (with_reducible refine LeO.bind ?_ (fun _ => ?_))
   | exact ih0 _ _ _ _ _ _
   | exact ih1 _ _ _ _ _ _ _ _ _
   | exact ih2 _ _ _ _ _ _ _
   | exact ih3 _ _ _ _ _ _ _ _
   | exact ih4 _ _ _ _ _ _ _ _
   | exact ih5 _ _ _ _ _ _ _ _
   | exact ih6 _ _ _ _
   | exact LeO.none _
   | refine LeO.ite ?_ ?_
   | refine LeO.bind ?_ (fun _ => ?_)
  ·
   intro y0 y1 y2 y3
   unfold thrumlaw16_MlpRight.l3
   repeat' first
   | (with_reducible exact ih0 _ _ _ _ _ _)
   | (with_reducible exact ih1 _ _ _ _ _ _ _ _ _)
   | (with_reducible exact ih2 _ _ _ _ _ _ _)
   | (with_reducible exact ih3 _ _ _ _ _ _ _ _)
   | (with_reducible exact ih4 _ _ _ _ _ _ _ _)
   | (with_reducible exact ih5 _ _ _ _ _ _ _ _)
   | (with_reducible exact ih6 _ _ _ _)
   | (with_reducible exact LeO.refl _)
   | (with_reducible exact LeO.none _)
   | (with_reducible refine LeO.ite ?_ ?_)
   | (with_reducible refine LeO.bind ?_ (fun _ => ?_))
   | exact ih0 _ _ _ _ _ _
   | exact ih1 _ _ _ _ _ _ _ _ _
   | exact ih2 _ _ _ _ _ _ _
   | exact ih3 _ _ _ _ _ _ _ _
   | exact ih4 _ _ _ _ _ _ _ _
   | exact ih5 _ _ _ _ _ _ _ _
   | exact ih6 _ _ _ _
   | exact LeO.none _
   | refine LeO.ite ?_ ?_
   | refine LeO.bind ?_ (fun _ => ?_)
theorem thrumlaw16_MlpRight.mono : ∀ a0 a1 a2 a3 k, LeO (thrumlaw16_MlpRight.f k a0 a1 a2 a3) (thrumlaw16_MlpRight.f (k + 1) a0 a1 a2 a3) := by
 intro a0 a1 a2 a3 k
 obtain ⟨ih0, ih1, ih2, ih3, ih4, ih5, ih6⟩ := thrumlaw16_MlpRight.mono_l k
 unfold thrumlaw16_MlpRight.f
 repeat' first
   | (with_reducible exact ih0 _ _ _ _ _ _)
   | (with_reducible exact ih1 _ _ _ _ _ _ _ _ _)
   | (with_reducible exact ih2 _ _ _ _ _ _ _)
   | (with_reducible exact ih3 _ _ _ _ _ _ _ _)
   | (with_reducible exact ih4 _ _ _ _ _ _ _ _)
   | (with_reducible exact ih5 _ _ _ _ _ _ _ _)
   | (with_reducible exact ih6 _ _ _ _)
   | (with_reducible exact LeO.refl _)
   | (with_reducible exact LeO.none _)
   | (with_reducible refine LeO.ite ?_ ?_)
   | (with_reducible refine LeO.bind ?_ (fun _ => ?_))
   | exact ih0 _ _ _ _ _ _
   | exact ih1 _ _ _ _ _ _ _ _ _
   | exact ih2 _ _ _ _ _ _ _
   | exact ih3 _ _ _ _ _ _ _ _
   | exact ih4 _ _ _ _ _ _ _ _
   | exact ih5 _ _ _ _ _ _ _ _
   | exact ih6 _ _ _ _
   | exact LeO.none _
   | refine LeO.ite ?_ ?_
   | refine LeO.bind ?_ (fun _ => ?_)
theorem thrumlaw16_MlpRight.j2_not {k : Nat} {y0} {y1} {y2} {y3} {y4} {y5} (h : thrumlaw16_MlpRight.j2 k y0 y1 y2 y3 y4 y5 true = some true) : False := by cases k <;> simp [thrumlaw16_MlpRight.j2] at h
theorem thrumlaw16_MlpRight.j4_not {k : Nat} {y0} {y1} {y2} {y3} {y4} {y5} {y6} (h : thrumlaw16_MlpRight.j4 k y0 y1 y2 y3 y4 y5 y6 true = some true) : False := by cases k <;> simp [thrumlaw16_MlpRight.j4] at h
set_option maxHeartbeats 80000000 in
set_option maxRecDepth 100000 in
theorem thrumlaw16_MlpRight.calls (k : Nat) (a0 : Int) (A1 : Option Addr) (c1 : Nat) (l1 : List Int) (a2 : Int) (P3_ : Nat → Prop) (A3 : Option Addr) (c3 : Nat) (l3 : List (S26)) (r : Bool) (w : World) (hr1 : Kd.C (Kd.int .i64) w A1 l1.length l1) (hc1 : l1.length ≤ c1) (hs3 : Kd.V k26 26 w w.heap.size (fun k_ => P3_ k_) (.slice A3 l3.length c3) l3) (h : thrumlaw16_MlpRight.f k a0 l1 a2 l3 = some r) (hr_ : r = true) :
  Calls Try.prog 5 #[.int .i64 a0, .slice A1 l1.length c1, .int .i64 a2, .slice A3 l3.length c3] w fun e w' => e = .returned (.bool r) ∧ Below w.heap.size w w' := by
 have HR_ := Aside0.mk hr_
 clear hr_
 have hu26 := Try.underlying26
 have HR1 := Aside0.mk hr1
 have HC1 := Aside0.mk hc1
 clear hr1 hc1
 have HO3 := Aside0.mk (show Kd.V k26 26 w w.heap.size (fun k_ => (P3_ k_ ∨ w.heap.size ≤ k_)) (.slice A3 l3.length c3) l3 from Kd.V_mono hs3 (fun k_ hk => .inl hk))
 have HB := Aside0.mk (Below.refl w.heap.size w)
 have H : ((thrumlaw16_live.f).bind fun t177 => (if t177 = true then ((thrumref14_Few.f l1 l3).bind fun t178 => (if t178 = true then (if (l3.length : Int) = 0 then (thrumlaw16_MlpRight.j0 k a0 l1 a2 l3 t177 true) else (thrumlaw16_MlpRight.j0 k a0 l1 a2 l3 t177 (decide ((l3.length : Int) > 64)))) else (thrumlaw16_MlpRight.j0 k a0 l1 a2 l3 t177 true))) else (some false))) = some r := h
 clear h
 replace H := Option.bind_eq_some_iff.mp H
 obtain ⟨t177, A50, H⟩ := H
 replace H : (if t177 = true then ((thrumref14_Few.f l1 l3).bind fun t178 => (if t178 = true then (if (l3.length : Int) = 0 then (thrumlaw16_MlpRight.j0 k a0 l1 a2 l3 t177 true) else (thrumlaw16_MlpRight.j0 k a0 l1 a2 l3 t177 (decide ((l3.length : Int) > 64)))) else (thrumlaw16_MlpRight.j0 k a0 l1 a2 l3 t177 true))) else (some false)) = some r := H
 have A5 := Aside0.mk A50
 clear A50
 by_cases c6 : t177 = true
 ·
  subst c6
  have H1 : ((thrumref14_Few.f l1 l3).bind fun t178 => (if t178 = true then (if (l3.length : Int) = 0 then (thrumlaw16_MlpRight.j0 k a0 l1 a2 l3 true true) else (thrumlaw16_MlpRight.j0 k a0 l1 a2 l3 true (decide ((l3.length : Int) > 64)))) else (thrumlaw16_MlpRight.j0 k a0 l1 a2 l3 true true))) = some r := by rw [if_pos rfl] at H; exact H
  clear H
  have H := H1
  clear H1
  have HC7 := Aside0.mk H
  clear H
  go_enter Try.func5, Try.ntmps5
  go_upto_region 4 with (first | ((with_reducible refine gate_callee (f := 8) rfl ?_); refine goesL_ (some 24) rfl rfl Try.func8 (by kernel_rfl) rfl #[] rfl (by (try simp only [List.map_toArray, List.map_cons, List.map_nil]); first | done | rfl | (simp only [List.length_drop, List.length_take]; rfl)) ?_; (with_reducible refine (thrumlaw16_live.calls  true _ A5.out).mono ?_); rintro e w8 ⟨rfl, hb⟩; refine ⟨_, rfl, ?_⟩; have n0_ := Aside0.mk (Kd.V_below (by (with_reducible repeat (first | apply Kd.V_alloc | apply Kd.V_drewN | apply Kd.V_drew)); exact HO3.out) hb); have n1_ := Aside0.mk (zzT (by repeat (first | (with_reducible first | exact HB.out | apply zzA | apply zzN | apply zzD) | exact HB.out)) hb); clear HO3; clear HB; have HO3 := n0_; have HB := n1_; clear n0_ n1_; (try clear hb); (try clear hb2); (try clear hk); (try clear hi)))
  (try simp only [Act.put, List.setIfInBounds_toArray, List.set_cons_zero, List.set_cons_succ])
  go_cut [40] (fun v40 wc => ∃ (kq : Nat) (x40_6 : Bool), v40 = .bool x40_6 ∧ Aside0 (thrumlaw16_MlpRight.j0 kq a0 l1 a2 l3 true x40_6 = some r) ∧ Aside0 (kq ≤ k) ∧ Aside0 (Kd.V k26 26 wc w.heap.size (fun k_ => (P3_ k_ ∨ w.heap.size ≤ k_)) (.slice A3 l3.length c3) l3) ∧ Aside0 (Below w.heap.size w wc))
  case first =>
   have H := HC7.out
   clear HC7
   replace H := Option.bind_eq_some_iff.mp H
   obtain ⟨t178, A90, H⟩ := H
   replace H : (if t178 = true then (if (l3.length : Int) = 0 then (thrumlaw16_MlpRight.j0 k a0 l1 a2 l3 true true) else (thrumlaw16_MlpRight.j0 k a0 l1 a2 l3 true (decide ((l3.length : Int) > 64)))) else (thrumlaw16_MlpRight.j0 k a0 l1 a2 l3 true true)) = some r := H
   have A9 := Aside0.mk A90
   clear A90
   by_cases c10 : t178 = true
   ·
    subst c10
    have H1 : (if (l3.length : Int) = 0 then (thrumlaw16_MlpRight.j0 k a0 l1 a2 l3 true true) else (thrumlaw16_MlpRight.j0 k a0 l1 a2 l3 true (decide ((l3.length : Int) > 64)))) = some r := by rw [if_pos rfl] at H; exact H
    clear H
    have H := H1
    clear H1
    by_cases c11 : (l3.length : Int) = 0
    ·
     rw [if_pos c11] at H
     have c11b0 : ((l3.length : Int) == 0) = true := beq_iff_eq.mpr c11
     have c11b1 : ((l3.length : Int) != 0) = false := bne_eq_false_iff_eq.mpr c11
     clear c11
     (first | rw [c11b0] | (simp only [i64_w, i32_w]; rw [c11b0]) | skip)
     focus
      have H' := Aside0.mk H
      clear H
      go_wp2_with (first | ((with_reducible refine gate_callee (f := 9) rfl ?_); refine goesL_ (some 29) rfl rfl Try.func9 (by kernel_rfl) rfl #[.slice A1 l1.length c1, .slice A3 l3.length c3] rfl (by (try simp only [List.map_toArray, List.map_cons, List.map_nil]); first | done | rfl | (simp only [List.length_drop, List.length_take]; rfl)) ?_; (with_reducible refine (thrumref14_Few.calls _ _ l1 _ _ l3 true _ ?side1 ?side2 ?side3 ?side4 A9.out).mono ?_); (case side1 => repeat (first | exact (Kd.C_below HR1.out HB.out) | (with_reducible refine ccA ?_ _) | (with_reducible refine ccN ?_ _) | (with_reducible refine ccD ?_))); (case side2 => exact HC1.out); (case side3 => repeat (first | exact (Kd.V_reads' HO3.out).2.2 | (with_reducible refine ccA ?_ _) | (with_reducible refine ccN ?_ _) | (with_reducible refine ccD ?_))); (case side4 => exact (Kd.V_reads' HO3.out).2.1); rintro e w12 ⟨rfl, hb⟩; refine ⟨_, rfl, ?_⟩; have n0_ := Aside0.mk (Kd.V_below (by (with_reducible repeat (first | apply Kd.V_alloc | apply Kd.V_drewN | apply Kd.V_drew)); exact HO3.out) hb); have n1_ := Aside0.mk (zzT (by repeat (first | (with_reducible first | exact HB.out | apply zzA | apply zzN | apply zzD) | exact HB.out)) hb); clear HO3; clear HB; have HO3 := n0_; have HB := n1_; clear n0_ n1_; (try clear hb); (try clear hb2); (try clear hk); (try clear hi)))
      go_meet
      case rel => exact ⟨_, (true), (by first | rfl | (simp; done) | (simp [*]; done)), ⟨by first | exact H'.out | (have h_ := H'.out; rw [← hji56] at h_; exact h_)⟩, ⟨by first | omega | exact Nat.le_refl _⟩, ⟨by (with_reducible repeat (first | apply Kd.V_alloc | apply Kd.V_drewN | apply Kd.V_drew)); exact HO3.out⟩, ⟨by repeat (first | (with_reducible first | exact HB.out | apply zzA | apply zzN | apply zzD) | exact HB.out)⟩⟩
    ·
     rw [if_neg c11] at H
     have c11b0 : ((l3.length : Int) == 0) = false := beq_eq_false_iff_ne.mpr c11
     have c11b1 : ((l3.length : Int) != 0) = true := bne_iff_ne.mpr c11
     have c11b2 : ¬ (l3 = []) := fun h_ => c11 (by rw [h_]; rfl)
     (first | rw [c11b0] | (simp only [i64_w, i32_w]; rw [c11b0]) | skip)
     focus
      have H' := Aside0.mk H
      clear H
      go_wp2_with (first | ((with_reducible refine gate_callee (f := 9) rfl ?_); refine goesL_ (some 29) rfl rfl Try.func9 (by kernel_rfl) rfl #[.slice A1 l1.length c1, .slice A3 l3.length c3] rfl (by (try simp only [List.map_toArray, List.map_cons, List.map_nil]); first | done | rfl | (simp only [List.length_drop, List.length_take]; rfl)) ?_; (with_reducible refine (thrumref14_Few.calls _ _ l1 _ _ l3 true _ ?side1 ?side2 ?side3 ?side4 A9.out).mono ?_); (case side1 => repeat (first | exact (Kd.C_below HR1.out HB.out) | (with_reducible refine ccA ?_ _) | (with_reducible refine ccN ?_ _) | (with_reducible refine ccD ?_))); (case side2 => exact HC1.out); (case side3 => repeat (first | exact (Kd.V_reads' HO3.out).2.2 | (with_reducible refine ccA ?_ _) | (with_reducible refine ccN ?_ _) | (with_reducible refine ccD ?_))); (case side4 => exact (Kd.V_reads' HO3.out).2.1); rintro e w13 ⟨rfl, hb⟩; refine ⟨_, rfl, ?_⟩; have n0_ := Aside0.mk (Kd.V_below (by (with_reducible repeat (first | apply Kd.V_alloc | apply Kd.V_drewN | apply Kd.V_drew)); exact HO3.out) hb); have n1_ := Aside0.mk (zzT (by repeat (first | (with_reducible first | exact HB.out | apply zzA | apply zzN | apply zzD) | exact HB.out)) hb); clear HO3; clear HB; have HO3 := n0_; have HB := n1_; clear n0_ n1_; (try clear hb); (try clear hb2); (try clear hk); (try clear hi)))
      go_meet
      case rel => exact ⟨_, (decide ((l3.length : Int) > 64)), (by first | rfl | (simp; done) | (simp [*]; done)), ⟨by first | exact H'.out | (have h_ := H'.out; rw [← hji56] at h_; exact h_)⟩, ⟨by first | omega | exact Nat.le_refl _⟩, ⟨by (with_reducible repeat (first | apply Kd.V_alloc | apply Kd.V_drewN | apply Kd.V_drew)); exact HO3.out⟩, ⟨by repeat (first | (with_reducible first | exact HB.out | apply zzA | apply zzN | apply zzD) | exact HB.out)⟩⟩
   ·
    replace c10 := Bool.eq_false_iff.mpr c10
    subst c10
    have H1 : (thrumlaw16_MlpRight.j0 k a0 l1 a2 l3 true true) = some r := by rw [if_neg (show ¬ (false = true) by decide)] at H; exact H
    clear H
    have H := H1
    clear H1
    focus
     have H' := Aside0.mk H
     clear H
     go_wp2_with (first | ((with_reducible refine gate_callee (f := 9) rfl ?_); refine goesL_ (some 29) rfl rfl Try.func9 (by kernel_rfl) rfl #[.slice A1 l1.length c1, .slice A3 l3.length c3] rfl (by (try simp only [List.map_toArray, List.map_cons, List.map_nil]); first | done | rfl | (simp only [List.length_drop, List.length_take]; rfl)) ?_; (with_reducible refine (thrumref14_Few.calls _ _ l1 _ _ l3 false _ ?side1 ?side2 ?side3 ?side4 A9.out).mono ?_); (case side1 => repeat (first | exact (Kd.C_below HR1.out HB.out) | (with_reducible refine ccA ?_ _) | (with_reducible refine ccN ?_ _) | (with_reducible refine ccD ?_))); (case side2 => exact HC1.out); (case side3 => repeat (first | exact (Kd.V_reads' HO3.out).2.2 | (with_reducible refine ccA ?_ _) | (with_reducible refine ccN ?_ _) | (with_reducible refine ccD ?_))); (case side4 => exact (Kd.V_reads' HO3.out).2.1); rintro e w14 ⟨rfl, hb⟩; refine ⟨_, rfl, ?_⟩; have n0_ := Aside0.mk (Kd.V_below (by (with_reducible repeat (first | apply Kd.V_alloc | apply Kd.V_drewN | apply Kd.V_drew)); exact HO3.out) hb); have n1_ := Aside0.mk (zzT (by repeat (first | (with_reducible first | exact HB.out | apply zzA | apply zzN | apply zzD) | exact HB.out)) hb); clear HO3; clear HB; have HO3 := n0_; have HB := n1_; clear n0_ n1_; (try clear hb); (try clear hb2); (try clear hk); (try clear hi)))
     go_meet
     case rel => exact ⟨_, (true), (by first | rfl | (simp; done) | (simp [*]; done)), ⟨by first | exact H'.out | (have h_ := H'.out; rw [← hji56] at h_; exact h_)⟩, ⟨by first | omega | exact Nat.le_refl _⟩, ⟨by (with_reducible repeat (first | apply Kd.V_alloc | apply Kd.V_drewN | apply Kd.V_drew)); exact HO3.out⟩, ⟨by repeat (first | (with_reducible first | exact HB.out | apply zzA | apply zzN | apply zzD) | exact HB.out)⟩⟩
  case rest =>
   clear HC7
   try clear c1
   try clear p2
   try clear c3
   try clear c5
   try clear c6
   try clear c8
   try clear c9
   try clear c10
   try clear c11
   try clear c11b0
   try clear c11b1
   try clear c11b2
   obtain ⟨kq, x40_6, rfl, HA, HJ6, HO_3, HB⟩ := hcut
   cases kq with
   | zero => exact absurd HA.out (by simp [thrumlaw16_MlpRight.j0])
   | succ kj6 =>
    have H := HA.out
    clear HA
    simp only [thrumlaw16_MlpRight.j0] at H
    by_cases c15 : x40_6 = true
    ·
     subst c15
     have H1 : (some true) = some r := by rw [if_pos rfl] at H; exact H
     clear H
     have H := H1
     clear H1
     focus
      obtain rfl := Option.some.inj H
      go_wp2
      go_ret
      exact ⟨by first | rfl | (simp [errW_none, errW_some] <;> rfl) | (simp [*, errW_none, errW_some] <;> rfl), by repeat (first | (with_reducible first | exact HB.out | apply zzA | apply zzN | apply zzD) | exact HB.out)⟩
    ·
     replace c15 := Bool.eq_false_iff.mpr c15
     subst c15
     have H1 : (thrumlaw16_MlpRight.l0 kj6 a0 l1 a2 l3 true ([] : List (S26)) l3 (l3.length : Int) 0) = some r := by rw [if_neg (show ¬ (false = true) by decide)] at H; exact H
     clear H
     have H := H1
     clear H1
     have H' := Aside0.mk H
     clear H
     go_wp2
     go_loopg [10, 44] kj6 (fun kq v10 v44 w' => ∃ (x10_2 : List (S26)) (x44_2 : Int), v44 = .int .i64 x44_2 ∧ Aside0 (thrumlaw16_MlpRight.l0 kq a0 l1 a2 l3 true x10_2 l3 (l3.length : Int) x44_2 = some r) ∧ Aside0 (kq ≤ kj6) ∧ Aside0 (Kd.V k26 26 w' w.heap.size (fun k_ => (P3_ k_ ∨ w.heap.size ≤ k_) ∧ some k_ ≠ (v10 : Value).ownBlock) (.slice A3 l3.length c3) l3) ∧ Aside0 (Kd.N k26 26 w' w.heap.size (fun k_ => (P3_ k_ ∨ w.heap.size ≤ k_)) v10 x10_2) ∧ Aside0 (Kd.V k26 26 w' w.heap.size (fun k_ => (P3_ k_ ∨ w.heap.size ≤ k_) ∧ some k_ ≠ (v10 : Value).ownBlock) (.slice A3 l3.length c3) l3) ∧ Aside0 (Below w.heap.size w w'))
     case atStart => exact ⟨(([] : List (S26))), (0), (by first | rfl | (simp; done) | (simp [*]; done)), ⟨by first | exact H'.out | (have h_ := H'.out; rw [← hji56] at h_; exact h_)⟩, ⟨Nat.le_refl _⟩, ⟨by (with_reducible repeat (first | apply Kd.V_alloc | apply Kd.V_drewN | apply Kd.V_drew)); exact Kd.V_mono HO_3.out (fun _ hk => ⟨hk, (by simp [Value.ownBlock])⟩)⟩, ⟨by first | exact Kd.S_nil _ _ _ _ _ | exact Kd.N_nil _ _ _ _ _ | exact Kd.V_nil _ _ _ _ _ | exact Kd.Q_nil _ _ _ _ _ | exact Kd.R_nil _ _ _ _ _⟩, ⟨by (with_reducible repeat (first | apply Kd.V_alloc | apply Kd.V_drewN | apply Kd.V_drew)); exact Kd.V_mono HO_3.out (fun _ hk => ⟨hk, (by simp [Value.ownBlock])⟩)⟩, ⟨by repeat (first | (with_reducible first | exact HB.out | apply zzA | apply zzN | apply zzD) | exact HB.out)⟩⟩
     case round =>
      clear H'
      try clear c1
      try clear p2
      try clear c3
      try clear c5
      try clear c6
      try clear c8
      try clear c9
      try clear c10
      try clear c11
      try clear c11b0
      try clear c11b1
      try clear c11b2
      try clear c15
      try clear p2
      obtain ⟨x10_2, x44_2, rfl, HA, HK2, HO_3, HO_10, HO_42, HB⟩ := hrel
      cases gk with
      | zero => exact absurd HA.out (by simp [thrumlaw16_MlpRight.l0])
      | succ k2 =>
       have H := HA.out
       clear HA
       simp only [thrumlaw16_MlpRight.l0] at H
       by_cases c16 : x44_2 < (l3.length : Int)
       ·
        rw [if_pos c16] at H
        have c16b0 : decide (x44_2 < (l3.length : Int)) = true := decide_eq_true c16
        clear c16
        by_cases c17 : 0 ≤ x44_2
        ·
         rw [if_pos c17] at H
         have c17b0 : decide (0 ≤ x44_2) = true := decide_eq_true c17
         clear c17
         by_cases c18 : x44_2 < (l3.length : Int)
         ·
          rw [if_pos c18] at H
          have c18b0 : decide (x44_2 < (l3.length : Int)) = true := decide_eq_true c18
          clear c18
          replace H := Option.bind_eq_some_iff.mp H
          obtain ⟨⟨t181, t182⟩, A190, H⟩ := H
          replace H : (if t182 = 0 then (if x10_2.length < 4398046511104 then (thrumlaw16_MlpRight.l0 k2 a0 l1 a2 l3 true (x10_2 ++ [(⟨(rd_T26 l3 x44_2).f0, t181⟩ : S26)]) l3 (l3.length : Int) (wrap64 (x44_2 + 1))) else (none)) else (some true)) = some r := H
          have A19 := Aside0.mk A190
          clear A190
          by_cases c20 : t182 = 0
          ·
           rw [if_pos c20] at H
           have c20b0 : (t182 == 0) = true := beq_iff_eq.mpr c20
           have c20b1 : (t182 != 0) = false := bne_eq_false_iff_eq.mpr c20
           clear c20
           by_cases c21 : x10_2.length < 4398046511104
           ·
            rw [if_pos c21] at H
            have LMc21 := Aside0.mk c21
            clear c21
            obtain ⟨y183, hy183⟩ : ∃ y_ : List (S26), y_ = (x10_2 ++ [(⟨(rd_T26 l3 x44_2).f0, t181⟩ : S26)]) := ⟨_, rfl⟩
            replace H : (thrumlaw16_MlpRight.l0 k2 a0 l1 a2 l3 true y183 l3 (l3.length : Int) (wrap64 (x44_2 + 1))) = some r := by first | (rw [hy183]; with_reducible exact H) | (have H2_ := (Option.bind_some _ _).symm.trans H; rw [hy183]; with_reducible exact H2_) | (have H2_ := (Option.bind_some _ _).symm.trans H; with_reducible exact H2_) | with_reducible exact H | (rw [hy183]; exact H) | exact H
            have Ny183 := Aside0.mk hy183
            clear hy183
            focus
             have H' := Aside0.mk H
             clear H
             have p179 : 0 ≤ (x44_2 : Int) := of_decide_eq_true (by first | (with_reducible assumption) | assumption)
             have q179 : x44_2 < (l3.length : Int) := of_decide_eq_true (by first | (with_reducible assumption) | assumption)
             obtain ⟨ad179, A179_0, c179_0, e179, hx179_0, hx179_1, hl179_0, hi179_0⟩ := at_T26 (Kd.V_reads' HO_42.out).2.2 x44_2 p179 q179
             cases e179
             obtain ⟨ce179, hce179, hMe179, hcc179⟩ := Kd.V_get HO_42.out z26 x44_2 p179 (by first | exact q179 | exact of_decide_eq_true (by first | (with_reducible assumption) | assumption) | (have e_ := (Kd.V_reads' HO_42.out).1; omega))
             obtain ⟨ua179_0, uc179_0, rfl, ul179_0, ge179_0⟩ := k26_openF hMe179
             have hv179_0 := hcc179 0 _ rfl
             rw [Nat.add_zero] at hv179_0
             replace hv179_0 := Option.some.inj (hv179_0.symm.trans hx179_0)
             injection hv179_0 with hva_ hvn_ hvc_
             rw [hva_] at ge179_0
             rw [hvc_] at ul179_0
             have HL179_0 := Aside0.mk (show Kd.V (Kd.int .i64) 2 _ w.heap.size _ _ ((rd_T26 l3 x44_2).f0) from Kd.V_mk ul179_0 ge179_0)
             clear hva_ hvn_ hvc_ ge179_0 ul179_0
             clear hcc179 hce179
             have HR179_0 := Aside0.mk hi179_0
             have HC179_0 := Aside0.mk hl179_0
             clear hi179_0 hl179_0
             replace p179 := eq_true p179
             replace q179 := eq_true q179
             go_wp2_with (first | ((with_reducible refine gate_dst (N := 12) rfl ?_); (try (refine gate_guard (by rfl) ?_; dsimp only)); refine box_event ?hg (N := 12) ?hd (cs := #[.slice none 0 0, .int .i64 0]) (t := 26) ?hr ?_; (case hd => rfl); (case hg => rfl); (case hr => first | (go_simp; done) | (go_simp; rfl)); intro gb180 hg w22 hbox hb; have n0_ := Aside0.mk (Kd.V_below (Kd.V_elderB (by (with_reducible repeat (first | apply Kd.V_alloc | apply Kd.V_drewN | apply Kd.V_drew)); exact HO_3.out) gb180 (Nat.le_of_eq hg.symm)) hb); have n1_ := Aside0.mk (Kd.N_below (Kd.N_elderB (by (with_reducible repeat (first | apply Kd.N_alloc | apply Kd.N_drewN | apply Kd.N_drew)); exact HO_10.out) gb180 (Nat.le_of_eq hg.symm)) hb); have n2_ := Aside0.mk (Kd.V_below (Kd.V_elderB (by (with_reducible repeat (first | apply Kd.V_alloc | apply Kd.V_drewN | apply Kd.V_drew)); exact HO_42.out) gb180 (Nat.le_of_eq hg.symm)) hb); have n3_ := Aside0.mk (Kd.V_below (Kd.V_elderB (by (with_reducible repeat (first | apply Kd.V_alloc | apply Kd.V_drewN | apply Kd.V_drew)); exact HL179_0.out) gb180 (Nat.le_of_eq hg.symm)) hb); have n4_ := Aside0.mk (Kd.C_below (by repeat (first | (with_reducible exact HR179_0.out) | (with_reducible refine ccA ?_ _) | (with_reducible refine ccN ?_ _) | (with_reducible refine ccD ?_) | exact HR179_0.out)) hb); have n5_ := Aside0.mk (zzT (by repeat (first | (with_reducible first | exact HB.out | apply zzA | apply zzN | apply zzD) | exact HB.out)) hb); have n6_ := Aside0.mk (hbox); have n7_ := Aside0.mk ((by rw [hg]; exact (zzS (by repeat (first | (with_reducible first | exact HB.out | apply zzA | apply zzN | apply zzD) | exact HB.out))) : w.heap.size ≤ gb180)); have n8_ := Aside0.mk ((by rw [hg]; exact (zzS (by repeat (first | (with_reducible first | exact HB.out | apply zzA | apply zzN | apply zzD) | exact HB.out))) : w.heap.size ≤ gb180)); clear HO_3; clear HO_10; clear HO_42; clear HL179_0; clear HR179_0; clear HB; have HO_3 := n0_; have HO_10 := n1_; have HO_42 := n2_; have HL179_0 := n3_; have HR179_0 := Aside0.mk (Kd.V_reads' (e := 2) (base := w.heap.size) HL179_0.out).2.2; have HR179_0 := n4_; have HB := n5_; have BK180 := n6_; have GW180 := n7_; have GE180 := n8_; clear n0_ n1_ n2_ n3_ n4_ n5_ n6_ n7_ n8_; clear hb hbox hg; have hcz23_0 : w22.cell? ⟨gb180, 0, none⟩ = some (.slice none 0 0) := (blk_cell BK180.out 0).trans rfl; have hcz23_1 : w22.cell? ⟨gb180, 1, none⟩ = some (.int .i64 0) := (blk_cell BK180.out 1).trans rfl; have hfz23_0 := blk_frozen BK180.out 0; have hfz23_1 := blk_frozen BK180.out 1) | ((with_reducible refine gate_callee (f := 13) rfl ?_); refine goesL_ (some 54) rfl rfl Try.func13 (by kernel_rfl) rfl #[.int .i64 a0, .slice A1 l1.length c1, .slice A179_0 ((rd_T26 l3 x44_2).f0).length c179_0, .int .i64 a2] rfl (by (try simp only [List.map_toArray, List.map_cons, List.map_nil]); first | done | rfl | (simp only [List.length_drop, List.length_take]; rfl)) ?_; (with_reducible refine (mlp_Tell.calls a0 _ _ l1 _ _ ((rd_T26 l3 x44_2).f0) a2 t181 t182 _ ?side1 ?side2 ?side3 ?side4 A19.out).mono ?_); (case side1 => exact Kd.C_below HR1.out (by repeat (first | (with_reducible first | exact HB.out | apply zzA | apply zzN | apply zzD | refine below_set ?_ GE180.out) | exact HB.out))); (case side2 => exact HC1.out); (case side3 => repeat (first | exact ((Kd.V_reads' (by (with_reducible repeat (first | apply Kd.V_alloc | apply Kd.V_drewN | apply Kd.V_drew)); exact (Kd.V_mono (Kd.V_far (p := ⟨gb180, 1, none⟩) (Kd.V_far (p := ⟨gb180, 0, none⟩) (Kd.V_mono HL179_0.out (fun k_ hk => (⟨hk, hk.2⟩ : _ ∧ k_ ≠ gb180))) (fun _ hk => hk.2) (.slice A179_0 ((rd_T26 l3 x44_2).f0).length c179_0)) (fun _ hk => hk.2) (.int .i64 ((rd_T26 l3 x44_2).f1))) (fun _ h_ => h_.1)))).2.2) | (with_reducible refine ccA ?_ _) | (with_reducible refine ccN ?_ _) | (with_reducible refine ccD ?_))); (case side4 => exact HC179_0.out); rintro e w24 ⟨rfl, hb⟩; refine ⟨_, rfl, ?_⟩; have n0_ := Aside0.mk (Kd.V_below (by (with_reducible repeat (first | apply Kd.V_alloc | apply Kd.V_drewN | apply Kd.V_drew)); exact (Kd.V_mono (Kd.V_far (p := ⟨gb180, 1, none⟩) (Kd.V_far (p := ⟨gb180, 0, none⟩) (Kd.V_mono HO_3.out (fun k_ hk => (⟨hk, hk.2⟩ : _ ∧ k_ ≠ gb180))) (fun _ hk => hk.2) (.slice A179_0 ((rd_T26 l3 x44_2).f0).length c179_0)) (fun _ hk => hk.2) (.int .i64 ((rd_T26 l3 x44_2).f1))) (fun _ h_ => h_.1))) hb); have n1_ := Aside0.mk (Kd.N_below (by (with_reducible repeat (first | apply Kd.N_alloc | apply Kd.N_drewN | apply Kd.N_drew)); exact (Kd.N_mono (Kd.N_far (p := ⟨gb180, 1, none⟩) (Kd.N_far (p := ⟨gb180, 0, none⟩) (Kd.N_mono HO_10.out (fun k_ hk => (⟨hk, hk.2⟩ : _ ∧ k_ ≠ gb180))) (fun _ hk => hk.2) (.slice A179_0 ((rd_T26 l3 x44_2).f0).length c179_0)) (fun _ hk => hk.2) (.int .i64 ((rd_T26 l3 x44_2).f1))) (fun _ h_ => h_.1))) hb); have n2_ := Aside0.mk (Kd.V_below (by (with_reducible repeat (first | apply Kd.V_alloc | apply Kd.V_drewN | apply Kd.V_drew)); exact (Kd.V_mono (Kd.V_far (p := ⟨gb180, 1, none⟩) (Kd.V_far (p := ⟨gb180, 0, none⟩) (Kd.V_mono HO_42.out (fun k_ hk => (⟨hk, hk.2⟩ : _ ∧ k_ ≠ gb180))) (fun _ hk => hk.2) (.slice A179_0 ((rd_T26 l3 x44_2).f0).length c179_0)) (fun _ hk => hk.2) (.int .i64 ((rd_T26 l3 x44_2).f1))) (fun _ h_ => h_.1))) hb); have n3_ := Aside0.mk (Kd.V_below (by (with_reducible repeat (first | apply Kd.V_alloc | apply Kd.V_drewN | apply Kd.V_drew)); exact (Kd.V_mono (Kd.V_far (p := ⟨gb180, 1, none⟩) (Kd.V_far (p := ⟨gb180, 0, none⟩) (Kd.V_mono HL179_0.out (fun k_ hk => (⟨hk, hk.2⟩ : _ ∧ k_ ≠ gb180))) (fun _ hk => hk.2) (.slice A179_0 ((rd_T26 l3 x44_2).f0).length c179_0)) (fun _ hk => hk.2) (.int .i64 ((rd_T26 l3 x44_2).f1))) (fun _ h_ => h_.1))) hb); have n4_ := Aside0.mk (Kd.C_below ((Kd.V_reads' (by (with_reducible repeat (first | apply Kd.V_alloc | apply Kd.V_drewN | apply Kd.V_drew)); exact (Kd.V_mono (Kd.V_far (p := ⟨gb180, 1, none⟩) (Kd.V_far (p := ⟨gb180, 0, none⟩) (Kd.V_mono HL179_0.out (fun k_ hk => (⟨hk, hk.2⟩ : _ ∧ k_ ≠ gb180))) (fun _ hk => hk.2) (.slice A179_0 ((rd_T26 l3 x44_2).f0).length c179_0)) (fun _ hk => hk.2) (.int .i64 ((rd_T26 l3 x44_2).f1))) (fun _ h_ => h_.1)))).2.2) hb); have n5_ := Aside0.mk (blk_below (g := gb180) (o := .cells #[.slice A179_0 ((rd_T26 l3 x44_2).f0).length c179_0, .int .i64 ((rd_T26 l3 x44_2).f1)] 26 (0, 0)) (by (with_reducible repeat (first | refine kkN ?_ _ | refine kkD ?_ | refine kkA ?_ _)); refine blk_put (cs := #[.slice A179_0 ((rd_T26 l3 x44_2).f0).length c179_0, .int .i64 0]) ?_ 1 _ rfl; (with_reducible repeat (first | refine kkN ?_ _ | refine kkD ?_ | refine kkA ?_ _)); refine blk_put (cs := #[.slice none 0 0, .int .i64 0]) ?_ 0 _ rfl; (with_reducible repeat (first | refine kkN ?_ _ | refine kkD ?_ | refine kkA ?_ _)); exact BK180.out) hb); have n6_ := Aside0.mk (zzT (by repeat (first | (with_reducible first | exact HB.out | apply zzA | apply zzN | apply zzD | refine below_set ?_ GE180.out) | exact HB.out)) hb); clear HO_3; clear HO_10; clear HO_42; clear HL179_0; clear HR179_0; clear BK180; clear HB; have HO_3 := n0_; have HO_10 := n1_; have HO_42 := n2_; have HL179_0 := n3_; have HR179_0 := Aside0.mk (Kd.V_reads' (e := 2) (base := w.heap.size) HL179_0.out).2.2; have HR179_0 := n4_; have BK180 := n5_; have HB := n6_; clear n0_ n1_ n2_ n3_ n4_ n5_ n6_; (try clear hb); (try clear hb2); (try clear hk); (try clear hi); have hcz25_0 : w24.cell? ⟨gb180, 0, none⟩ = some (.slice A179_0 ((rd_T26 l3 x44_2).f0).length c179_0) := (blk_cell BK180.out 0).trans rfl; have hcz25_1 : w24.cell? ⟨gb180, 1, none⟩ = some (.int .i64 ((rd_T26 l3 x44_2).f1)) := (blk_cell BK180.out 1).trans rfl; have hfz25_0 := blk_frozen BK180.out 0; have hfz25_1 := blk_frozen BK180.out 1) | ((with_reducible refine gate_builtin (b := .append) (xs := #[.tmp 60, .tmp 65]) rfl ?_); (try (refine gate_guard (by rfl) ?_; dsimp only)); at_builtin; refine Kd.N_append k26 (w0 := w) w.heap.size rfl (.tmp 60) (.tmp 65) 45 26 (.agg #[(.slice none 0 0), (.int .i64 0)]) 32 rfl Try.underlying45 info26 rfl (by decide) (by omega) u10 x10_2 (⟨(rd_T26 l3 x44_2).f0, t181⟩ : S26) [.slice A179_0 ((rd_T26 l3 x44_2).f0).length c179_0, .int .i64 t181] (fun k_ => (P3_ k_ ∨ w.heap.size ≤ k_) ∧ k_ ≠ gb180) (fun k_ => ((fun k_ => (P3_ k_ ∨ w.heap.size ≤ k_) ∧ k_ ≠ gb180)) k_ ∧ some k_ ≠ (u10 : Value).ownBlock) rfl rfl ?aP (fun _ hk => hk) ?aF ?aO ?aB ?aS ?aL ?_; (case aP => exact (k26_mkF _ _ (⟨(rd_T26 l3 x44_2).f0, t181⟩ : S26) (Kd.V_reads' (Kd.V_mono (ok' := (fun k_ => ((fun k_ => (P3_ k_ ∨ w.heap.size ≤ k_) ∧ k_ ≠ gb180)) k_ ∧ some k_ ≠ (u10 : Value).ownBlock)) (HL179_0.out) (fun k_ hk => ⟨⟨hk.1.1, hk.2⟩, hk.1.2⟩))).2.1 (Kd.V_F (base := w.heap.size) (e := 2) (Kd.V_mono (ok' := (fun k_ => ((fun k_ => (P3_ k_ ∨ w.heap.size ≤ k_) ∧ k_ ≠ gb180)) k_ ∧ some k_ ≠ (u10 : Value).ownBlock)) (HL179_0.out) (fun k_ hk => ⟨⟨hk.1.1, hk.2⟩, hk.1.2⟩))))); (case aB => exact (by repeat (first | (with_reducible first | exact HB.out | apply zzA | apply zzN | apply zzD | refine below_set ?_ GE180.out) | exact HB.out))); (case aF => exact (fun k_ hk => ⟨(.inr (Nat.le_trans (zzS (by repeat (first | (with_reducible first | exact HB.out | apply zzA | apply zzN | apply zzD | refine below_set ?_ GE180.out) | exact HB.out))) hk)), Kd.freshB (g := gb180) (o := .cells #[.slice A179_0 ((rd_T26 l3 x44_2).f0).length c179_0, .int .i64 ((rd_T26 l3 x44_2).f1)] 26 (0, 0)) (by (with_reducible repeat (first | refine kkN ?_ _ | refine kkD ?_ | refine kkA ?_ _)); exact BK180.out) k_ hk⟩)); (case aO => exact (by (with_reducible repeat (first | apply Kd.N_alloc | apply Kd.N_drewN | apply Kd.N_drew)); exact HO_10.out)); (case aS => exact (zzS (by repeat (first | (with_reducible first | exact HB.out | apply zzA | apply zzN | apply zzD | refine below_set ?_ GE180.out) | exact HB.out)))); (case aL => have := LMc21.out; omega); intro v184 w26 ho hb hg hat; rw [← Ny183.out] at ho; have n0_ := Aside0.mk (Kd.V_afterv (ok := (fun k_ => (P3_ k_ ∨ w.heap.size ≤ k_) ∧ k_ ≠ gb180)) (by (with_reducible repeat (first | apply Kd.V_alloc | apply Kd.V_drewN | apply Kd.V_drew)); exact Kd.V_mono HO_3.out (fun _ hk => ⟨⟨hk.1.1, hk.2⟩, hk.1.2⟩)) hg hat); have n1_ := Aside0.mk (Kd.V_afterv (ok := (fun k_ => (P3_ k_ ∨ w.heap.size ≤ k_) ∧ k_ ≠ gb180)) (by (with_reducible repeat (first | apply Kd.V_alloc | apply Kd.V_drewN | apply Kd.V_drew)); exact Kd.V_mono HO_42.out (fun _ hk => ⟨⟨hk.1.1, hk.2⟩, hk.1.2⟩)) hg hat); have n2_ := Aside0.mk (Kd.V_afterv (ok := (fun k_ => (P3_ k_ ∨ w.heap.size ≤ k_) ∧ k_ ≠ gb180)) (by (with_reducible repeat (first | apply Kd.V_alloc | apply Kd.V_drewN | apply Kd.V_drew)); exact Kd.V_mono HL179_0.out (fun _ hk => ⟨⟨hk.1.1, hk.2⟩, hk.1.2⟩)) hg hat); have n3_ := Aside0.mk (blk_grown (g := gb180) (o := .cells #[.slice A179_0 ((rd_T26 l3 x44_2).f0).length c179_0, .int .i64 ((rd_T26 l3 x44_2).f1)] 26 (0, 0)) (by (with_reducible repeat (first | refine kkN ?_ _ | refine kkD ?_ | refine kkA ?_ _)); exact BK180.out) hg (Kd.N_away HO_10.out (fun _ hk => hk.2))); have n4_ := Aside0.mk (hb); have n5_ := Aside0.mk (ho); clear HO_3; clear HO_42; clear HL179_0; clear BK180; clear HB; clear HO_10; have HO_3 := n0_; have HO_42 := n1_; have HL179_0 := n2_; have HR179_0 := Aside0.mk (Kd.V_reads' (e := 2) (base := w.heap.size) HL179_0.out).2.2; have BK180 := n3_; have HB := n4_; have HO185 := n5_; clear n0_ n1_ n2_ n3_ n4_ n5_; clear ho hb hg hat))
             go_roundg k2
             case measure => have := HJ6.out; have := HK2.out; omega
             case rel => exact ⟨(y183), (wrap64 (x44_2 + 1)), (by first | rfl | (simp; done) | (simp [*]; done)), ⟨by first | exact H'.out | (have h_ := H'.out; rw [← hji56] at h_; exact h_)⟩, ⟨by have := HJ6.out; have := HK2.out; omega⟩, ⟨by (with_reducible repeat (first | apply Kd.V_alloc | apply Kd.V_drewN | apply Kd.V_drew)); exact Kd.V_mono HO_3.out (fun _ hk => ⟨hk.1.1, hk.2⟩)⟩, ⟨by (with_reducible repeat (first | apply Kd.N_alloc | apply Kd.N_drewN | apply Kd.N_drew)); exact Kd.N_mono HO185.out (fun _ hk => hk.1)⟩, ⟨by (with_reducible repeat (first | apply Kd.V_alloc | apply Kd.V_drewN | apply Kd.V_drew)); exact Kd.V_mono HO_42.out (fun _ hk => ⟨hk.1.1, hk.2⟩)⟩, ⟨by repeat (first | (with_reducible first | exact HB.out | apply zzA | apply zzN | apply zzD | refine below_set ?_ GE180.out) | exact HB.out)⟩⟩
           ·
            rw [if_neg c21] at H
            exact absurd H (by simp)
          ·
           rw [if_neg c20] at H
           have c20b0 : (t182 == 0) = false := beq_eq_false_iff_ne.mpr c20
           have c20b1 : (t182 != 0) = true := bne_iff_ne.mpr c20
           focus
            obtain rfl := Option.some.inj H
            have p179 : 0 ≤ (x44_2 : Int) := of_decide_eq_true (by first | (with_reducible assumption) | assumption)
            have q179 : x44_2 < (l3.length : Int) := of_decide_eq_true (by first | (with_reducible assumption) | assumption)
            obtain ⟨ad179, A179_0, c179_0, e179, hx179_0, hx179_1, hl179_0, hi179_0⟩ := at_T26 (Kd.V_reads' HO_42.out).2.2 x44_2 p179 q179
            cases e179
            obtain ⟨ce179, hce179, hMe179, hcc179⟩ := Kd.V_get HO_42.out z26 x44_2 p179 (by first | exact q179 | exact of_decide_eq_true (by first | (with_reducible assumption) | assumption) | (have e_ := (Kd.V_reads' HO_42.out).1; omega))
            obtain ⟨ua179_0, uc179_0, rfl, ul179_0, ge179_0⟩ := k26_openF hMe179
            have hv179_0 := hcc179 0 _ rfl
            rw [Nat.add_zero] at hv179_0
            replace hv179_0 := Option.some.inj (hv179_0.symm.trans hx179_0)
            injection hv179_0 with hva_ hvn_ hvc_
            rw [hva_] at ge179_0
            rw [hvc_] at ul179_0
            have HL179_0 := Aside0.mk (show Kd.V (Kd.int .i64) 2 _ w.heap.size _ _ ((rd_T26 l3 x44_2).f0) from Kd.V_mk ul179_0 ge179_0)
            clear hva_ hvn_ hvc_ ge179_0 ul179_0
            clear hcc179 hce179
            have HR179_0 := Aside0.mk hi179_0
            have HC179_0 := Aside0.mk hl179_0
            clear hi179_0 hl179_0
            replace p179 := eq_true p179
            replace q179 := eq_true q179
            go_wp2_with (first | ((with_reducible refine gate_dst (N := 12) rfl ?_); (try (refine gate_guard (by rfl) ?_; dsimp only)); refine box_event ?hg (N := 12) ?hd (cs := #[.slice none 0 0, .int .i64 0]) (t := 26) ?hr ?_; (case hd => rfl); (case hg => rfl); (case hr => first | (go_simp; done) | (go_simp; rfl)); intro gb180 hg w27 hbox hb; have n0_ := Aside0.mk (Kd.V_below (Kd.V_elderB (by (with_reducible repeat (first | apply Kd.V_alloc | apply Kd.V_drewN | apply Kd.V_drew)); exact HO_3.out) gb180 (Nat.le_of_eq hg.symm)) hb); have n1_ := Aside0.mk (Kd.N_below (Kd.N_elderB (by (with_reducible repeat (first | apply Kd.N_alloc | apply Kd.N_drewN | apply Kd.N_drew)); exact HO_10.out) gb180 (Nat.le_of_eq hg.symm)) hb); have n2_ := Aside0.mk (Kd.V_below (Kd.V_elderB (by (with_reducible repeat (first | apply Kd.V_alloc | apply Kd.V_drewN | apply Kd.V_drew)); exact HO_42.out) gb180 (Nat.le_of_eq hg.symm)) hb); have n3_ := Aside0.mk (Kd.V_below (Kd.V_elderB (by (with_reducible repeat (first | apply Kd.V_alloc | apply Kd.V_drewN | apply Kd.V_drew)); exact HL179_0.out) gb180 (Nat.le_of_eq hg.symm)) hb); have n4_ := Aside0.mk (Kd.C_below (by repeat (first | (with_reducible exact HR179_0.out) | (with_reducible refine ccA ?_ _) | (with_reducible refine ccN ?_ _) | (with_reducible refine ccD ?_) | exact HR179_0.out)) hb); have n5_ := Aside0.mk (zzT (by repeat (first | (with_reducible first | exact HB.out | apply zzA | apply zzN | apply zzD) | exact HB.out)) hb); have n6_ := Aside0.mk (hbox); have n7_ := Aside0.mk ((by rw [hg]; exact (zzS (by repeat (first | (with_reducible first | exact HB.out | apply zzA | apply zzN | apply zzD) | exact HB.out))) : w.heap.size ≤ gb180)); have n8_ := Aside0.mk ((by rw [hg]; exact (zzS (by repeat (first | (with_reducible first | exact HB.out | apply zzA | apply zzN | apply zzD) | exact HB.out))) : w.heap.size ≤ gb180)); clear HO_3; clear HO_10; clear HO_42; clear HL179_0; clear HR179_0; clear HB; have HO_3 := n0_; have HO_10 := n1_; have HO_42 := n2_; have HL179_0 := n3_; have HR179_0 := Aside0.mk (Kd.V_reads' (e := 2) (base := w.heap.size) HL179_0.out).2.2; have HR179_0 := n4_; have HB := n5_; have BK180 := n6_; have GW180 := n7_; have GE180 := n8_; clear n0_ n1_ n2_ n3_ n4_ n5_ n6_ n7_ n8_; clear hb hbox hg; have hcz28_0 : w27.cell? ⟨gb180, 0, none⟩ = some (.slice none 0 0) := (blk_cell BK180.out 0).trans rfl; have hcz28_1 : w27.cell? ⟨gb180, 1, none⟩ = some (.int .i64 0) := (blk_cell BK180.out 1).trans rfl; have hfz28_0 := blk_frozen BK180.out 0; have hfz28_1 := blk_frozen BK180.out 1) | ((with_reducible refine gate_callee (f := 13) rfl ?_); refine goesL_ (some 54) rfl rfl Try.func13 (by kernel_rfl) rfl #[.int .i64 a0, .slice A1 l1.length c1, .slice A179_0 ((rd_T26 l3 x44_2).f0).length c179_0, .int .i64 a2] rfl (by (try simp only [List.map_toArray, List.map_cons, List.map_nil]); first | done | rfl | (simp only [List.length_drop, List.length_take]; rfl)) ?_; (with_reducible refine (mlp_Tell.calls a0 _ _ l1 _ _ ((rd_T26 l3 x44_2).f0) a2 t181 t182 _ ?side1 ?side2 ?side3 ?side4 A19.out).mono ?_); (case side1 => exact Kd.C_below HR1.out (by repeat (first | (with_reducible first | exact HB.out | apply zzA | apply zzN | apply zzD | refine below_set ?_ GE180.out) | exact HB.out))); (case side2 => exact HC1.out); (case side3 => repeat (first | exact ((Kd.V_reads' (by (with_reducible repeat (first | apply Kd.V_alloc | apply Kd.V_drewN | apply Kd.V_drew)); exact (Kd.V_mono (Kd.V_far (p := ⟨gb180, 1, none⟩) (Kd.V_far (p := ⟨gb180, 0, none⟩) (Kd.V_mono HL179_0.out (fun k_ hk => (⟨hk, hk.2⟩ : _ ∧ k_ ≠ gb180))) (fun _ hk => hk.2) (.slice A179_0 ((rd_T26 l3 x44_2).f0).length c179_0)) (fun _ hk => hk.2) (.int .i64 ((rd_T26 l3 x44_2).f1))) (fun _ h_ => h_.1)))).2.2) | (with_reducible refine ccA ?_ _) | (with_reducible refine ccN ?_ _) | (with_reducible refine ccD ?_))); (case side4 => exact HC179_0.out); rintro e w29 ⟨rfl, hb⟩; refine ⟨_, rfl, ?_⟩; have n0_ := Aside0.mk (Kd.V_below (by (with_reducible repeat (first | apply Kd.V_alloc | apply Kd.V_drewN | apply Kd.V_drew)); exact (Kd.V_mono (Kd.V_far (p := ⟨gb180, 1, none⟩) (Kd.V_far (p := ⟨gb180, 0, none⟩) (Kd.V_mono HO_3.out (fun k_ hk => (⟨hk, hk.2⟩ : _ ∧ k_ ≠ gb180))) (fun _ hk => hk.2) (.slice A179_0 ((rd_T26 l3 x44_2).f0).length c179_0)) (fun _ hk => hk.2) (.int .i64 ((rd_T26 l3 x44_2).f1))) (fun _ h_ => h_.1))) hb); have n1_ := Aside0.mk (Kd.N_below (by (with_reducible repeat (first | apply Kd.N_alloc | apply Kd.N_drewN | apply Kd.N_drew)); exact (Kd.N_mono (Kd.N_far (p := ⟨gb180, 1, none⟩) (Kd.N_far (p := ⟨gb180, 0, none⟩) (Kd.N_mono HO_10.out (fun k_ hk => (⟨hk, hk.2⟩ : _ ∧ k_ ≠ gb180))) (fun _ hk => hk.2) (.slice A179_0 ((rd_T26 l3 x44_2).f0).length c179_0)) (fun _ hk => hk.2) (.int .i64 ((rd_T26 l3 x44_2).f1))) (fun _ h_ => h_.1))) hb); have n2_ := Aside0.mk (Kd.V_below (by (with_reducible repeat (first | apply Kd.V_alloc | apply Kd.V_drewN | apply Kd.V_drew)); exact (Kd.V_mono (Kd.V_far (p := ⟨gb180, 1, none⟩) (Kd.V_far (p := ⟨gb180, 0, none⟩) (Kd.V_mono HO_42.out (fun k_ hk => (⟨hk, hk.2⟩ : _ ∧ k_ ≠ gb180))) (fun _ hk => hk.2) (.slice A179_0 ((rd_T26 l3 x44_2).f0).length c179_0)) (fun _ hk => hk.2) (.int .i64 ((rd_T26 l3 x44_2).f1))) (fun _ h_ => h_.1))) hb); have n3_ := Aside0.mk (Kd.V_below (by (with_reducible repeat (first | apply Kd.V_alloc | apply Kd.V_drewN | apply Kd.V_drew)); exact (Kd.V_mono (Kd.V_far (p := ⟨gb180, 1, none⟩) (Kd.V_far (p := ⟨gb180, 0, none⟩) (Kd.V_mono HL179_0.out (fun k_ hk => (⟨hk, hk.2⟩ : _ ∧ k_ ≠ gb180))) (fun _ hk => hk.2) (.slice A179_0 ((rd_T26 l3 x44_2).f0).length c179_0)) (fun _ hk => hk.2) (.int .i64 ((rd_T26 l3 x44_2).f1))) (fun _ h_ => h_.1))) hb); have n4_ := Aside0.mk (Kd.C_below ((Kd.V_reads' (by (with_reducible repeat (first | apply Kd.V_alloc | apply Kd.V_drewN | apply Kd.V_drew)); exact (Kd.V_mono (Kd.V_far (p := ⟨gb180, 1, none⟩) (Kd.V_far (p := ⟨gb180, 0, none⟩) (Kd.V_mono HL179_0.out (fun k_ hk => (⟨hk, hk.2⟩ : _ ∧ k_ ≠ gb180))) (fun _ hk => hk.2) (.slice A179_0 ((rd_T26 l3 x44_2).f0).length c179_0)) (fun _ hk => hk.2) (.int .i64 ((rd_T26 l3 x44_2).f1))) (fun _ h_ => h_.1)))).2.2) hb); have n5_ := Aside0.mk (blk_below (g := gb180) (o := .cells #[.slice A179_0 ((rd_T26 l3 x44_2).f0).length c179_0, .int .i64 ((rd_T26 l3 x44_2).f1)] 26 (0, 0)) (by (with_reducible repeat (first | refine kkN ?_ _ | refine kkD ?_ | refine kkA ?_ _)); refine blk_put (cs := #[.slice A179_0 ((rd_T26 l3 x44_2).f0).length c179_0, .int .i64 0]) ?_ 1 _ rfl; (with_reducible repeat (first | refine kkN ?_ _ | refine kkD ?_ | refine kkA ?_ _)); refine blk_put (cs := #[.slice none 0 0, .int .i64 0]) ?_ 0 _ rfl; (with_reducible repeat (first | refine kkN ?_ _ | refine kkD ?_ | refine kkA ?_ _)); exact BK180.out) hb); have n6_ := Aside0.mk (zzT (by repeat (first | (with_reducible first | exact HB.out | apply zzA | apply zzN | apply zzD | refine below_set ?_ GE180.out) | exact HB.out)) hb); clear HO_3; clear HO_10; clear HO_42; clear HL179_0; clear HR179_0; clear BK180; clear HB; have HO_3 := n0_; have HO_10 := n1_; have HO_42 := n2_; have HL179_0 := n3_; have HR179_0 := Aside0.mk (Kd.V_reads' (e := 2) (base := w.heap.size) HL179_0.out).2.2; have HR179_0 := n4_; have BK180 := n5_; have HB := n6_; clear n0_ n1_ n2_ n3_ n4_ n5_ n6_; (try clear hb); (try clear hb2); (try clear hk); (try clear hi)))
            go_ret
            exact ⟨by first | rfl | (simp [errW_none, errW_some] <;> rfl) | (simp [*, errW_none, errW_some] <;> rfl), by repeat (first | (with_reducible first | exact HB.out | apply zzA | apply zzN | apply zzD | refine below_set ?_ GE180.out) | exact HB.out)⟩
         ·
          rw [if_neg c18] at H
          exact absurd H (by simp)
        ·
         rw [if_neg c17] at H
         exact absurd H (by simp)
       ·
        rw [if_neg c16] at H
        have c16b0 : decide (x44_2 < (l3.length : Int)) = false := decide_eq_false c16
        clear c16
        replace H := Option.bind_eq_some_iff.mp H
        obtain ⟨⟨t186, t187⟩, A300, H⟩ := H
        replace H : (if t187 = 0 then (thrumlaw16_MlpRight.j2 k2 a0 l1 a2 l3 true t186 ((t186.length : Int) != (l1.length : Int))) else (thrumlaw16_MlpRight.j2 k2 a0 l1 a2 l3 true t186 true)) = some r := H
        have A30 := Aside0.mk A300
        clear A300
        have HC31 := Aside0.mk H
        clear H
        obtain ⟨Ao32, co32, eo32⟩ := Kd.N_slice HO_10.out
        subst eo32
        go_upto_region 16 with (first | ((with_reducible refine gate_callee (f := 27) rfl ?_); refine goesL_ (some 73) rfl rfl Try.func27 (by kernel_rfl) rfl #[.int .i64 a0, .slice A1 l1.length c1, .int .i64 a2, .slice Ao32 x10_2.length co32] rfl (by (try simp only [List.map_toArray, List.map_cons, List.map_nil]); first | done | rfl | (simp only [List.length_drop, List.length_take]; rfl)) ?_; (with_reducible refine (mlp_Grad.calls a0 _ _ l1 a2 _ _ x10_2 t186 t187 _ ?side1 ?side2 ?side3 ?side4 A30.out).mono ?_); (case side1 => repeat (first | exact (Kd.C_below HR1.out HB.out) | (with_reducible refine ccA ?_ _) | (with_reducible refine ccN ?_ _) | (with_reducible refine ccD ?_))); (case side2 => exact HC1.out); (case side3 => repeat (first | exact (Kd.N_reads' HO_10.out).2.2 | (with_reducible refine ccA ?_ _) | (with_reducible refine ccN ?_ _) | (with_reducible refine ccD ?_))); (case side4 => exact (Kd.N_reads' HO_10.out).2.1); rintro e w33 ⟨v188, rfl, ho0, hb⟩; refine ⟨_, rfl, ?_⟩; have n0_ := Aside0.mk (Kd.V_elder' (by (with_reducible repeat (first | apply Kd.V_alloc | apply Kd.V_drewN | apply Kd.V_drew)); exact HO_3.out) (Kd.R_base ho0) hb); have n1_ := Aside0.mk (Kd.N_elder' (by (with_reducible repeat (first | apply Kd.N_alloc | apply Kd.N_drewN | apply Kd.N_drew)); exact HO_10.out) (Kd.R_base ho0) hb); have n2_ := Aside0.mk (Kd.V_elder' (by (with_reducible repeat (first | apply Kd.V_alloc | apply Kd.V_drewN | apply Kd.V_drew)); exact HO_42.out) (Kd.R_base ho0) hb); have n3_ := Aside0.mk (Kd.R_lower (Kd.R_newM (M := fun k_ => (w.heap.size ≤ k_)) ho0 (zzS (by repeat (first | (with_reducible first | exact HB.out | apply zzA | apply zzN | apply zzD) | exact HB.out))) (fun k_ h_ => h_)) (zzS (by repeat (first | (with_reducible first | exact HB.out | apply zzA | apply zzN | apply zzD) | exact HB.out)))); have n4_ := Aside0.mk (zzT (by repeat (first | (with_reducible first | exact HB.out | apply zzA | apply zzN | apply zzD) | exact HB.out)) hb); clear HO_3; clear HO_10; clear HO_42; clear HB; have HO_3 := n0_; have HO_10 := n1_; have HO_42 := n2_; have HO189 := n3_; have HB := n4_; clear n0_ n1_ n2_ n3_ n4_; (try clear hb); (try clear hb2); (try clear hk); (try clear hi); (try clear ho0)))
        (try simp only [Act.put, List.setIfInBounds_toArray, List.set_cons_zero, List.set_cons_succ])
        go_cut [84] (fun v84 wc => ∃ (kq : Nat) (x84_30 : Bool), v84 = .bool x84_30 ∧ Aside0 (thrumlaw16_MlpRight.j2 kq a0 l1 a2 l3 true t186 x84_30 = some r) ∧ Aside0 (kq ≤ k2) ∧ Aside0 (Kd.V k26 26 wc w.heap.size (fun k_ => (P3_ k_ ∨ w.heap.size ≤ k_) ∧ some k_ ≠ (v188 : Value).ownBlock) (.slice A3 l3.length c3) l3) ∧ Aside0 (Kd.R (Kd.int .i64) 2 wc w.heap.size (fun k_ => (w.heap.size ≤ k_)) v188 t186) ∧ Aside0 (Below w.heap.size w wc))
        case first =>
         have H := HC31.out
         clear HC31
         by_cases c34 : t187 = 0
         ·
          rw [if_pos c34] at H
          have c34b0 : (t187 == 0) = true := beq_iff_eq.mpr c34
          have c34b1 : (t187 != 0) = false := bne_eq_false_iff_eq.mpr c34
          clear c34
          (first | rw [c34b0] | (simp only [i64_w, i32_w]; rw [c34b0]) | skip)
          focus
           have H' := Aside0.mk H
           clear H
           obtain ⟨Ao35, co35, eo35⟩ := Kd.R_slice HO189.out
           subst eo35
           go_wp2
           go_meet
           case rel => exact ⟨_, (((t186.length : Int) != (l1.length : Int))), (by first | rfl | (simp; done) | (simp [*]; done)), ⟨by first | exact H'.out | (have h_ := H'.out; rw [← hji56] at h_; exact h_)⟩, ⟨by have := HJ6.out; have := HK2.out; first | omega | exact Nat.le_refl _⟩, ⟨by (with_reducible repeat (first | apply Kd.V_alloc | apply Kd.V_drewN | apply Kd.V_drew)); exact Kd.V_mono HO_3.out (fun _ hk => ⟨hk.1.1, hk.2⟩)⟩, ⟨by (with_reducible repeat (first | apply rrA | apply rrN | apply rrD)); exact Kd.R_mono HO189.out (fun _ hk => hk.1)⟩, ⟨by repeat (first | (with_reducible first | exact HB.out | apply zzA | apply zzN | apply zzD) | exact HB.out)⟩⟩
         ·
          rw [if_neg c34] at H
          exact (thrumlaw16_MlpRight.j2_not (H.trans (by rw [HR_.out]))).elim
        case rest =>
         clear HC31
         try clear c1
         try clear p1
         try clear q1
         try clear hx1
         try clear c2
         try clear p2
         try clear c3
         try clear c5
         try clear c6
         try clear p6
         try clear c8
         try clear c9
         try clear c10
         try clear c11
         try clear c11b0
         try clear c11b1
         try clear c11b2
         try clear c13
         try clear c15
         try clear c16
         try clear c16b0
         try clear c17
         try clear c17b0
         try clear p17
         try clear q17
         try clear hx17
         try clear c18
         try clear c18b0
         try clear c20
         try clear c20b0
         try clear c20b1
         try clear c21
         try clear c27
         try clear c34
         try clear c34b0
         try clear c34b1
         try clear hcz23_0
         try clear hcz23_1
         try clear hcz25_0
         try clear hcz25_1
         try clear hcz28_0
         try clear hcz28_1
         try clear hfz23_0
         try clear hfz23_1
         try clear hfz25_0
         try clear hfz25_1
         try clear hfz28_0
         try clear hfz28_1
         try clear hx179_0
         try clear hx179_1
         try clear p179
         try clear p2
         try clear q179
         obtain ⟨kq, x84_30, rfl, HA, HJ30, HO_3, HO_15, HB⟩ := hcut
         cases kq with
         | zero => exact absurd HA.out (by simp [thrumlaw16_MlpRight.j2])
         | succ kj30 =>
          have H := HA.out
          clear HA
          simp only [thrumlaw16_MlpRight.j2] at H
          by_cases c36 : x84_30 = true
          ·
           subst c36
           have H1 : (some false) = some r := by rw [if_pos rfl] at H; exact H
           exact absurd (Option.some.inj H1) (by rw [HR_.out]; decide)
          ·
           replace c36 := Bool.eq_false_iff.mpr c36
           subst c36
           have H1 : (thrumlaw16_MlpRight.l1 kj30 a0 l1 a2 l3 true t186 (t186.length : Int) 0) = some r := by rw [if_neg (show ¬ (false = true) by decide)] at H; exact H
           clear H
           have H := H1
           clear H1
           have H' := Aside0.mk H
           clear H
           obtain ⟨Ao37, co37, eo37⟩ := Kd.R_slice HO_15.out
           subst eo37
           go_wp2
           go_loopg [87] kj30 (fun kq v87 w' => ∃ (x87_4 : Int), v87 = .int .i64 x87_4 ∧ Aside0 (thrumlaw16_MlpRight.l1 kq a0 l1 a2 l3 true t186 (t186.length : Int) x87_4 = some r) ∧ Aside0 (kq ≤ kj30) ∧ Aside0 (Kd.V k26 26 w' w.heap.size (fun k_ => (P3_ k_ ∨ w.heap.size ≤ k_) ∧ some k_ ≠ ((.slice Ao37 t186.length co37) : Value).ownBlock) (.slice A3 l3.length c3) l3) ∧ Aside0 (Kd.R (Kd.int .i64) 2 w' w.heap.size (fun k_ => (w.heap.size ≤ k_)) (.slice Ao37 t186.length co37) t186) ∧ Aside0 (Below w.heap.size w w'))
           case atStart => exact ⟨(0), (by first | rfl | (simp; done) | (simp [*]; done)), ⟨by first | exact H'.out | (have h_ := H'.out; rw [← hji56] at h_; exact h_)⟩, ⟨Nat.le_refl _⟩, ⟨by (with_reducible repeat (first | apply Kd.V_alloc | apply Kd.V_drewN | apply Kd.V_drew)); exact HO_3.out⟩, ⟨by (with_reducible repeat (first | apply rrA | apply rrN | apply rrD)); exact HO_15.out⟩, ⟨by repeat (first | (with_reducible first | exact HB.out | apply zzA | apply zzN | apply zzD) | exact HB.out)⟩⟩
           case round =>
            clear H'
            try clear c1
            try clear p1
            try clear q1
            try clear hx1
            try clear c2
            try clear p2
            try clear c3
            try clear c5
            try clear c6
            try clear p6
            try clear c8
            try clear c9
            try clear c10
            try clear c11
            try clear c11b0
            try clear c11b1
            try clear c11b2
            try clear c13
            try clear c15
            try clear c16
            try clear c16b0
            try clear c17
            try clear c17b0
            try clear p17
            try clear q17
            try clear hx17
            try clear c18
            try clear c18b0
            try clear c20
            try clear c20b0
            try clear c20b1
            try clear c21
            try clear c27
            try clear c34
            try clear c34b0
            try clear c34b1
            try clear c36
            try clear hcz23_0
            try clear hcz23_1
            try clear hcz25_0
            try clear hcz25_1
            try clear hcz28_0
            try clear hcz28_1
            try clear hfz23_0
            try clear hfz23_1
            try clear hfz25_0
            try clear hfz25_1
            try clear hfz28_0
            try clear hfz28_1
            try clear hx179_0
            try clear hx179_1
            try clear p1
            try clear p17
            try clear p179
            try clear p2
            try clear p6
            try clear q1
            try clear q17
            try clear q179
            obtain ⟨x87_4, rfl, HA, HK4, HO_3, HO_85, HB⟩ := hrel
            cases gk with
            | zero => exact absurd HA.out (by simp [thrumlaw16_MlpRight.l1])
            | succ k4 =>
             have H := HA.out
             clear HA
             simp only [thrumlaw16_MlpRight.l1] at H
             by_cases c38 : x87_4 < (t186.length : Int)
             ·
              rw [if_pos c38] at H
              have c38b0 : decide (x87_4 < (t186.length : Int)) = true := decide_eq_true c38
              clear c38
              by_cases c39 : 0 ≤ x87_4
              ·
               rw [if_pos c39] at H
               have c39b0 : decide (0 ≤ x87_4) = true := decide_eq_true c39
               clear c39
               by_cases c40 : x87_4 < (t186.length : Int)
               ·
                rw [if_pos c40] at H
                have c40b0 : decide (x87_4 < (t186.length : Int)) = true := decide_eq_true c40
                clear c40
                by_cases c41 : (rd t186 x87_4) = 0
                ·
                 rw [if_pos c41] at H
                 have c41b0 : ((rd t186 x87_4) == 0) = true := beq_iff_eq.mpr c41
                 have c41b1 : ((rd t186 x87_4) != 0) = false := bne_eq_false_iff_eq.mpr c41
                 clear c41
                 focus
                  have H' := Aside0.mk H
                  clear H
                  have p190 : 0 ≤ (x87_4 : Int) := of_decide_eq_true (by first | (with_reducible assumption) | assumption)
                  have q190 : x87_4 < (t186.length : Int) := of_decide_eq_true (by first | (with_reducible assumption) | assumption)
                  obtain ⟨ad190, e190, hx190_0⟩ := Kd.at_int (Kd.R_reads' HO_85.out).2.2 x87_4 p190 q190
                  cases e190
                  replace p190 := eq_true p190
                  replace q190 := eq_true q190
                  go_wp2
                  go_roundg k4
                  case measure => have := HJ6.out; have := HK2.out; have := HJ30.out; have := HK4.out; omega
                  case rel => exact ⟨(wrap64 (x87_4 + 1)), (by first | rfl | (simp; done) | (simp [*]; done)), ⟨by first | exact H'.out | (have h_ := H'.out; rw [← hji56] at h_; exact h_)⟩, ⟨by have := HJ6.out; have := HK2.out; have := HJ30.out; have := HK4.out; omega⟩, ⟨by (with_reducible repeat (first | apply Kd.V_alloc | apply Kd.V_drewN | apply Kd.V_drew)); exact HO_3.out⟩, ⟨by (with_reducible repeat (first | apply rrA | apply rrN | apply rrD)); exact HO_85.out⟩, ⟨by repeat (first | (with_reducible first | exact HB.out | apply zzA | apply zzN | apply zzD) | exact HB.out)⟩⟩
                ·
                 rw [if_neg c41] at H
                 exact absurd (Option.some.inj H) (by rw [HR_.out]; decide)
               ·
                rw [if_neg c40] at H
                exact absurd H (by simp)
              ·
               rw [if_neg c39] at H
               exact absurd H (by simp)
             ·
              rw [if_neg c38] at H
              have c38b0 : decide (x87_4 < (t186.length : Int)) = false := decide_eq_false c38
              clear c38
              by_cases c42 : ([] : List Int).length + l1.length < 17592186044416
              ·
               rw [if_pos c42] at H
               have LMc42 := Aside0.mk c42
               clear c42
               obtain ⟨y191, hy191⟩ : ∃ y_ : List Int, y_ = (([] : List Int) ++ l1) := ⟨_, rfl⟩
               replace H : (if a0 < 1 then (thrumlaw16_MlpRight.j4 k4 a0 l1 a2 l3 true y191 (wrap64 ((wrap64 ((l1.length : Int) - 1)) - a0)) true) else (thrumlaw16_MlpRight.j4 k4 a0 l1 a2 l3 true y191 (wrap64 ((wrap64 ((l1.length : Int) - 1)) - a0)) (decide ((wrap64 ((wrap64 ((l1.length : Int) - 1)) - a0)) < 0)))) = some r := by first | (rw [hy191]; with_reducible exact H) | (have H2_ := (Option.bind_some _ _).symm.trans H; rw [hy191]; with_reducible exact H2_) | (have H2_ := (Option.bind_some _ _).symm.trans H; with_reducible exact H2_) | with_reducible exact H | (rw [hy191]; exact H) | exact H
               have Ny191 := Aside0.mk hy191
               clear hy191
               have HC43 := Aside0.mk H
               clear H
               go_upto_region 26 with (first | ((with_reducible refine gate_builtin (b := .append) (xs := #[.const (.slice none 0 0), .tmp 94]) rfl ?_); (try (refine gate_guard (by rfl) ?_; dsimp only)); at_builtin; refine Kd.R_append_rows (Kd.int .i64) (w0 := w) w.heap.size rfl (.const (.slice none 0 0)) (.tmp 94) 22 2 (.int .i64 0) 8 rfl Try.underlying22 info2 rfl (by decide) (by omega) (.slice none 0 0) ([] : List Int) l1 _ _ _ (fun k_ => (w.heap.size ≤ k_) ∧ some k_ ≠ (.slice Ao37 t186.length co37 : Value).ownBlock) (fun _ => False) rfl rfl ?aO ?aR (fun _ _ h => h) (fun _ h => h.elim) ?aF ?aB ?aS ?aL ?_; (case aR => repeat (first | exact (Kd.C_below HR1.out HB.out) | (with_reducible refine ccA ?_ _) | (with_reducible refine ccN ?_ _) | (with_reducible refine ccD ?_))); (case aB => exact (by repeat (first | (with_reducible first | exact HB.out | apply zzA | apply zzN | apply zzD) | exact HB.out))); (case aF => exact (fun k_ hk => ⟨(Nat.le_trans (zzS (by repeat (first | (with_reducible first | exact HB.out | apply zzA | apply zzN | apply zzD) | exact HB.out))) hk), Kd.fresh' (Kd.R_lt (by (with_reducible repeat (first | apply rrA | apply rrN | apply rrD)); exact HO_85.out)) k_ hk⟩)); (case aO => exact ((Kd.R_nil _ _ _ _ (fun k_ => (w.heap.size ≤ k_) ∧ some k_ ≠ (.slice Ao37 t186.length co37 : Value).ownBlock)))); (case aS => exact (zzS (by repeat (first | (with_reducible first | exact HB.out | apply zzA | apply zzN | apply zzD) | exact HB.out)))); (case aL => have := LMc42.out; omega); intro v192 w44 ho hb hg hat; rw [← Ny191.out] at ho; have n0_ := Aside0.mk (Kd.V_afterv (Kd.V_apart_nil (by (with_reducible repeat (first | apply Kd.V_alloc | apply Kd.V_drewN | apply Kd.V_drew)); exact HO_3.out)) hg hat); have n1_ := Aside0.mk (Kd.R_after (Kd.R_apart_nil (by (with_reducible repeat (first | apply rrA | apply rrN | apply rrD)); exact HO_85.out)) hg hat); have n2_ := Aside0.mk (hb); have n3_ := Aside0.mk (ho); clear HO_3; clear HO_85; clear HB; have HO_3 := n0_; have HO_85 := n1_; have HB := n2_; have HO193 := n3_; clear n0_ n1_ n2_ n3_; clear ho hb hg hat))
               (try simp only [Act.put, List.setIfInBounds_toArray, List.set_cons_zero, List.set_cons_succ])
               go_cut [106] (fun v106 wc => ∃ (kq : Nat) (x106_42 : Bool), v106 = .bool x106_42 ∧ Aside0 (thrumlaw16_MlpRight.j4 kq a0 l1 a2 l3 true y191 (wrap64 ((wrap64 ((l1.length : Int) - 1)) - a0)) x106_42 = some r) ∧ Aside0 (kq ≤ k4) ∧ Aside0 (Kd.V k26 26 wc w.heap.size (fun k_ => (P3_ k_ ∨ w.heap.size ≤ k_) ∧ some k_ ≠ (v192 : Value).ownBlock) (.slice A3 l3.length c3) l3) ∧ Aside0 (Kd.R (Kd.int .i64) 2 wc w.heap.size (fun k_ => (w.heap.size ≤ k_)) v192 y191) ∧ Aside0 (Below w.heap.size w wc))
               case first =>
                have H := HC43.out
                clear HC43
                by_cases c45 : a0 < 1
                ·
                 rw [if_pos c45] at H
                 exact (thrumlaw16_MlpRight.j4_not (H.trans (by rw [HR_.out]))).elim
                ·
                 rw [if_neg c45] at H
                 have c45b0 : decide (a0 < 1) = false := decide_eq_false c45
                 clear c45
                 (first | rw [c45b0] | (simp only [i64_w, i32_w]; rw [c45b0]) | skip)
                 focus
                  have H' := Aside0.mk H
                  clear H
                  go_wp2
                  go_meet
                  case rel => exact ⟨_, (decide ((wrap64 ((wrap64 ((l1.length : Int) - 1)) - a0)) < 0)), (by first | rfl | (simp; done) | (simp [*]; done)), ⟨by first | exact H'.out | (have h_ := H'.out; rw [← hji56] at h_; exact h_)⟩, ⟨by have := HJ6.out; have := HK2.out; have := HJ30.out; have := HK4.out; first | omega | exact Nat.le_refl _⟩, ⟨by (with_reducible repeat (first | apply Kd.V_alloc | apply Kd.V_drewN | apply Kd.V_drew)); exact Kd.V_mono HO_3.out (fun _ hk => ⟨hk.1.1, hk.2⟩)⟩, ⟨by (with_reducible repeat (first | apply rrA | apply rrN | apply rrD)); exact Kd.R_mono HO193.out (fun _ hk => hk.1)⟩, ⟨by repeat (first | (with_reducible first | exact HB.out | apply zzA | apply zzN | apply zzD) | exact HB.out)⟩⟩
               case rest =>
                clear HC43
                try clear c1
                try clear p1
                try clear q1
                try clear hx1
                try clear c2
                try clear p2
                try clear c3
                try clear c4
                try clear c5
                try clear c6
                try clear p6
                try clear c8
                try clear c9
                try clear c10
                try clear c11
                try clear c11b0
                try clear c11b1
                try clear c11b2
                try clear c13
                try clear c15
                try clear c16
                try clear c16b0
                try clear c17
                try clear c17b0
                try clear p17
                try clear q17
                try clear hx17
                try clear c18
                try clear c18b0
                try clear p19
                try clear q19
                try clear hx19
                try clear c20
                try clear c20b0
                try clear c20b1
                try clear c21
                try clear c27
                try clear c34
                try clear c34b0
                try clear c34b1
                try clear c36
                try clear c38
                try clear c38b0
                try clear c39
                try clear c39b0
                try clear c40
                try clear c40b0
                try clear c41
                try clear c41b0
                try clear c41b1
                try clear c42
                try clear c45
                try clear c45b0
                try clear hcz23_0
                try clear hcz23_1
                try clear hcz25_0
                try clear hcz25_1
                try clear hcz28_0
                try clear hcz28_1
                try clear hfz23_0
                try clear hfz23_1
                try clear hfz25_0
                try clear hfz25_1
                try clear hfz28_0
                try clear hfz28_1
                try clear hx179_0
                try clear hx179_1
                try clear hx190_0
                try clear p1
                try clear p17
                try clear p179
                try clear p190
                try clear p2
                try clear p6
                try clear q1
                try clear q17
                try clear q179
                try clear q190
                obtain ⟨kq, x106_42, rfl, HA, HJ42, HO_3, HO_19, HB⟩ := hcut
                cases kq with
                | zero => exact absurd HA.out (by simp [thrumlaw16_MlpRight.j4])
                | succ kj42 =>
                 have H := HA.out
                 clear HA
                 simp only [thrumlaw16_MlpRight.j4] at H
                 by_cases c46 : x106_42 = true
                 ·
                  subst c46
                  have H1 : (some false) = some r := by rw [if_pos rfl] at H; exact H
                  exact absurd (Option.some.inj H1) (by rw [HR_.out]; decide)
                 ·
                  replace c46 := Bool.eq_false_iff.mpr c46
                  subst c46
                  have H1 : (thrumlaw16_MlpRight.l2 kj42 a0 l1 a2 l3 true y191 (wrap64 ((wrap64 ((l1.length : Int) - 1)) - a0)) (wrap64 ((wrap64 ((l1.length : Int) - 1)) - a0))) = some r := by rw [if_neg (show ¬ (false = true) by decide)] at H; exact H
                  clear H
                  have H := H1
                  clear H1
                  have H' := Aside0.mk H
                  clear H
                  go_wp2
                  go_loopg [21] kj42 (fun kq v21 w' => ∃ (x19_6 : List Int) (x21_6 : Int), v21 = .int .i64 x21_6 ∧ Aside0 (thrumlaw16_MlpRight.l2 kq a0 l1 a2 l3 true x19_6 (wrap64 ((wrap64 ((l1.length : Int) - 1)) - a0)) x21_6 = some r) ∧ Aside0 (kq ≤ kj42) ∧ Aside0 (Kd.V k26 26 w' w.heap.size (fun k_ => (P3_ k_ ∨ w.heap.size ≤ k_) ∧ some k_ ≠ (v192 : Value).ownBlock) (.slice A3 l3.length c3) l3) ∧ Aside0 (Kd.R (Kd.int .i64) 2 w' w.heap.size (fun k_ => (w.heap.size ≤ k_)) v192 x19_6) ∧ Aside0 (Below w.heap.size w w'))
                  case atStart => exact ⟨(y191), ((wrap64 ((wrap64 ((l1.length : Int) - 1)) - a0))), (by first | rfl | (simp; done) | (simp [*]; done)), ⟨by first | exact H'.out | (have h_ := H'.out; rw [← hji56] at h_; exact h_)⟩, ⟨Nat.le_refl _⟩, ⟨by (with_reducible repeat (first | apply Kd.V_alloc | apply Kd.V_drewN | apply Kd.V_drew)); exact HO_3.out⟩, ⟨by (with_reducible repeat (first | apply rrA | apply rrN | apply rrD)); exact HO_19.out⟩, ⟨by repeat (first | (with_reducible first | exact HB.out | apply zzA | apply zzN | apply zzD) | exact HB.out)⟩⟩
                  case round =>
                   clear H'
                   try clear c1
                   try clear p1
                   try clear q1
                   try clear hx1
                   try clear c2
                   try clear p2
                   try clear c3
                   try clear c4
                   try clear c5
                   try clear c6
                   try clear p6
                   try clear c8
                   try clear c9
                   try clear c10
                   try clear c11
                   try clear c11b0
                   try clear c11b1
                   try clear c11b2
                   try clear c13
                   try clear c15
                   try clear c16
                   try clear c16b0
                   try clear c17
                   try clear c17b0
                   try clear p17
                   try clear q17
                   try clear hx17
                   try clear c18
                   try clear c18b0
                   try clear p19
                   try clear q19
                   try clear hx19
                   try clear c20
                   try clear c20b0
                   try clear c20b1
                   try clear c21
                   try clear c27
                   try clear c34
                   try clear c34b0
                   try clear c34b1
                   try clear c36
                   try clear c38
                   try clear c38b0
                   try clear c39
                   try clear c39b0
                   try clear c40
                   try clear c40b0
                   try clear c41
                   try clear c41b0
                   try clear c41b1
                   try clear c42
                   try clear c45
                   try clear c45b0
                   try clear c46
                   try clear hcz23_0
                   try clear hcz23_1
                   try clear hcz25_0
                   try clear hcz25_1
                   try clear hcz28_0
                   try clear hcz28_1
                   try clear hfz23_0
                   try clear hfz23_1
                   try clear hfz25_0
                   try clear hfz25_1
                   try clear hfz28_0
                   try clear hfz28_1
                   try clear hx179_0
                   try clear hx179_1
                   try clear hx190_0
                   try clear p1
                   try clear p17
                   try clear p179
                   try clear p19
                   try clear p190
                   try clear p2
                   try clear p6
                   try clear q1
                   try clear q17
                   try clear q179
                   try clear q19
                   try clear q190
                   obtain ⟨x19_6, x21_6, rfl, HA, HK6, HO_3, HO_19, HB⟩ := hrel
                   cases gk with
                   | zero => exact absurd HA.out (by simp [thrumlaw16_MlpRight.l2])
                   | succ k6 =>
                    have H := HA.out
                    clear HA
                    simp only [thrumlaw16_MlpRight.l2] at H
                    by_cases c47 : x21_6 < (wrap64 ((l1.length : Int) - 1))
                    ·
                     rw [if_pos c47] at H
                     have c47b0 : decide (x21_6 < (wrap64 ((l1.length : Int) - 1))) = true := decide_eq_true c47
                     clear c47
                     by_cases c48 : 0 ≤ x21_6
                     ·
                      rw [if_pos c48] at H
                      have c48b0 : decide (0 ≤ x21_6) = true := decide_eq_true c48
                      clear c48
                      by_cases c49 : x21_6 < (x19_6.length : Int)
                      ·
                       rw [if_pos c49] at H
                       have c49b0 : decide (x21_6 < (x19_6.length : Int)) = true := decide_eq_true c49
                       clear c49
                       obtain ⟨y194, hy194⟩ : ∃ y_ : List Int, y_ = (x19_6.set (x21_6 : Int).toNat 0) := ⟨_, rfl⟩
                       replace H : (thrumlaw16_MlpRight.l2 k6 a0 l1 a2 l3 true y194 (wrap64 ((wrap64 ((l1.length : Int) - 1)) - a0)) (wrap64 (x21_6 + 1))) = some r := by first | (rw [hy194]; with_reducible exact H) | (have H2_ := (Option.bind_some _ _).symm.trans H; rw [hy194]; with_reducible exact H2_) | (have H2_ := (Option.bind_some _ _).symm.trans H; with_reducible exact H2_) | with_reducible exact H | (rw [hy194]; exact H) | exact H
                       have Ny194 := Aside0.mk hy194
                       clear hy194
                       focus
                        have H' := Aside0.mk H
                        clear H
                        have p50 : 0 ≤ (x21_6 : Int) := of_decide_eq_true (by first | (with_reducible assumption) | assumption)
                        have q50 : (x21_6 : Int) < ((x19_6.length : Int) : Int) := of_decide_eq_true (by first | (with_reducible assumption) | assumption)
                        obtain ⟨go50, co50, eo50, gb50, gl50, cl50, HG50⟩ := Kd.R_form HO_19.out (by omega)
                        (first | cases eo50 | (injection eo50 with ea_ en_ ec_; (first | subst ea_ | (injection ea_ with ea_; subst ea_)); subst ec_; clear en_))
                        have GB50 := Aside0.mk gb50
                        have GG50 := Aside0.mk HG50
                        clear gb50 gl50 HG50
                        obtain ⟨hx50_0, hf50_0⟩ := Kd.R_celln 0 HO_19.out (x21_6 : Int) p50 q50
                        replace p50 := eq_true p50
                        replace q50 := eq_true q50
                        have HP51 := Kd.R_putg HO_19.out (x21_6 : Int) 0
                        go_wp2_with (first | ((with_reducible refine gate_store (t := 2) (p := 117) rfl ?_); refine store_event (t := 2) (p := 117) (v := ?vo_w52) (w1 := (wr.setCell ⟨go50, (x21_6 : Int).toNat, none⟩ (.int .i64 0))) ?hg ?ho ?hn ?hr ?_; (case ho => rfl); (case hg => rfl); (case hn => rfl); (case hr => first | (go_simp; done) | (go_simp; rfl)); intro w52 hw; have hg : wr.grownBy w52 (some go50) := (by rw [hw]; exact HP51.2); have hp_ : Kd.R (Kd.int .i64) 2 w52 w.heap.size (fun k_ => (w.heap.size ≤ k_)) (.slice (some ⟨go50, 0, none⟩) x19_6.length co50) y194 := (by rw [hw, Ny194.out]; exact HP51.1); clear HP51; have n0_ := Aside0.mk (Kd.V_afterv (v := (.slice (some ⟨go50, 0, none⟩) x19_6.length co50)) (v1 := (.slice (some ⟨go50, 0, none⟩) x19_6.length co50)) (ok := (fun k_ => (P3_ k_ ∨ w.heap.size ≤ k_))) (by (with_reducible repeat (first | apply Kd.V_alloc | apply Kd.V_drewN | apply Kd.V_drew)); exact HO_3.out) hg (.inl rfl)); have n1_ := Aside0.mk (hp_); have n2_ := Aside0.mk ((by rw [hw]; exact below_set (HB.out) GB50.out : Below w.heap.size w w52)); clear HO_3; clear HO_19; clear HB; have HO_3 := n0_; have HO_19 := n1_; have HB := n2_; clear n0_ n1_ n2_; clear hg hw hp_))
                        go_roundg k6
                        case measure => have := HJ6.out; have := HK2.out; have := HJ30.out; have := HK4.out; have := HJ42.out; have := HK6.out; omega
                        case rel => exact ⟨(y194), (wrap64 (x21_6 + 1)), (by first | rfl | (simp; done) | (simp [*]; done)), ⟨by first | exact H'.out | (have h_ := H'.out; rw [← hji56] at h_; exact h_)⟩, ⟨by have := HJ6.out; have := HK2.out; have := HJ30.out; have := HK4.out; have := HJ42.out; have := HK6.out; omega⟩, ⟨by (with_reducible repeat (first | apply Kd.V_alloc | apply Kd.V_drewN | apply Kd.V_drew)); exact HO_3.out⟩, ⟨by (with_reducible repeat (first | apply rrA | apply rrN | apply rrD)); exact HO_19.out⟩, ⟨by repeat (first | (with_reducible first | exact HB.out | apply zzA | apply zzN | apply zzD) | exact HB.out)⟩⟩
                      ·
                       rw [if_neg c49] at H
                       exact absurd H (by simp)
                     ·
                      rw [if_neg c48] at H
                      exact absurd H (by simp)
                    ·
                     rw [if_neg c47] at H
                     have c47b0 : decide (x21_6 < (wrap64 ((l1.length : Int) - 1))) = false := decide_eq_false c47
                     clear c47
                     replace H := Option.bind_eq_some_iff.mp H
                     obtain ⟨⟨t195, t196⟩, A530, H⟩ := H
                     replace H : (if t196 = 0 then (if (t195.length : Int) = (l1.length : Int) then (if 0 ≤ (wrap64 ((wrap64 ((l1.length : Int) - 1)) - a0)) then (if (wrap64 ((wrap64 ((l1.length : Int) - 1)) - a0)) ≤ (t195.length : Int) then ((some (t195.take ((wrap64 ((wrap64 ((l1.length : Int) - 1)) - a0)) : Int).toNat : List Int)).bind fun y199 => (thrumlaw16_MlpRight.l3 k6 true y199 (y199.length : Int) 0)) else (none)) else (none)) else (some false)) else (some true)) = some r := H
                     have A53 := Aside0.mk A530
                     clear A530
                     by_cases c54 : t196 = 0
                     ·
                      rw [if_pos c54] at H
                      have c54b0 : (t196 == 0) = true := beq_iff_eq.mpr c54
                      have c54b1 : (t196 != 0) = false := bne_eq_false_iff_eq.mpr c54
                      clear c54
                      by_cases c55 : (t195.length : Int) = (l1.length : Int)
                      ·
                       rw [if_pos c55] at H
                       have c55b0 : ((t195.length : Int) == (l1.length : Int)) = true := beq_iff_eq.mpr c55
                       have c55b1 : ((t195.length : Int) != (l1.length : Int)) = false := bne_eq_false_iff_eq.mpr c55
                       have c55b2 : (t195.length == l1.length) = true := by first | simpa using c55 | (simp at c55 ⊢; omega)
                       clear c55
                       obtain ⟨ji56, hji56⟩ : ∃ j_ : Int, (wrap64 ((wrap64 ((l1.length : Int) - 1)) - a0)) = j_ := ⟨_, rfl⟩
                       replace H : (if 0 ≤ (ji56) then (if (ji56) ≤ (t195.length : Int) then ((some (t195.take ((ji56) : Int).toNat : List Int)).bind fun y199 => (thrumlaw16_MlpRight.l3 k6 true y199 (y199.length : Int) 0)) else (none)) else (none)) = some r := by first | (rw [hji56] at H; exact H) | (simp only [hji56] at H ⊢; exact H)
                       (try rw [hji56] at A53)
                       have hji56w : (IntKind.i64.wrap ((wrap64 ((l1.length : Int) - 1)) - a0)) = ji56 := (i64_w _).trans hji56
                       by_cases c57 : 0 ≤ (ji56)
                       ·
                        rw [if_pos c57] at H
                        have c57b0 := eq_true c57
                        have c57b1 : decide (0 ≤ (ji56)) = true := decide_eq_true c57
                        clear c57
                        by_cases c58 : (ji56) ≤ (t195.length : Int)
                        ·
                         rw [if_pos c58] at H
                         have c58b0 := eq_true c58
                         have c58b1 : decide ((ji56) ≤ (t195.length : Int)) = true := decide_eq_true c58
                         clear c58
                         obtain ⟨y199, hy199⟩ : ∃ y_ : List Int, y_ = (t195.take ((ji56) : Int).toNat) := ⟨_, rfl⟩
                         replace H : (thrumlaw16_MlpRight.l3 k6 true y199 (y199.length : Int) 0) = some r := by first | (rw [hy199]; with_reducible exact H) | (have H2_ := (Option.bind_some _ _).symm.trans H; rw [hy199]; with_reducible exact H2_) | (have H2_ := (Option.bind_some _ _).symm.trans H; with_reducible exact H2_) | with_reducible exact H | (rw [hy199]; exact H) | exact H
                         have Ny199 := Aside0.mk hy199
                         clear hy199
                         have H' := Aside0.mk H
                         clear H
                         obtain ⟨Ao59, co59, eo59⟩ := Kd.R_slice HO_19.out
                         subst eo59
                         go_wp2_with (first | ((with_reducible refine gate_callee (f := 27) rfl ?_); refine goesL_ (some 123) rfl rfl Try.func27 (by kernel_rfl) rfl #[.int .i64 a0, .slice Ao59 x19_6.length co59, .int .i64 a2, .slice A3 l3.length c3] rfl (by (try simp only [List.map_toArray, List.map_cons, List.map_nil]); first | done | rfl | (simp only [List.length_drop, List.length_take]; rfl)) ?_; (with_reducible refine (mlp_Grad.calls a0 _ _ x19_6 a2 _ _ l3 t195 t196 _ ?side1 ?side2 ?side3 ?side4 A53.out).mono ?_); (case side1 => repeat (first | exact (Kd.R_reads' HO_19.out).2.2 | (with_reducible refine ccA ?_ _) | (with_reducible refine ccN ?_ _) | (with_reducible refine ccD ?_))); (case side2 => exact (Kd.R_reads' HO_19.out).2.1); (case side3 => repeat (first | exact (Kd.V_reads' HO_3.out).2.2 | (with_reducible refine ccA ?_ _) | (with_reducible refine ccN ?_ _) | (with_reducible refine ccD ?_))); (case side4 => exact (Kd.V_reads' HO_3.out).2.1); rintro e w60 ⟨v197, rfl, ho0, hb⟩; refine ⟨_, rfl, ?_⟩; have n0_ := Aside0.mk (Kd.V_elder' (by (with_reducible repeat (first | apply Kd.V_alloc | apply Kd.V_drewN | apply Kd.V_drew)); exact HO_3.out) (Kd.R_base ho0) hb); have n1_ := Aside0.mk (Kd.R_elder' (by (with_reducible repeat (first | apply rrA | apply rrN | apply rrD)); exact HO_19.out) (Kd.R_base ho0) hb); have n2_ := Aside0.mk (Kd.R_lower (Kd.R_new' (Kd.R_newM (M := fun k_ => (w.heap.size ≤ k_)) ho0 (zzS (by repeat (first | (with_reducible first | exact HB.out | apply zzA | apply zzN | apply zzD) | exact HB.out))) (fun k_ h_ => h_)) (Kd.R_lt (by (with_reducible repeat (first | apply rrA | apply rrN | apply rrD)); exact HO_19.out))) (zzS (by repeat (first | (with_reducible first | exact HB.out | apply zzA | apply zzN | apply zzD) | exact HB.out)))); have n3_ := Aside0.mk (zzT (by repeat (first | (with_reducible first | exact HB.out | apply zzA | apply zzN | apply zzD) | exact HB.out)) hb); clear HO_3; clear HO_19; clear HB; have HO_3 := n0_; have HO_19 := n1_; have HO198 := n2_; have HB := n3_; clear n0_ n1_ n2_ n3_; (try clear hb); (try clear hb2); (try clear hk); (try clear hi); (try clear ho0); obtain ⟨Ao61, co61, eo61⟩ := Kd.R_slice HO198.out; subst eo61; have q62 : ((ji56) : Int) ≤ ((t195.length : Int) : Int) := of_decide_eq_true (by first | (with_reducible assumption) | assumption); obtain ⟨i062, hi062, _, hsz62, _⟩ := info_parts info2; have hroom62 : t195.length ≤ co61 := (Kd.R_reads' HO198.out).2.1; have hC62 : Kd.F (Kd.int .i64) _ _ Ao61 t195.length t195 := (Kd.V_at (base := w.heap.size) (Kd.V_mono (ok' := (fun k_ => (((P3_ k_ ∨ w.heap.size ≤ k_) ∧ True) ∧ some k_ ≠ (.slice Ao59 x19_6.length co59 : Value).ownBlock))) (Kd.R_V HO198.out) (fun k_ hk => ⟨⟨(.inr (hk.1.1)), trivial⟩, hk.2⟩))).2.2; have hcut62 := cut_to (P := Try.prog) 22 2 .i64 Try.underlying22 hi062 Ao61 t195.length co61 (ji56) (of_decide_eq_true (by first | (with_reducible assumption) | assumption)) q62 hroom62; have hr62 := Kd.F_take (m := ((ji56) : Int).toNat) hC62 (by omega); have hy62 : y199.length = ((ji56) : Int).toNat := (by rw [Ny199.out, List.length_take]; omega); rw [← Ny199.out] at hr62; rw [← hy62] at hcut62; have HO203 := Aside0.mk (show Kd.V (Kd.int .i64) 2 _ w.heap.size _ (.slice Ao61 y199.length co61) y199 from Kd.V_mk (by omega) hr62); have HC203 := Aside0.mk (show y199.length ≤ co61 from by omega); clear hr62 hC62 hroom62 hi062 hsz62; have KY62 := Aside0.mk hy62; clear hy62; replace q62 := eq_true q62))
                         go_loopg [138] k6 (fun kq v138 w' => ∃ (x138_7 : Int), v138 = .int .i64 x138_7 ∧ Aside0 (thrumlaw16_MlpRight.l3 kq true y199 (y199.length : Int) x138_7 = some r) ∧ Aside0 (kq ≤ k6) ∧ Aside0 (Kd.V (Kd.int .i64) 2 w' w.heap.size (fun k_ => (P3_ k_ ∨ w.heap.size ≤ k_)) (.slice Ao61 y199.length co61) y199) ∧ Aside0 (Below w.heap.size w w'))
                         case atStart => exact ⟨(0), (by first | rfl | (simp; done) | (simp [*]; done)), ⟨by first | exact H'.out | (have h_ := H'.out; rw [← hji56] at h_; exact h_)⟩, ⟨Nat.le_refl _⟩, ⟨by (with_reducible repeat (first | apply Kd.V_alloc | apply Kd.V_drewN | apply Kd.V_drew)); exact Kd.V_mono HO203.out (fun _ hk => hk.1.1)⟩, ⟨by repeat (first | (with_reducible first | exact HB.out | apply zzA | apply zzN | apply zzD) | exact HB.out)⟩⟩
                         case round =>
                          clear H'
                          try clear c1
                          try clear p1
                          try clear q1
                          try clear hx1
                          try clear c2
                          try clear p2
                          try clear c3
                          try clear c4
                          try clear c5
                          try clear p5
                          try clear q5
                          try clear hx5
                          try clear hf5
                          try clear c6
                          try clear p6
                          try clear q6
                          try clear c8
                          try clear c9
                          try clear c10
                          try clear c11
                          try clear c11b0
                          try clear c11b1
                          try clear c11b2
                          try clear c13
                          try clear c15
                          try clear c16
                          try clear c16b0
                          try clear c17
                          try clear c17b0
                          try clear p17
                          try clear q17
                          try clear hx17
                          try clear c18
                          try clear c18b0
                          try clear p19
                          try clear q19
                          try clear hx19
                          try clear c20
                          try clear c20b0
                          try clear c20b1
                          try clear c21
                          try clear c27
                          try clear c34
                          try clear c34b0
                          try clear c34b1
                          try clear c36
                          try clear c38
                          try clear c38b0
                          try clear c39
                          try clear c39b0
                          try clear c40
                          try clear c40b0
                          try clear c41
                          try clear c41b0
                          try clear c41b1
                          try clear c42
                          try clear c45
                          try clear c45b0
                          try clear c46
                          try clear c47
                          try clear c47b0
                          try clear c48
                          try clear c48b0
                          try clear c49
                          try clear c49b0
                          try clear p50
                          try clear q50
                          try clear hx50
                          try clear hf50
                          try clear c54
                          try clear c54b0
                          try clear c54b1
                          try clear c55
                          try clear c55b0
                          try clear c55b1
                          try clear c55b2
                          try clear c57
                          try clear c57b0
                          try clear c57b1
                          try clear c58
                          try clear c58b0
                          try clear c58b1
                          try clear q62
                          try clear hcz23_0
                          try clear hcz23_1
                          try clear hcz25_0
                          try clear hcz25_1
                          try clear hcz28_0
                          try clear hcz28_1
                          try clear hfz23_0
                          try clear hfz23_1
                          try clear hfz25_0
                          try clear hfz25_1
                          try clear hfz28_0
                          try clear hfz28_1
                          try clear hx179_0
                          try clear hx179_1
                          try clear hx190_0
                          try clear hx50_0
                          try clear p1
                          try clear p17
                          try clear p179
                          try clear p19
                          try clear p190
                          try clear p2
                          try clear p50
                          try clear p6
                          try clear q1
                          try clear q17
                          try clear q179
                          try clear q19
                          try clear q190
                          try clear q50
                          try clear q62
                          obtain ⟨x138_7, rfl, HA, HK7, HO_136, HB⟩ := hrel
                          cases gk with
                          | zero => exact absurd HA.out (by simp [thrumlaw16_MlpRight.l3])
                          | succ k7 =>
                           have H := HA.out
                           clear HA
                           simp only [thrumlaw16_MlpRight.l3] at H
                           by_cases c63 : x138_7 < (y199.length : Int)
                           ·
                            rw [if_pos c63] at H
                            have c63b0 : decide (x138_7 < (y199.length : Int)) = true := decide_eq_true c63
                            clear c63
                            by_cases c64 : 0 ≤ x138_7
                            ·
                             rw [if_pos c64] at H
                             have c64b0 : decide (0 ≤ x138_7) = true := decide_eq_true c64
                             clear c64
                             by_cases c65 : x138_7 < (y199.length : Int)
                             ·
                              rw [if_pos c65] at H
                              have c65b0 : decide (x138_7 < (y199.length : Int)) = true := decide_eq_true c65
                              clear c65
                              by_cases c66 : (rd y199 x138_7) = 0
                              ·
                               rw [if_pos c66] at H
                               have c66b0 : ((rd y199 x138_7) == 0) = true := beq_iff_eq.mpr c66
                               have c66b1 : ((rd y199 x138_7) != 0) = false := bne_eq_false_iff_eq.mpr c66
                               clear c66
                               focus
                                have H' := Aside0.mk H
                                clear H
                                have p204 : 0 ≤ (x138_7 : Int) := of_decide_eq_true (by first | (with_reducible assumption) | assumption)
                                have q204 : x138_7 < (y199.length : Int) := of_decide_eq_true (by first | (with_reducible assumption) | assumption)
                                obtain ⟨ad204, e204, hx204_0⟩ := Kd.at_int (Kd.V_reads' HO_136.out).2.2 x138_7 p204 q204
                                cases e204
                                replace p204 := eq_true p204
                                replace q204 := eq_true q204
                                go_wp2
                                go_roundg k7
                                case measure => have := HJ6.out; have := HK2.out; have := HJ30.out; have := HK4.out; have := HJ42.out; have := HK6.out; have := HK7.out; omega
                                case rel => exact ⟨(wrap64 (x138_7 + 1)), (by first | rfl | (simp; done) | (simp [*]; done)), ⟨by first | exact H'.out | (have h_ := H'.out; rw [← hji56] at h_; exact h_)⟩, ⟨by have := HJ6.out; have := HK2.out; have := HJ30.out; have := HK4.out; have := HJ42.out; have := HK6.out; have := HK7.out; omega⟩, ⟨by (with_reducible repeat (first | apply Kd.V_alloc | apply Kd.V_drewN | apply Kd.V_drew)); exact HO_136.out⟩, ⟨by repeat (first | (with_reducible first | exact HB.out | apply zzA | apply zzN | apply zzD) | exact HB.out)⟩⟩
                              ·
                               rw [if_neg c66] at H
                               exact absurd (Option.some.inj H) (by rw [HR_.out]; decide)
                             ·
                              rw [if_neg c65] at H
                              exact absurd H (by simp)
                            ·
                             rw [if_neg c64] at H
                             exact absurd H (by simp)
                           ·
                            rw [if_neg c63] at H
                            have c63b0 : decide (x138_7 < (y199.length : Int)) = false := decide_eq_false c63
                            clear c63
                            focus
                             obtain rfl := Option.some.inj H
                             go_wp2
                             go_ret
                             exact ⟨by first | rfl | (simp [errW_none, errW_some] <;> rfl) | (simp only [← hji56]; first | rfl | (simp [errW_none, errW_some] <;> rfl)) | (simp [*, errW_none, errW_some] <;> rfl), by repeat (first | (with_reducible first | exact HB.out | apply zzA | apply zzN | apply zzD) | exact HB.out)⟩
                        ·
                         rw [if_neg c58] at H
                         exact absurd H (by simp)
                       ·
                        rw [if_neg c57] at H
                        exact absurd H (by simp)
                      ·
                       rw [if_neg c55] at H
                       exact absurd (Option.some.inj H) (by rw [HR_.out]; decide)
                     ·
                      rw [if_neg c54] at H
                      have c54b0 : (t196 == 0) = false := beq_eq_false_iff_ne.mpr c54
                      have c54b1 : (t196 != 0) = true := bne_iff_ne.mpr c54
                      focus
                       obtain rfl := Option.some.inj H
                       obtain ⟨Ao70, co70, eo70⟩ := Kd.R_slice HO_19.out
                       subst eo70
                       go_wp2_with (first | ((with_reducible refine gate_callee (f := 27) rfl ?_); refine goesL_ (some 123) rfl rfl Try.func27 (by kernel_rfl) rfl #[.int .i64 a0, .slice Ao70 x19_6.length co70, .int .i64 a2, .slice A3 l3.length c3] rfl (by (try simp only [List.map_toArray, List.map_cons, List.map_nil]); first | done | rfl | (simp only [List.length_drop, List.length_take]; rfl)) ?_; (with_reducible refine (mlp_Grad.calls a0 _ _ x19_6 a2 _ _ l3 t195 t196 _ ?side1 ?side2 ?side3 ?side4 A53.out).mono ?_); (case side1 => repeat (first | exact (Kd.R_reads' HO_19.out).2.2 | (with_reducible refine ccA ?_ _) | (with_reducible refine ccN ?_ _) | (with_reducible refine ccD ?_))); (case side2 => exact (Kd.R_reads' HO_19.out).2.1); (case side3 => repeat (first | exact (Kd.V_reads' HO_3.out).2.2 | (with_reducible refine ccA ?_ _) | (with_reducible refine ccN ?_ _) | (with_reducible refine ccD ?_))); (case side4 => exact (Kd.V_reads' HO_3.out).2.1); rintro e w71 ⟨v197, rfl, ho0, hb⟩; refine ⟨_, rfl, ?_⟩; have n0_ := Aside0.mk (Kd.V_elder' (by (with_reducible repeat (first | apply Kd.V_alloc | apply Kd.V_drewN | apply Kd.V_drew)); exact HO_3.out) (Kd.R_base ho0) hb); have n1_ := Aside0.mk (Kd.R_elder' (by (with_reducible repeat (first | apply rrA | apply rrN | apply rrD)); exact HO_19.out) (Kd.R_base ho0) hb); have n2_ := Aside0.mk (Kd.R_lower (Kd.R_new' (Kd.R_newM (M := fun k_ => (w.heap.size ≤ k_)) ho0 (zzS (by repeat (first | (with_reducible first | exact HB.out | apply zzA | apply zzN | apply zzD) | exact HB.out))) (fun k_ h_ => h_)) (Kd.R_lt (by (with_reducible repeat (first | apply rrA | apply rrN | apply rrD)); exact HO_19.out))) (zzS (by repeat (first | (with_reducible first | exact HB.out | apply zzA | apply zzN | apply zzD) | exact HB.out)))); have n3_ := Aside0.mk (zzT (by repeat (first | (with_reducible first | exact HB.out | apply zzA | apply zzN | apply zzD) | exact HB.out)) hb); clear HO_3; clear HO_19; clear HB; have HO_3 := n0_; have HO_19 := n1_; have HO198 := n2_; have HB := n3_; clear n0_ n1_ n2_ n3_; (try clear hb); (try clear hb2); (try clear hk); (try clear hi); (try clear ho0)))
                       go_ret
                       exact ⟨by first | rfl | (simp [errW_none, errW_some] <;> rfl) | (simp [*, errW_none, errW_some] <;> rfl), by repeat (first | (with_reducible first | exact HB.out | apply zzA | apply zzN | apply zzD) | exact HB.out)⟩
              ·
               rw [if_neg c42] at H
               exact absurd H (by simp)
 ·
  replace c6 := Bool.eq_false_iff.mpr c6
  subst c6
  have H1 : (some false) = some r := by rw [if_neg (show ¬ (false = true) by decide)] at H; exact H
  exact absurd (Option.some.inj H1) (by rw [HR_.out]; decide)

/-- THE ONE PURE STATEMENT of thrumlaw16_MlpRight: yours. -/
def thrumlaw16_MlpRight.Pure : Prop := ∀ (a0 : Int) (l1 : List Int) (a2 : Int) (l3 : List (S26)), (Lit.int .i64 a0).wf = true → l1.length ≤ maxLen → l1.length * 8 ≤ 140737488351232 → (∀ x ∈ l1, (Lit.int .i64 x).wf = true) → (Lit.int .i64 a2).wf = true → (l3.length ≤ maxLen ∧ ∀ x__ ∈ l3, ((x__.f0.length ≤ maxLen ∧ ∀ x2__ ∈ x__.f0, (Lit.int .i64 x2__).wf = true) ∧ (Lit.int .i64 x__.f1).wf = true ∧ True)) → ∃ k, thrumlaw16_MlpRight.f k a0 l1 a2 l3 = some true
theorem thrumlaw16_MlpRight.walk (P : thrumlaw16_MlpRight.Pure) (a0 : Int) (a1 : Option Addr) (len1 cap1 : Nat) (z1 : List Int) (a2 : Int) (A3 : Option Addr) (c3 : Nat) (l3 : List (S26)) (w : World) (w0 : (Lit.int .i64 a0).wf = true) (w1 : (a1 = none ∧ len1 = 0 ∧ cap1 = 0 ∧ z1 = []) ∨ ∃ x, a1 = some x ∧ len1 ≤ cap1 ∧ cap1 ≤ maxLen ∧ z1.length = cap1 ∧ (∀ i, i < z1.length → w.cell? (x.add i) = some (.int .i64 (z1.getD i 0))) ∧ ∀ n ∈ z1, (Lit.int .i64 n).wf = true) (y1 : len1 * 8 ≤ 140737488351232) (w2 : (Lit.int .i64 a2).wf = true) (hr3 : Kd.C k26 w A3 l3.length l3) (hc3 : l3.length ≤ c3) (hg3 : (l3.length ≤ maxLen ∧ ∀ x__ ∈ l3, ((x__.f0.length ≤ maxLen ∧ ∀ x2__ ∈ x__.f0, (Lit.int .i64 x2__).wf = true) ∧ (Lit.int .i64 x__.f1).wf = true ∧ True))) :
  Calls Try.prog 5 #[.int .i64 a0, .slice a1 len1 cap1, .int .i64 a2, .slice A3 l3.length c3] w fun e w' => e = .returned (.bool true) ∧ Below w.heap.size w w' := by
 obtain ⟨l1, rfl, hr1, hm1, hw1, hc1⟩ := ReadsInt.ofRowC w1
 obtain ⟨k, h⟩ := P a0 l1 a2 l3 w0 hm1 y1 hw1 w2 hg3
 refine (thrumlaw16_MlpRight.calls k a0 _ _ l1 a2 (fun k_ => k_ < w.heap.size) _ _ l3 true w (Kd.C_of_reads (d := (0 : Int)) (h1 := fun _ => rfl) hr1) hc1 (Kd.V_mk hc3 (Kd.C_F k26_heap hr3)) h rfl).mono ?_
 rintro e w' ⟨rfl, hd⟩
 exact ⟨rfl, hd⟩



















































































































































































































































































































































































































































































































































































































































































































































































































































































































































































































































end Go.Proofs.Ytalamamjodihaaa.HR
