/- What Go functions do, each as a plain Lean function with the same answers, and the proof of it, in every world: printed by the session's driver over the kit's print, with texts by hand. -/
import Derived.Test.YtalamamjodihaaaHOx0
import Derived.Test.YtalamamjodihaaaHOx2
import Derived.Test.YtalamamjodihaaaHOx3
import Derived.Test.YtalamamjodihaaaHOx4
import Derived.Test.YtalamamjodihaaaHOx8
import Derived.Test.YtalamamjodihaaaHOx16
namespace Go.Proofs.Ytalamamjodihaaa.HO
open Go.RowKit Go.Proofs.YtalamamjodihaaaW.PrintWords Go.Proofs.YtalamamjodihaaaW.PrintLast Go.Proofs.YtalamamjodihaaaW.PrintMore
attribute [local go_sem] max2_int min2_int max_two min_two max_three min_three max_four min_four   -- for this text's walks alone
open Go.Proofs.Ytalamamjodihaaa.Sp
attribute [local go_sem] Go.Proofs.Ytalamamjodihaaa.Sp.u64_not
set_option linter.unusedVariables false
set_option linter.unusedSimpArgs false

/-! ### thrumlaw16_MlpBends: function 6 -/
mutual
def thrumlaw16_MlpBends.j0 : Nat → Int → List Int → Bool → List Int → List Int → Bool → Option (Bool)
 | 0, _, _, _, _, _, _ => none
 | k + 1, x1, x2, x11, x12, x13, x17 => thrumlaw16_MlpBends.l0 k x1 x2 x11 x12 x13 x17 (x13.length : Int) 0
def thrumlaw16_MlpBends.l0 : Nat → Int → List Int → Bool → List Int → List Int → Bool → Int → Int → Option (Bool)
 | 0, _, _, _, _, _, _, _, _ => none
 | k + 1, x1, x2, x11, x12, x13, x17, x74, x75 => if x75 < x74 then (if 0 ≤ x75 then (if x75 < (x13.length : Int) then (thrumlaw16_MlpBends.l0 k x1 x2 x11 x12 (x13.set (x75 : Int).toNat (wrap64 ((rd x13 x75) + 1))) x17 x74 (wrap64 (x75 + 1))) else (none)) else (none)) else ((mlp_Split.f x1 x2).bind fun bt371 => (thrumlaw16_MlpBends.l1 k x2 x11 x12 x17 bt371.1 bt371.2.1 (bt371.2.1.length : Int) 0))
def thrumlaw16_MlpBends.l1 : Nat → List Int → Bool → List Int → Bool → List (List Int) → List Int → Int → Int → Option (Bool)
 | 0, _, _, _, _, _, _, _, _ => none
 | k + 1, x2, x11, x12, x17, x19, x20, x93, x94 => if x94 < x93 then (if 0 ≤ x94 then (if x94 < (x20.length : Int) then (thrumlaw16_MlpBends.l1 k x2 x11 x12 x17 x19 (x20.set (x94 : Int).toNat (wrap64 ((rd x20 x94) + 1))) x93 (wrap64 (x94 + 1))) else (none)) else (none)) else (thrumlaw16_MlpBends.l2 k x2 x11 x12 x17 x19 (x19.length : Int) 0)
def thrumlaw16_MlpBends.l2 : Nat → List Int → Bool → List Int → Bool → List (List Int) → Int → Int → Option (Bool)
 | 0, _, _, _, _, _, _, _ => none
 | k + 1, x2, x11, x12, x17, x104, x105, x106 => if x106 < x105 then (if 0 ≤ x106 then (if x106 < (x104.length : Int) then (thrumlaw16_MlpBends.l2 k x2 x11 x12 x17 x104 x105 (wrap64 (x106 + 1))) else (none)) else (none)) else (if x11 = true then (if x17 = true then ((thrumref02_Same.f x2 x12).bind fun t381 => (some t381)) else (some false)) else (some false))
end
def thrumlaw16_MlpBends.f (k : Nat) (a0 : Int) (a1 : Int) (l2 : List Int) (a3 : Int) (l4 : List (S26)) : Option (Bool) := (thrumlaw16_live.f).bind fun t353 => (if t353 = true then ((thrumref14_Few.f l2 l4).bind fun t354 => (if t354 = true then (if ([] : List Int).length + l2.length < 17592186044416 then ((some (([] : List Int) ++ l2 : List Int)).bind fun y355 => ((mlp_Grad.f a1 l2 a3 l4).bind fun bt358 => ((thrumref16_Grad.f a1 l2 a3 l4).bind fun bt362 => ((thrumref02_Same.f bt358.1 bt362.1).bind fun t366 => (if t366 = true then (if bt358.2 = bt362.2 then ((mlp_Check.f a0 a1 l2 l4).bind fun t367 => ((thrumref16_Check.f a0 a1 l2 l4).bind fun t368 => (thrumlaw16_MlpBends.j0 k a1 l2 t353 y355 bt358.1 (t367 == t368)))) else (thrumlaw16_MlpBends.j0 k a1 l2 t353 y355 bt358.1 false)) else (thrumlaw16_MlpBends.j0 k a1 l2 t353 y355 bt358.1 false)))))) else (none)) else (some t353))) else (some false))
theorem thrumlaw16_MlpBends.mono_l : ∀ k, (∀ y0 y1 y2 y3 y4 y5, LeO (thrumlaw16_MlpBends.j0 k y0 y1 y2 y3 y4 y5) (thrumlaw16_MlpBends.j0 (k + 1) y0 y1 y2 y3 y4 y5)) ∧ (∀ y0 y1 y2 y3 y4 y5 y6 y7, LeO (thrumlaw16_MlpBends.l0 k y0 y1 y2 y3 y4 y5 y6 y7) (thrumlaw16_MlpBends.l0 (k + 1) y0 y1 y2 y3 y4 y5 y6 y7)) ∧ (∀ y0 y1 y2 y3 y4 y5 y6 y7, LeO (thrumlaw16_MlpBends.l1 k y0 y1 y2 y3 y4 y5 y6 y7) (thrumlaw16_MlpBends.l1 (k + 1) y0 y1 y2 y3 y4 y5 y6 y7)) ∧ (∀ y0 y1 y2 y3 y4 y5 y6, LeO (thrumlaw16_MlpBends.l2 k y0 y1 y2 y3 y4 y5 y6) (thrumlaw16_MlpBends.l2 (k + 1) y0 y1 y2 y3 y4 y5 y6))
 | 0 => ⟨fun _ _ _ _ _ _ r h => by simp [thrumlaw16_MlpBends.j0] at h, fun _ _ _ _ _ _ _ _ r h => by simp [thrumlaw16_MlpBends.l0] at h, fun _ _ _ _ _ _ _ _ r h => by simp [thrumlaw16_MlpBends.l1] at h, fun _ _ _ _ _ _ _ r h => by simp [thrumlaw16_MlpBends.l2] at h⟩
 | k + 1 => by
  obtain ⟨ih0, ih1, ih2, ih3⟩ := thrumlaw16_MlpBends.mono_l k
  refine ⟨?_, ?_, ?_, ?_⟩
  ·
   intro y0 y1 y2 y3 y4 y5
   unfold thrumlaw16_MlpBends.j0
   repeat' first
   | (with_reducible exact ih0 _ _ _ _ _ _)
   | (with_reducible exact ih1 _ _ _ _ _ _ _ _)
   | (with_reducible exact ih2 _ _ _ _ _ _ _ _)
   | (with_reducible exact ih3 _ _ _ _ _ _ _)
   | (with_reducible exact LeO.refl _)
   | (with_reducible exact LeO.none _)
   | (with_reducible refine LeO.ite ?_ ?_)
   | (with_reducible refine LeO.bind ?_ (fun _ => ?_))
   | exact ih0 _ _ _ _ _ _
   | exact ih1 _ _ _ _ _ _ _ _
   | exact ih2 _ _ _ _ _ _ _ _
   | exact ih3 _ _ _ _ _ _ _
   | exact LeO.none _
   | refine LeO.ite ?_ ?_
   | refine LeO.bind ?_ (fun _ => ?_)
  ·
   intro y0 y1 y2 y3 y4 y5 y6 y7
   unfold thrumlaw16_MlpBends.l0
   repeat' first
   | (with_reducible exact ih0 _ _ _ _ _ _)
   | (with_reducible exact ih1 _ _ _ _ _ _ _ _)
   | (with_reducible exact ih2 _ _ _ _ _ _ _ _)
   | (with_reducible exact ih3 _ _ _ _ _ _ _)
   | (with_reducible exact LeO.refl _)
   | (with_reducible exact LeO.none _)
   | (with_reducible refine LeO.ite ?_ ?_)
   | (with_reducible refine LeO.bind ?_ (fun _ => ?_))
   | exact ih0 _ _ _ _ _ _
   | exact ih1 _ _ _ _ _ _ _ _
   | exact ih2 _ _ _ _ _ _ _ _
   | exact ih3 _ _ _ _ _ _ _
   | exact LeO.none _
   | refine LeO.ite ?_ ?_
   | refine LeO.bind ?_ (fun _ => ?_)
  ·
   intro y0 y1 y2 y3 y4 y5 y6 y7
   unfold thrumlaw16_MlpBends.l1
   repeat' first
   | (with_reducible exact ih0 _ _ _ _ _ _)
   | (with_reducible exact ih1 _ _ _ _ _ _ _ _)
   | (with_reducible exact ih2 _ _ _ _ _ _ _ _)
   | (with_reducible exact ih3 _ _ _ _ _ _ _)
   | (with_reducible exact LeO.refl _)
   | (with_reducible exact LeO.none _)
   | (with_reducible refine LeO.ite ?_ ?_)
   | (with_reducible refine LeO.bind ?_ (fun _ => ?_))
   | exact ih0 _ _ _ _ _ _
   | exact ih1 _ _ _ _ _ _ _ _
   | exact ih2 _ _ _ _ _ _ _ _
   | exact ih3 _ _ _ _ _ _ _
   | exact LeO.none _
   | refine LeO.ite ?_ ?_
   | refine LeO.bind ?_ (fun _ => ?_)
  ·
   intro y0 y1 y2 y3 y4 y5 y6
   unfold thrumlaw16_MlpBends.l2
   repeat' first
   | (with_reducible exact ih0 _ _ _ _ _ _)
   | (with_reducible exact ih1 _ _ _ _ _ _ _ _)
   | (with_reducible exact ih2 _ _ _ _ _ _ _ _)
   | (with_reducible exact ih3 _ _ _ _ _ _ _)
   | (with_reducible exact LeO.refl _)
   | (with_reducible exact LeO.none _)
   | (with_reducible refine LeO.ite ?_ ?_)
   | (with_reducible refine LeO.bind ?_ (fun _ => ?_))
   | exact ih0 _ _ _ _ _ _
   | exact ih1 _ _ _ _ _ _ _ _
   | exact ih2 _ _ _ _ _ _ _ _
   | exact ih3 _ _ _ _ _ _ _
   | exact LeO.none _
   | refine LeO.ite ?_ ?_
   | refine LeO.bind ?_ (fun _ => ?_)
theorem thrumlaw16_MlpBends.mono : ∀ a0 a1 a2 a3 a4 k, LeO (thrumlaw16_MlpBends.f k a0 a1 a2 a3 a4) (thrumlaw16_MlpBends.f (k + 1) a0 a1 a2 a3 a4) := by
 intro a0 a1 a2 a3 a4 k
 obtain ⟨ih0, ih1, ih2, ih3⟩ := thrumlaw16_MlpBends.mono_l k
 unfold thrumlaw16_MlpBends.f
 repeat' first
   | (with_reducible exact ih0 _ _ _ _ _ _)
   | (with_reducible exact ih1 _ _ _ _ _ _ _ _)
   | (with_reducible exact ih2 _ _ _ _ _ _ _ _)
   | (with_reducible exact ih3 _ _ _ _ _ _ _)
   | (with_reducible exact LeO.refl _)
   | (with_reducible exact LeO.none _)
   | (with_reducible refine LeO.ite ?_ ?_)
   | (with_reducible refine LeO.bind ?_ (fun _ => ?_))
   | exact ih0 _ _ _ _ _ _
   | exact ih1 _ _ _ _ _ _ _ _
   | exact ih2 _ _ _ _ _ _ _ _
   | exact ih3 _ _ _ _ _ _ _
   | exact LeO.none _
   | refine LeO.ite ?_ ?_
   | refine LeO.bind ?_ (fun _ => ?_)
set_option maxHeartbeats 80000000 in
set_option maxRecDepth 100000 in
theorem thrumlaw16_MlpBends.calls (k : Nat) (a0 : Int) (a1 : Int) (A2 : Option Addr) (c2 : Nat) (l2 : List Int) (a3 : Int) (A4 : Option Addr) (c4 : Nat) (l4 : List (S26)) (r : Bool) (w : World) (hr2 : Kd.C (Kd.int .i64) w A2 l2.length l2) (hc2 : l2.length ≤ c2) (hr4 : Kd.C k26 w A4 l4.length l4) (hc4 : l4.length ≤ c4) (h : thrumlaw16_MlpBends.f k a0 a1 l2 a3 l4 = some r) (hr_ : r = true) :
  Calls Try.prog 6 #[.int .i64 a0, .int .i64 a1, .slice A2 l2.length c2, .int .i64 a3, .slice A4 l4.length c4] w fun e w' => e = .returned (.bool r) ∧ Below w.heap.size w w' := by
 have HR_ := Aside0.mk hr_
 clear hr_
 have HR2 := Aside0.mk hr2
 have HC2 := Aside0.mk hc2
 clear hr2 hc2
 have HR4 := Aside0.mk hr4
 have HC4 := Aside0.mk hc4
 clear hr4 hc4
 have HB := Aside0.mk (Below.refl w.heap.size w)
 have H : ((thrumlaw16_live.f).bind fun t353 => (if t353 = true then ((thrumref14_Few.f l2 l4).bind fun t354 => (if t354 = true then (if ([] : List Int).length + l2.length < 17592186044416 then ((some (([] : List Int) ++ l2 : List Int)).bind fun y355 => ((mlp_Grad.f a1 l2 a3 l4).bind fun bt358 => ((thrumref16_Grad.f a1 l2 a3 l4).bind fun bt362 => ((thrumref02_Same.f bt358.1 bt362.1).bind fun t366 => (if t366 = true then (if bt358.2 = bt362.2 then ((mlp_Check.f a0 a1 l2 l4).bind fun t367 => ((thrumref16_Check.f a0 a1 l2 l4).bind fun t368 => (thrumlaw16_MlpBends.j0 k a1 l2 t353 y355 bt358.1 (t367 == t368)))) else (thrumlaw16_MlpBends.j0 k a1 l2 t353 y355 bt358.1 false)) else (thrumlaw16_MlpBends.j0 k a1 l2 t353 y355 bt358.1 false)))))) else (none)) else (some t353))) else (some false))) = some r := h
 clear h
 replace H := Option.bind_eq_some_iff.mp H
 obtain ⟨t353, A60, H⟩ := H
 replace H : (if t353 = true then ((thrumref14_Few.f l2 l4).bind fun t354 => (if t354 = true then (if ([] : List Int).length + l2.length < 17592186044416 then ((some (([] : List Int) ++ l2 : List Int)).bind fun y355 => ((mlp_Grad.f a1 l2 a3 l4).bind fun bt358 => ((thrumref16_Grad.f a1 l2 a3 l4).bind fun bt362 => ((thrumref02_Same.f bt358.1 bt362.1).bind fun t366 => (if t366 = true then (if bt358.2 = bt362.2 then ((mlp_Check.f a0 a1 l2 l4).bind fun t367 => ((thrumref16_Check.f a0 a1 l2 l4).bind fun t368 => (thrumlaw16_MlpBends.j0 k a1 l2 t353 y355 bt358.1 (t367 == t368)))) else (thrumlaw16_MlpBends.j0 k a1 l2 t353 y355 bt358.1 false)) else (thrumlaw16_MlpBends.j0 k a1 l2 t353 y355 bt358.1 false)))))) else (none)) else (some t353))) else (some false)) = some r := H
 have A6 := Aside0.mk A60
 clear A60
 by_cases c7 : t353 = true
 ·
  subst c7
  have H1 : ((thrumref14_Few.f l2 l4).bind fun t354 => (if t354 = true then (if ([] : List Int).length + l2.length < 17592186044416 then ((some (([] : List Int) ++ l2 : List Int)).bind fun y355 => ((mlp_Grad.f a1 l2 a3 l4).bind fun bt358 => ((thrumref16_Grad.f a1 l2 a3 l4).bind fun bt362 => ((thrumref02_Same.f bt358.1 bt362.1).bind fun t366 => (if t366 = true then (if bt358.2 = bt362.2 then ((mlp_Check.f a0 a1 l2 l4).bind fun t367 => ((thrumref16_Check.f a0 a1 l2 l4).bind fun t368 => (thrumlaw16_MlpBends.j0 k a1 l2 true y355 bt358.1 (t367 == t368)))) else (thrumlaw16_MlpBends.j0 k a1 l2 true y355 bt358.1 false)) else (thrumlaw16_MlpBends.j0 k a1 l2 true y355 bt358.1 false)))))) else (none)) else (some true))) = some r := by rw [if_pos rfl] at H; exact H
  clear H
  have H := H1
  clear H1
  replace H := Option.bind_eq_some_iff.mp H
  obtain ⟨t354, A80, H⟩ := H
  replace H : (if t354 = true then (if ([] : List Int).length + l2.length < 17592186044416 then ((some (([] : List Int) ++ l2 : List Int)).bind fun y355 => ((mlp_Grad.f a1 l2 a3 l4).bind fun bt358 => ((thrumref16_Grad.f a1 l2 a3 l4).bind fun bt362 => ((thrumref02_Same.f bt358.1 bt362.1).bind fun t366 => (if t366 = true then (if bt358.2 = bt362.2 then ((mlp_Check.f a0 a1 l2 l4).bind fun t367 => ((thrumref16_Check.f a0 a1 l2 l4).bind fun t368 => (thrumlaw16_MlpBends.j0 k a1 l2 true y355 bt358.1 (t367 == t368)))) else (thrumlaw16_MlpBends.j0 k a1 l2 true y355 bt358.1 false)) else (thrumlaw16_MlpBends.j0 k a1 l2 true y355 bt358.1 false)))))) else (none)) else (some true)) = some r := H
  have A8 := Aside0.mk A80
  clear A80
  by_cases c9 : t354 = true
  ·
   subst c9
   have H1 : (if ([] : List Int).length + l2.length < 17592186044416 then ((some (([] : List Int) ++ l2 : List Int)).bind fun y355 => ((mlp_Grad.f a1 l2 a3 l4).bind fun bt358 => ((thrumref16_Grad.f a1 l2 a3 l4).bind fun bt362 => ((thrumref02_Same.f bt358.1 bt362.1).bind fun t366 => (if t366 = true then (if bt358.2 = bt362.2 then ((mlp_Check.f a0 a1 l2 l4).bind fun t367 => ((thrumref16_Check.f a0 a1 l2 l4).bind fun t368 => (thrumlaw16_MlpBends.j0 k a1 l2 true y355 bt358.1 (t367 == t368)))) else (thrumlaw16_MlpBends.j0 k a1 l2 true y355 bt358.1 false)) else (thrumlaw16_MlpBends.j0 k a1 l2 true y355 bt358.1 false)))))) else (none)) = some r := by rw [if_pos rfl] at H; exact H
   clear H
   have H := H1
   clear H1
   by_cases c10 : ([] : List Int).length + l2.length < 17592186044416
   ·
    rw [if_pos c10] at H
    have LMc10 := Aside0.mk c10
    clear c10
    obtain ⟨y355, hy355⟩ : ∃ y_ : List Int, y_ = (([] : List Int) ++ l2) := ⟨_, rfl⟩
    replace H : ((mlp_Grad.f a1 l2 a3 l4).bind fun bt358 => ((thrumref16_Grad.f a1 l2 a3 l4).bind fun bt362 => ((thrumref02_Same.f bt358.1 bt362.1).bind fun t366 => (if t366 = true then (if bt358.2 = bt362.2 then ((mlp_Check.f a0 a1 l2 l4).bind fun t367 => ((thrumref16_Check.f a0 a1 l2 l4).bind fun t368 => (thrumlaw16_MlpBends.j0 k a1 l2 true y355 bt358.1 (t367 == t368)))) else (thrumlaw16_MlpBends.j0 k a1 l2 true y355 bt358.1 false)) else (thrumlaw16_MlpBends.j0 k a1 l2 true y355 bt358.1 false))))) = some r := by first | (rw [hy355]; with_reducible exact H) | (have H2_ := (Option.bind_some _ _).symm.trans H; rw [hy355]; with_reducible exact H2_) | (have H2_ := (Option.bind_some _ _).symm.trans H; with_reducible exact H2_) | with_reducible exact H | (rw [hy355]; exact H) | exact H
    have Ny355 := Aside0.mk hy355
    clear hy355
    replace H := Option.bind_eq_some_iff.mp H
    obtain ⟨⟨t358, t359⟩, A110, H⟩ := H
    replace H : ((thrumref16_Grad.f a1 l2 a3 l4).bind fun bt362 => ((thrumref02_Same.f t358 bt362.1).bind fun t366 => (if t366 = true then (if t359 = bt362.2 then ((mlp_Check.f a0 a1 l2 l4).bind fun t367 => ((thrumref16_Check.f a0 a1 l2 l4).bind fun t368 => (thrumlaw16_MlpBends.j0 k a1 l2 true y355 t358 (t367 == t368)))) else (thrumlaw16_MlpBends.j0 k a1 l2 true y355 t358 false)) else (thrumlaw16_MlpBends.j0 k a1 l2 true y355 t358 false)))) = some r := H
    have A11 := Aside0.mk A110
    clear A110
    replace H := Option.bind_eq_some_iff.mp H
    obtain ⟨⟨t362, t363⟩, A120, H⟩ := H
    replace H : ((thrumref02_Same.f t358 t362).bind fun t366 => (if t366 = true then (if t359 = t363 then ((mlp_Check.f a0 a1 l2 l4).bind fun t367 => ((thrumref16_Check.f a0 a1 l2 l4).bind fun t368 => (thrumlaw16_MlpBends.j0 k a1 l2 true y355 t358 (t367 == t368)))) else (thrumlaw16_MlpBends.j0 k a1 l2 true y355 t358 false)) else (thrumlaw16_MlpBends.j0 k a1 l2 true y355 t358 false))) = some r := H
    have A12 := Aside0.mk A120
    clear A120
    have HC13 := Aside0.mk H
    clear H
    go_enter Try.func6, Try.ntmps6
    go_upto_region 9 with (first | ((with_reducible refine gate_callee (f := 8) rfl ?_); refine goesL_ (some 26) rfl rfl Try.func8 (by kernel_rfl) rfl #[] rfl (by (try simp only [List.map_toArray, List.map_cons, List.map_nil]); first | done | rfl | (simp only [List.length_drop, List.length_take]; rfl)) ?_; (with_reducible refine (thrumlaw16_live.calls  true _ A6.out).mono ?_); rintro e w14 ⟨rfl, hb⟩; refine ⟨_, rfl, ?_⟩; have n0_ := Aside0.mk (zzT (by repeat (first | (with_reducible first | exact HB.out | apply zzA | apply zzN | apply zzD) | exact HB.out)) hb); clear HB; have HB := n0_; clear n0_; (try clear hb); (try clear hb2); (try clear hk); (try clear hi)) | ((with_reducible refine gate_callee (f := 9) rfl ?_); refine goesL_ (some 31) rfl rfl Try.func9 (by kernel_rfl) rfl #[.slice A2 l2.length c2, .slice A4 l4.length c4] rfl (by (try simp only [List.map_toArray, List.map_cons, List.map_nil]); first | done | rfl | (simp only [List.length_drop, List.length_take]; rfl)) ?_; (with_reducible refine (thrumref14_Few.calls _ _ l2 _ _ l4 true _ ?side1 ?side2 ?side3 ?side4 A8.out).mono ?_); (case side1 => repeat (first | exact (Kd.C_below HR2.out HB.out) | (with_reducible refine ccA ?_ _) | (with_reducible refine ccN ?_ _) | (with_reducible refine ccD ?_))); (case side2 => exact HC2.out); (case side3 => repeat (first | exact (Kd.C_below HR4.out HB.out) | (with_reducible refine ccA ?_ _) | (with_reducible refine ccN ?_ _) | (with_reducible refine ccD ?_))); (case side4 => exact HC4.out); rintro e w15 ⟨rfl, hb⟩; refine ⟨_, rfl, ?_⟩; have n0_ := Aside0.mk (zzT (by repeat (first | (with_reducible first | exact HB.out | apply zzA | apply zzN | apply zzD) | exact HB.out)) hb); clear HB; have HB := n0_; clear n0_; (try clear hb); (try clear hb2); (try clear hk); (try clear hi)) | ((with_reducible refine gate_builtin (b := .append) (xs := #[.const (.slice none 0 0), .tmp 34]) rfl ?_); at_builtin; refine Kd.R_append_rows (Kd.int .i64) (w0 := w) w.heap.size rfl (.const (.slice none 0 0)) (.tmp 34) 22 2 (.int .i64 0) 8 rfl Try.underlying22 info2 rfl (by decide) (by omega) (.slice none 0 0) ([] : List Int) l2 _ _ _ (fun _ => True) (fun _ => False) rfl rfl ?aO ?aR (fun _ _ h => h) (fun _ h => h.elim) ?aF ?aB ?aS ?aL ?_; (case aR => repeat (first | exact (Kd.C_below HR2.out HB.out) | (with_reducible refine ccA ?_ _) | (with_reducible refine ccN ?_ _) | (with_reducible refine ccD ?_))); (case aB => exact (by repeat (first | (with_reducible first | exact HB.out | apply zzA | apply zzN | apply zzD) | exact HB.out))); (case aF => exact (fun _ _ => trivial)); (case aO => exact ((Kd.R_nil _ _ _ _ (fun _ => True)))); (case aS => exact (zzS (by repeat (first | (with_reducible first | exact HB.out | apply zzA | apply zzN | apply zzD) | exact HB.out)))); (case aL => have := LMc10.out; omega); intro v356 w16 ho hb hg hat; rw [← Ny355.out] at ho; have n0_ := Aside0.mk (hb); have n1_ := Aside0.mk (ho); clear HB; have HB := n0_; have HO357 := n1_; clear n0_ n1_; clear ho hb hg hat) | ((with_reducible refine gate_callee (f := 27) rfl ?_); refine goesL_ (some 41) rfl rfl Try.func27 (by kernel_rfl) rfl #[.int .i64 a1, .slice A2 l2.length c2, .int .i64 a3, .slice A4 l4.length c4] rfl (by (try simp only [List.map_toArray, List.map_cons, List.map_nil]); first | done | rfl | (simp only [List.length_drop, List.length_take]; rfl)) ?_; (with_reducible refine (mlp_Grad.calls a1 _ _ l2 a3 _ _ l4 t358 t359 _ ?side1 ?side2 ?side3 ?side4 A11.out).mono ?_); (case side1 => repeat (first | exact (Kd.C_below HR2.out HB.out) | (with_reducible refine ccA ?_ _) | (with_reducible refine ccN ?_ _) | (with_reducible refine ccD ?_))); (case side2 => exact HC2.out); (case side3 => repeat (first | exact (Kd.C_below HR4.out HB.out) | (with_reducible refine ccA ?_ _) | (with_reducible refine ccN ?_ _) | (with_reducible refine ccD ?_))); (case side4 => exact HC4.out); rintro e w17 ⟨v360, rfl, ho0, hb⟩; refine ⟨_, rfl, ?_⟩; have n0_ := Aside0.mk (Kd.R_elder' (by (with_reducible repeat (first | apply rrA | apply rrN | apply rrD)); exact HO357.out) (Kd.R_base ho0) hb); have n1_ := Aside0.mk (Kd.R_lower (Kd.R_new' ho0 (Kd.R_lt (by (with_reducible repeat (first | apply rrA | apply rrN | apply rrD)); exact HO357.out))) (zzS (by repeat (first | (with_reducible first | exact HB.out | apply zzA | apply zzN | apply zzD) | exact HB.out)))); have n2_ := Aside0.mk (zzT (by repeat (first | (with_reducible first | exact HB.out | apply zzA | apply zzN | apply zzD) | exact HB.out)) hb); clear HO357; clear HB; have HO357 := n0_; have HO361 := n1_; have HB := n2_; clear n0_ n1_ n2_; (try clear hb); (try clear hb2); (try clear hk); (try clear hi); (try clear ho0)) | ((with_reducible refine gate_callee (f := 28) rfl ?_); refine goesL_ (some 49) rfl rfl Try.func28 (by kernel_rfl) rfl #[.int .i64 a1, .slice A2 l2.length c2, .int .i64 a3, .slice A4 l4.length c4] rfl (by (try simp only [List.map_toArray, List.map_cons, List.map_nil]); first | done | rfl | (simp only [List.length_drop, List.length_take]; rfl)) ?_; (with_reducible refine (thrumref16_Grad.calls a1 _ _ l2 a3 _ _ l4 t362 t363 _ ?side1 ?side2 ?side3 ?side4 A12.out).mono ?_); (case side1 => repeat (first | exact (Kd.C_below HR2.out HB.out) | (with_reducible refine ccA ?_ _) | (with_reducible refine ccN ?_ _) | (with_reducible refine ccD ?_))); (case side2 => exact HC2.out); (case side3 => repeat (first | exact (Kd.C_below HR4.out HB.out) | (with_reducible refine ccA ?_ _) | (with_reducible refine ccN ?_ _) | (with_reducible refine ccD ?_))); (case side4 => exact HC4.out); rintro e w18 ⟨v364, rfl, ho0, hb⟩; refine ⟨_, rfl, ?_⟩; have n0_ := Aside0.mk (Kd.R_elder' (by (with_reducible repeat (first | apply rrA | apply rrN | apply rrD)); exact HO357.out) (Kd.R_base ho0) hb); have n1_ := Aside0.mk (Kd.R_elder' (by (with_reducible repeat (first | apply rrA | apply rrN | apply rrD)); exact HO361.out) (Kd.R_base ho0) hb); have n2_ := Aside0.mk (Kd.R_lower (Kd.R_new' (Kd.R_new' ho0 (Kd.R_lt (by (with_reducible repeat (first | apply rrA | apply rrN | apply rrD)); exact HO357.out))) (Kd.R_lt (by (with_reducible repeat (first | apply rrA | apply rrN | apply rrD)); exact HO361.out))) (zzS (by repeat (first | (with_reducible first | exact HB.out | apply zzA | apply zzN | apply zzD) | exact HB.out)))); have n3_ := Aside0.mk (zzT (by repeat (first | (with_reducible first | exact HB.out | apply zzA | apply zzN | apply zzD) | exact HB.out)) hb); clear HO357; clear HO361; clear HB; have HO357 := n0_; have HO361 := n1_; have HO365 := n2_; have HB := n3_; clear n0_ n1_ n2_ n3_; (try clear hb); (try clear hb2); (try clear hk); (try clear hi); (try clear ho0)))
    (try simp only [Act.put, List.setIfInBounds_toArray, List.set_cons_zero, List.set_cons_succ])
    go_cut [17] (fun v17 wc => ∃ (kq : Nat) (x17_12 : Bool), v17 = .bool x17_12 ∧ Aside0 (thrumlaw16_MlpBends.j0 kq a1 l2 true y355 t358 x17_12 = some r) ∧ Aside0 (kq ≤ k) ∧ Aside0 (Kd.R (Kd.int .i64) 2 wc w.heap.size (fun k_ => some k_ ≠ (v360 : Value).ownBlock) v356 y355) ∧ Aside0 (Kd.R (Kd.int .i64) 2 wc w.heap.size (fun k_ => some k_ ≠ (v356 : Value).ownBlock) v360 t358) ∧ Aside0 (Below w.heap.size w wc))
    case first =>
     have H := HC13.out
     clear HC13
     replace H := Option.bind_eq_some_iff.mp H
     obtain ⟨t366, A190, H⟩ := H
     replace H : (if t366 = true then (if t359 = t363 then ((mlp_Check.f a0 a1 l2 l4).bind fun t367 => ((thrumref16_Check.f a0 a1 l2 l4).bind fun t368 => (thrumlaw16_MlpBends.j0 k a1 l2 true y355 t358 (t367 == t368)))) else (thrumlaw16_MlpBends.j0 k a1 l2 true y355 t358 false)) else (thrumlaw16_MlpBends.j0 k a1 l2 true y355 t358 false)) = some r := H
     have A19 := Aside0.mk A190
     clear A190
     by_cases c20 : t366 = true
     ·
      subst c20
      have H1 : (if t359 = t363 then ((mlp_Check.f a0 a1 l2 l4).bind fun t367 => ((thrumref16_Check.f a0 a1 l2 l4).bind fun t368 => (thrumlaw16_MlpBends.j0 k a1 l2 true y355 t358 (t367 == t368)))) else (thrumlaw16_MlpBends.j0 k a1 l2 true y355 t358 false)) = some r := by rw [if_pos rfl] at H; exact H
      clear H
      have H := H1
      clear H1
      by_cases c21 : t359 = t363
      ·
       rw [if_pos c21] at H
       have c21b0 : (t359 == t363) = true := beq_iff_eq.mpr c21
       have c21b1 : (t359 != t363) = false := bne_eq_false_iff_eq.mpr c21
       clear c21
       (first | rw [c21b0] | (simp only [i64_w, i32_w]; rw [c21b0]) | skip)
       replace H := Option.bind_eq_some_iff.mp H
       obtain ⟨t367, A220, H⟩ := H
       replace H : ((thrumref16_Check.f a0 a1 l2 l4).bind fun t368 => (thrumlaw16_MlpBends.j0 k a1 l2 true y355 t358 (t367 == t368))) = some r := H
       have A22 := Aside0.mk A220
       clear A220
       replace H := Option.bind_eq_some_iff.mp H
       obtain ⟨t368, A230, H⟩ := H
       replace H : (thrumlaw16_MlpBends.j0 k a1 l2 true y355 t358 (t367 == t368)) = some r := H
       have A23 := Aside0.mk A230
       clear A230
       focus
        have H' := Aside0.mk H
        clear H
        obtain ⟨Ao24, co24, eo24⟩ := Kd.R_slice HO361.out
        subst eo24
        obtain ⟨Ao25, co25, eo25⟩ := Kd.R_slice HO365.out
        subst eo25
        go_wp2_with (first | ((with_reducible refine gate_callee (f := 23) rfl ?_); refine goesL_ (some 54) rfl rfl Try.func23 (by kernel_rfl) rfl #[.slice Ao24 t358.length co24, .slice Ao25 t362.length co25] rfl (by (try simp only [List.map_toArray, List.map_cons, List.map_nil]); first | done | rfl | (simp only [List.length_drop, List.length_take]; rfl)) ?_; (with_reducible refine (thrumref02_Same.calls _ _ t358 _ _ t362 true _ ?side1 ?side2 ?side3 ?side4 A19.out).mono ?_); (case side1 => repeat (first | exact (Kd.R_reads' HO361.out).2.2 | (with_reducible refine ccA ?_ _) | (with_reducible refine ccN ?_ _) | (with_reducible refine ccD ?_))); (case side2 => exact (Kd.R_reads' HO361.out).2.1); (case side3 => repeat (first | exact (Kd.R_reads' HO365.out).2.2 | (with_reducible refine ccA ?_ _) | (with_reducible refine ccN ?_ _) | (with_reducible refine ccD ?_))); (case side4 => exact (Kd.R_reads' HO365.out).2.1); rintro e w' ⟨rfl, ⟨nd, rfl⟩⟩; refine ⟨_, rfl, ?_⟩) | (go_at_call 25; (with_reducible refine (mlp_Check.calls a0 a1 _ _ l2 _ _ l4 t367 _ ?side1 ?side2 ?side3 ?side4 A22.out).mono ?_); (case side1 => repeat (first | exact (Kd.C_below HR2.out (by repeat (first | (with_reducible first | exact HB.out | apply zzA | apply zzN | apply zzD) | exact HB.out))) | (with_reducible refine ccA ?_ _) | (with_reducible refine ccN ?_ _) | (with_reducible refine ccD ?_))); (case side2 => exact HC2.out); (case side3 => repeat (first | exact (Kd.C_below HR4.out (by repeat (first | (with_reducible first | exact HB.out | apply zzA | apply zzN | apply zzD) | exact HB.out))) | (with_reducible refine ccA ?_ _) | (with_reducible refine ccN ?_ _) | (with_reducible refine ccD ?_))); (case side4 => exact HC4.out); rintro e w26 ⟨rfl, hb⟩; have n0_ := Aside0.mk (Kd.R_below (by (with_reducible repeat (first | apply rrA | apply rrN | apply rrD)); exact HO357.out) hb); have n1_ := Aside0.mk (Kd.R_below (by (with_reducible repeat (first | apply rrA | apply rrN | apply rrD)); exact HO361.out) hb); have n2_ := Aside0.mk (Kd.R_below (by (with_reducible repeat (first | apply rrA | apply rrN | apply rrD)); exact HO365.out) hb); have n3_ := Aside0.mk (zzT (by repeat (first | (with_reducible first | exact HB.out | apply zzA | apply zzN | apply zzD) | exact HB.out)) hb); clear HO357; clear HO361; clear HO365; clear HB; have HO357 := n0_; have HO361 := n1_; have HO365 := n2_; have HB := n3_; clear n0_ n1_ n2_ n3_; (try clear hb); (try clear hb2); (try clear hk); (try clear hi)) | (go_at_call 26; (with_reducible refine (thrumref16_Check.calls a0 a1 _ _ l2 _ _ l4 t368 _ ?side1 ?side2 ?side3 ?side4 A23.out).mono ?_); (case side1 => repeat (first | exact (Kd.C_below HR2.out HB.out) | (with_reducible refine ccA ?_ _) | (with_reducible refine ccN ?_ _) | (with_reducible refine ccD ?_))); (case side2 => exact HC2.out); (case side3 => repeat (first | exact (Kd.C_below HR4.out HB.out) | (with_reducible refine ccA ?_ _) | (with_reducible refine ccN ?_ _) | (with_reducible refine ccD ?_))); (case side4 => exact HC4.out); rintro e w27 ⟨rfl, hb⟩; have n0_ := Aside0.mk (Kd.R_below (by (with_reducible repeat (first | apply rrA | apply rrN | apply rrD)); exact HO357.out) hb); have n1_ := Aside0.mk (Kd.R_below (by (with_reducible repeat (first | apply rrA | apply rrN | apply rrD)); exact HO361.out) hb); have n2_ := Aside0.mk (Kd.R_below (by (with_reducible repeat (first | apply rrA | apply rrN | apply rrD)); exact HO365.out) hb); have n3_ := Aside0.mk (zzT (by repeat (first | (with_reducible first | exact HB.out | apply zzA | apply zzN | apply zzD) | exact HB.out)) hb); clear HO357; clear HO361; clear HO365; clear HB; have HO357 := n0_; have HO361 := n1_; have HO365 := n2_; have HB := n3_; clear n0_ n1_ n2_ n3_; (try clear hb); (try clear hb2); (try clear hk); (try clear hi)))
        go_meet
        case rel => exact ⟨_, ((t367 == t368)), (by first | rfl | (simp; done) | (simp [*]; done)), H', ⟨by first | omega | exact Nat.le_refl _⟩, ⟨by (with_reducible repeat (first | apply rrA | apply rrN | apply rrD)); exact Kd.R_mono HO357.out (fun _ hk => hk.1.2)⟩, ⟨by (with_reducible repeat (first | apply rrA | apply rrN | apply rrD)); exact Kd.R_mono HO361.out (fun _ hk => hk.1.2)⟩, ⟨by repeat (first | (with_reducible first | exact HB.out | apply zzA | apply zzN | apply zzD) | exact HB.out)⟩⟩
      ·
       rw [if_neg c21] at H
       have c21b0 : (t359 == t363) = false := beq_eq_false_iff_ne.mpr c21
       have c21b1 : (t359 != t363) = true := bne_iff_ne.mpr c21
       (first | rw [c21b0] | (simp only [i64_w, i32_w]; rw [c21b0]) | skip)
       focus
        have H' := Aside0.mk H
        clear H
        obtain ⟨Ao28, co28, eo28⟩ := Kd.R_slice HO361.out
        subst eo28
        obtain ⟨Ao29, co29, eo29⟩ := Kd.R_slice HO365.out
        subst eo29
        go_wp2_with (first | ((with_reducible refine gate_callee (f := 23) rfl ?_); refine goesL_ (some 54) rfl rfl Try.func23 (by kernel_rfl) rfl #[.slice Ao28 t358.length co28, .slice Ao29 t362.length co29] rfl (by (try simp only [List.map_toArray, List.map_cons, List.map_nil]); first | done | rfl | (simp only [List.length_drop, List.length_take]; rfl)) ?_; (with_reducible refine (thrumref02_Same.calls _ _ t358 _ _ t362 true _ ?side1 ?side2 ?side3 ?side4 A19.out).mono ?_); (case side1 => repeat (first | exact (Kd.R_reads' HO361.out).2.2 | (with_reducible refine ccA ?_ _) | (with_reducible refine ccN ?_ _) | (with_reducible refine ccD ?_))); (case side2 => exact (Kd.R_reads' HO361.out).2.1); (case side3 => repeat (first | exact (Kd.R_reads' HO365.out).2.2 | (with_reducible refine ccA ?_ _) | (with_reducible refine ccN ?_ _) | (with_reducible refine ccD ?_))); (case side4 => exact (Kd.R_reads' HO365.out).2.1); rintro e w' ⟨rfl, ⟨nd, rfl⟩⟩; refine ⟨_, rfl, ?_⟩))
        go_meet
        case rel => exact ⟨_, (false), (by first | rfl | (simp; done) | (simp [*]; done)), H', ⟨by first | omega | exact Nat.le_refl _⟩, ⟨by (with_reducible repeat (first | apply rrA | apply rrN | apply rrD)); exact Kd.R_mono HO357.out (fun _ hk => hk.1.2)⟩, ⟨by (with_reducible repeat (first | apply rrA | apply rrN | apply rrD)); exact Kd.R_mono HO361.out (fun _ hk => hk.1.2)⟩, ⟨by repeat (first | (with_reducible first | exact HB.out | apply zzA | apply zzN | apply zzD) | exact HB.out)⟩⟩
     ·
      replace c20 := Bool.eq_false_iff.mpr c20
      subst c20
      have H1 : (thrumlaw16_MlpBends.j0 k a1 l2 true y355 t358 false) = some r := by rw [if_neg (show ¬ (false = true) by decide)] at H; exact H
      clear H
      have H := H1
      clear H1
      focus
       have H' := Aside0.mk H
       clear H
       obtain ⟨Ao30, co30, eo30⟩ := Kd.R_slice HO361.out
       subst eo30
       obtain ⟨Ao31, co31, eo31⟩ := Kd.R_slice HO365.out
       subst eo31
       go_wp2_with (first | ((with_reducible refine gate_callee (f := 23) rfl ?_); refine goesL_ (some 54) rfl rfl Try.func23 (by kernel_rfl) rfl #[.slice Ao30 t358.length co30, .slice Ao31 t362.length co31] rfl (by (try simp only [List.map_toArray, List.map_cons, List.map_nil]); first | done | rfl | (simp only [List.length_drop, List.length_take]; rfl)) ?_; (with_reducible refine (thrumref02_Same.calls _ _ t358 _ _ t362 false _ ?side1 ?side2 ?side3 ?side4 A19.out).mono ?_); (case side1 => repeat (first | exact (Kd.R_reads' HO361.out).2.2 | (with_reducible refine ccA ?_ _) | (with_reducible refine ccN ?_ _) | (with_reducible refine ccD ?_))); (case side2 => exact (Kd.R_reads' HO361.out).2.1); (case side3 => repeat (first | exact (Kd.R_reads' HO365.out).2.2 | (with_reducible refine ccA ?_ _) | (with_reducible refine ccN ?_ _) | (with_reducible refine ccD ?_))); (case side4 => exact (Kd.R_reads' HO365.out).2.1); rintro e w' ⟨rfl, ⟨nd, rfl⟩⟩; refine ⟨_, rfl, ?_⟩))
       go_meet
       case rel => exact ⟨_, (false), (by first | rfl | (simp; done) | (simp [*]; done)), H', ⟨by first | omega | exact Nat.le_refl _⟩, ⟨by (with_reducible repeat (first | apply rrA | apply rrN | apply rrD)); exact Kd.R_mono HO357.out (fun _ hk => hk.1.2)⟩, ⟨by (with_reducible repeat (first | apply rrA | apply rrN | apply rrD)); exact Kd.R_mono HO361.out (fun _ hk => hk.1.2)⟩, ⟨by repeat (first | (with_reducible first | exact HB.out | apply zzA | apply zzN | apply zzD) | exact HB.out)⟩⟩
    case rest =>
     clear HC13
     try clear c1
     try clear c2
     try clear p2
     try clear c4
     try clear c6
     try clear c7
     try clear c8
     try clear c9
     try clear c10
     try clear c20
     try clear c21
     try clear c21b0
     try clear c21b1
     try clear c23
     try clear c27
     try clear c28
     obtain ⟨kq, x17_12, rfl, HA, HJ12, HO_12, HO_13, HB⟩ := hcut
     cases kq with
     | zero => exact absurd HA.out (by simp [thrumlaw16_MlpBends.j0])
     | succ kj12 =>
      have H := HA.out
      clear HA
      simp only [thrumlaw16_MlpBends.j0] at H
      have H' := Aside0.mk H
      clear H
      obtain ⟨Ao32, co32, eo32⟩ := Kd.R_slice HO_13.out
      subst eo32
      go_wp2
      go_loopg [75] kj12 (fun kq v75 w' => ∃ (x13_2 : List Int) (x75_2 : Int), v75 = .int .i64 x75_2 ∧ Aside0 (thrumlaw16_MlpBends.l0 kq a1 l2 true y355 x13_2 x17_12 (t358.length : Int) x75_2 = some r) ∧ Aside0 (kq ≤ kj12) ∧ Aside0 (Kd.R (Kd.int .i64) 2 w' w.heap.size (fun k_ => some k_ ≠ ((.slice Ao32 t358.length co32) : Value).ownBlock) v356 y355) ∧ Aside0 (Kd.R (Kd.int .i64) 2 w' w.heap.size (fun k_ => some k_ ≠ (v356 : Value).ownBlock) (.slice Ao32 t358.length co32) x13_2) ∧ Aside0 (Below w.heap.size w w'))
      case atStart => exact ⟨(t358), (0), (by first | rfl | (simp; done) | (simp [*]; done)), H', ⟨Nat.le_refl _⟩, ⟨by (with_reducible repeat (first | apply rrA | apply rrN | apply rrD)); exact HO_12.out⟩, ⟨by (with_reducible repeat (first | apply rrA | apply rrN | apply rrD)); exact HO_13.out⟩, ⟨by repeat (first | (with_reducible first | exact HB.out | apply zzA | apply zzN | apply zzD) | exact HB.out)⟩⟩
      case round =>
       clear H'
       try clear c1
       try clear c2
       try clear p2
       try clear c4
       try clear c6
       try clear c7
       try clear c8
       try clear c9
       try clear c10
       try clear c20
       try clear c21
       try clear c21b0
       try clear c21b1
       try clear c23
       try clear c27
       try clear c28
       try clear p2
       obtain ⟨x13_2, x75_2, rfl, HA, HK2, HO_12, HO_13, HB⟩ := hrel
       have hl13_2 := (Kd.R_reads' HO_13.out).1
       rw [hl13_2] at HO_13
       (try simp only [hl13_2])
       (try simp only [hl13_2] at HO_12)
       cases gk with
       | zero => exact absurd HA.out (by simp [thrumlaw16_MlpBends.l0])
       | succ k2 =>
        have H := HA.out
        clear HA
        simp only [thrumlaw16_MlpBends.l0] at H
        by_cases c33 : x75_2 < (t358.length : Int)
        ·
         rw [if_pos c33] at H
         have c33b0 : decide (x75_2 < (t358.length : Int)) = true := decide_eq_true c33
         clear c33
         by_cases c34 : 0 ≤ x75_2
         ·
          rw [if_pos c34] at H
          have c34b0 : decide (0 ≤ x75_2) = true := decide_eq_true c34
          clear c34
          by_cases c35 : x75_2 < (x13_2.length : Int)
          ·
           rw [if_pos c35] at H
           have c35b0 : decide (x75_2 < (x13_2.length : Int)) = true := decide_eq_true c35
           clear c35
           obtain ⟨y370, hy370⟩ : ∃ y_ : List Int, y_ = (x13_2.set (x75_2 : Int).toNat (wrap64 ((rd x13_2 x75_2) + 1))) := ⟨_, rfl⟩
           replace H : (thrumlaw16_MlpBends.l0 k2 a1 l2 true y355 y370 x17_12 (t358.length : Int) (wrap64 (x75_2 + 1))) = some r := by first | (rw [hy370]; with_reducible exact H) | (have H2_ := (Option.bind_some _ _).symm.trans H; rw [hy370]; with_reducible exact H2_) | (have H2_ := (Option.bind_some _ _).symm.trans H; with_reducible exact H2_) | with_reducible exact H | (rw [hy370]; exact H) | exact H
           have Ny370 := Aside0.mk hy370
           clear hy370
           focus
            have H' := Aside0.mk H
            clear H
            have p369 : 0 ≤ (x75_2 : Int) := of_decide_eq_true (by first | (with_reducible assumption) | assumption)
            have q369 : x75_2 < (x13_2.length : Int) := of_decide_eq_true (by first | (with_reducible assumption) | assumption)
            obtain ⟨ad369, e369, hx369_0⟩ := Kd.at_int (Kd.R_reads' HO_13.out).2.2 x75_2 p369 q369
            cases e369
            replace p369 := eq_true p369
            replace q369 := eq_true q369
            have p36 : 0 ≤ (x75_2 : Int) := of_decide_eq_true (by first | (with_reducible assumption) | assumption)
            have q36 : (x75_2 : Int) < ((x13_2.length : Int) : Int) := of_decide_eq_true (by first | (with_reducible assumption) | assumption)
            obtain ⟨go36, co36, eo36, gb36, gl36, cl36, HG36⟩ := Kd.R_form HO_13.out (by omega)
            (first | cases eo36 | (injection eo36 with ea_ en_ ec_; (first | subst ea_ | (injection ea_ with ea_; subst ea_)); subst ec_; clear en_))
            have GB36 := Aside0.mk gb36
            have GG36 := Aside0.mk HG36
            clear gb36 gl36 HG36
            (first | simp only [add_plain] at hx369_0 | skip)
            obtain ⟨hx36_0, hf36_0⟩ := Kd.R_celln 0 HO_13.out (x75_2 : Int) p36 q36
            replace p36 := eq_true p36
            replace q36 := eq_true q36
            have HP37 := Kd.R_putg HO_13.out (x75_2 : Int) (wrap64 ((rd x13_2 x75_2) + 1))
            go_wp2_with (first | ((with_reducible refine gate_store (t := 2) (p := 83) rfl ?_); refine store_event (t := 2) (p := 83) (v := ?vo_w38) (w1 := (wr.setCell ⟨go36, (x75_2 : Int).toNat, none⟩ (.int .i64 (wrap64 ((rd x13_2 x75_2) + 1))))) ?hg ?ho ?hn ?hr ?_; (case ho => rfl); (case hg => rfl); (case hn => rfl); (case hr => first | (go_simp; done) | (go_simp; rfl)); intro w38 hw; have hg : wr.grownBy w38 (some go36) := (by rw [hw]; exact HP37.2); have hp_ : Kd.R (Kd.int .i64) 2 w38 w.heap.size (fun k_ => some k_ ≠ (v356 : Value).ownBlock) (.slice (some ⟨go36, 0, none⟩) x13_2.length co32) y370 := (by rw [hw, Ny370.out]; exact HP37.1); clear HP37; have n0_ := Aside0.mk (Kd.R_after (v := (.slice (some ⟨go36, 0, none⟩) x13_2.length co32)) (v1 := (.slice (some ⟨go36, 0, none⟩) x13_2.length co32)) (ok := (fun _ => True)) (by (with_reducible repeat (first | apply rrA | apply rrN | apply rrD)); exact Kd.R_mono HO_12.out (fun _ hk => ⟨trivial, hk⟩)) hg (.inl rfl)); have n1_ := Aside0.mk (hp_); have n2_ := Aside0.mk ((by rw [hw]; exact below_set (HB.out) GB36.out : Below w.heap.size w w38)); clear HO_12; clear HO_13; clear HB; have HO_12 := n0_; have HO_13 := n1_; have HB := n2_; clear n0_ n1_ n2_; clear hg hw hp_))
            (try simp only [← hl13_2])
            go_roundg k2
            case measure => have := HJ12.out; have := HK2.out; omega
            case rel => exact ⟨(y370), (wrap64 (x75_2 + 1)), (by first | rfl | (simp; done) | (simp [*]; done)), H', ⟨by have := HJ12.out; have := HK2.out; omega⟩, ⟨by (try simp only [hl13_2]); (with_reducible repeat (first | apply rrA | apply rrN | apply rrD)); exact Kd.R_mono HO_12.out (fun _ hk => hk.2)⟩, ⟨by (try simp only [hl13_2]); (with_reducible repeat (first | apply rrA | apply rrN | apply rrD)); exact HO_13.out⟩, ⟨by repeat (first | (with_reducible first | exact HB.out | apply zzA | apply zzN | apply zzD) | exact HB.out)⟩⟩
          ·
           rw [if_neg c35] at H
           exact absurd H (by simp)
         ·
          rw [if_neg c34] at H
          exact absurd H (by simp)
        ·
         rw [if_neg c33] at H
         have c33b0 : decide (x75_2 < (t358.length : Int)) = false := decide_eq_false c33; (try simp only [hl13_2] at c33b0); (try simp only [hl20_3] at c33b0)
         clear c33
         replace H := Option.bind_eq_some_iff.mp H
         obtain ⟨⟨t371, t372, t373⟩, A390, H⟩ := H
         replace H : (thrumlaw16_MlpBends.l1 k2 l2 true y355 x17_12 t371 t372 (t372.length : Int) 0) = some r := H
         have A39 := Aside0.mk A390
         clear A390
         have H' := Aside0.mk H
         clear H
         go_wp2_with (first | ((with_reducible refine gate_callee (f := 11) rfl ?_); refine goesL_ (some 88) rfl rfl Try.func11 (by kernel_rfl) rfl #[.int .i64 a1, .slice A2 l2.length c2] rfl (by (try simp only [List.map_toArray, List.map_cons, List.map_nil]); first | done | rfl | (simp only [List.length_drop, List.length_take]; rfl)) ?_; (with_reducible refine (mlp_Split.calls a1 _ _ l2 t371 t372 t373 _ ?side1 ?side2 A39.out).mono ?_); (case side1 => repeat (first | exact (Kd.C_below HR2.out HB.out) | (with_reducible refine ccA ?_ _) | (with_reducible refine ccN ?_ _) | (with_reducible refine ccD ?_))); (case side2 => exact HC2.out); rintro e w40 ⟨v374, v376, rfl, ho0, ho1, hb⟩; refine ⟨_, rfl, ?_⟩; have n0_ := Aside0.mk (Kd.R_elder' (by (with_reducible repeat (first | apply rrA | apply rrN | apply rrD)); exact HO_12.out) (Kd.R_base ho1) hb); have n1_ := Aside0.mk (Kd.R_elder' (by (with_reducible repeat (first | apply rrA | apply rrN | apply rrD)); exact HO_13.out) (Kd.R_base ho1) hb); have n2_ := Aside0.mk (Kd.S_lower (Kd.S_new' (Kd.S_new' ho0 (Kd.R_lt (by (with_reducible repeat (first | apply rrA | apply rrN | apply rrD)); exact HO_12.out))) (Kd.R_lt (by (with_reducible repeat (first | apply rrA | apply rrN | apply rrD)); exact HO_13.out))) (zzS (by repeat (first | (with_reducible first | exact HB.out | apply zzA | apply zzN | apply zzD) | exact HB.out)))); have n3_ := Aside0.mk (Kd.R_lower (Kd.R_new' (Kd.R_new' ho1 (Kd.R_lt (by (with_reducible repeat (first | apply rrA | apply rrN | apply rrD)); exact HO_12.out))) (Kd.R_lt (by (with_reducible repeat (first | apply rrA | apply rrN | apply rrD)); exact HO_13.out))) (zzS (by repeat (first | (with_reducible first | exact HB.out | apply zzA | apply zzN | apply zzD) | exact HB.out)))); have n4_ := Aside0.mk (zzT (by repeat (first | (with_reducible first | exact HB.out | apply zzA | apply zzN | apply zzD) | exact HB.out)) hb); clear HO_12; clear HO_13; clear HB; have HO_12 := n0_; have HO_13 := n1_; have HO375 := n2_; have HO377 := n3_; have HB := n4_; clear n0_ n1_ n2_ n3_ n4_; (try clear hb); (try clear hb2); (try clear hk); (try clear hi); (try clear ho0); (try clear ho1); obtain ⟨Ao41, co41, eo41⟩ := Kd.R_slice HO377.out; subst eo41))
         go_loopg [94] k2 (fun kq v94 w' => ∃ (x20_3 : List Int) (x94_3 : Int), v94 = .int .i64 x94_3 ∧ Aside0 (thrumlaw16_MlpBends.l1 kq l2 true y355 x17_12 t371 x20_3 (t372.length : Int) x94_3 = some r) ∧ Aside0 (kq ≤ k2) ∧ Aside0 (Kd.R (Kd.int .i64) 2 w' w.heap.size (fun k_ => some k_ ≠ ((.slice Ao41 t372.length co41) : Value).ownBlock) v356 y355) ∧ Aside0 (Kd.S (Kd.slice 2 (Kd.int .i64)) 22 w' w.heap.size (fun k_ => some k_ ≠ (v356 : Value).ownBlock ∧ some k_ ≠ ((.slice Ao41 t372.length co41) : Value).ownBlock) v374 t371) ∧ Aside0 (Kd.R (Kd.int .i64) 2 w' w.heap.size (fun k_ => some k_ ≠ (v356 : Value).ownBlock) (.slice Ao41 t372.length co41) x20_3) ∧ Aside0 (Below w.heap.size w w'))
         case atStart => exact ⟨(t372), (0), (by first | rfl | (simp; done) | (simp [*]; done)), H', ⟨Nat.le_refl _⟩, ⟨by (try simp only [hl13_2]); (with_reducible repeat (first | apply rrA | apply rrN | apply rrD)); exact Kd.R_mono HO_12.out (fun _ hk => hk.2)⟩, ⟨by (try simp only [hl13_2]); (with_reducible repeat (first | apply Kd.S_alloc | apply Kd.S_drewN | apply Kd.S_drew)); exact Kd.S_mono HO375.out (fun _ hk => ⟨hk.1.2, hk.1.1⟩)⟩, ⟨by (try simp only [hl13_2]); (with_reducible repeat (first | apply rrA | apply rrN | apply rrD)); exact Kd.R_mono HO377.out (fun _ hk => hk.1.2)⟩, ⟨by repeat (first | (with_reducible first | exact HB.out | apply zzA | apply zzN | apply zzD) | exact HB.out)⟩⟩
         case round =>
          clear H'
          try clear c1
          try clear c2
          try clear p2
          try clear c3
          try clear p3
          try clear q3
          try clear hx3
          try clear c4
          try clear c6
          try clear p6
          try clear c7
          try clear c8
          try clear c9
          try clear c10
          try clear c11
          try clear c20
          try clear c21
          try clear c21b0
          try clear c21b1
          try clear c23
          try clear c27
          try clear c28
          try clear c33
          try clear c33b0
          try clear c34
          try clear c34b0
          try clear c35
          try clear c35b0
          try clear p36
          try clear q36
          try clear hx36
          try clear hf36
          try clear hx369_0
          try clear hx36_0
          try clear p2
          try clear p36
          try clear p369
          try clear q36
          try clear q369
          obtain ⟨x20_3, x94_3, rfl, HA, HK3, HO_12, HO_19, HO_20, HB⟩ := hrel
          have hl20_3 := (Kd.R_reads' HO_20.out).1
          rw [hl20_3] at HO_20
          (try simp only [hl20_3])
          (try simp only [hl20_3] at HO_12)
          (try simp only [hl20_3] at HO_19)
          cases gk with
          | zero => exact absurd HA.out (by simp [thrumlaw16_MlpBends.l1])
          | succ k3 =>
           have H := HA.out
           clear HA
           simp only [thrumlaw16_MlpBends.l1] at H
           by_cases c42 : x94_3 < (t372.length : Int)
           ·
            rw [if_pos c42] at H
            have c42b0 : decide (x94_3 < (t372.length : Int)) = true := decide_eq_true c42
            clear c42
            by_cases c43 : 0 ≤ x94_3
            ·
             rw [if_pos c43] at H
             have c43b0 : decide (0 ≤ x94_3) = true := decide_eq_true c43
             clear c43
             by_cases c44 : x94_3 < (x20_3.length : Int)
             ·
              rw [if_pos c44] at H
              have c44b0 : decide (x94_3 < (x20_3.length : Int)) = true := decide_eq_true c44
              clear c44
              obtain ⟨y379, hy379⟩ : ∃ y_ : List Int, y_ = (x20_3.set (x94_3 : Int).toNat (wrap64 ((rd x20_3 x94_3) + 1))) := ⟨_, rfl⟩
              replace H : (thrumlaw16_MlpBends.l1 k3 l2 true y355 x17_12 t371 y379 (t372.length : Int) (wrap64 (x94_3 + 1))) = some r := by first | (rw [hy379]; with_reducible exact H) | (have H2_ := (Option.bind_some _ _).symm.trans H; rw [hy379]; with_reducible exact H2_) | (have H2_ := (Option.bind_some _ _).symm.trans H; with_reducible exact H2_) | with_reducible exact H | (rw [hy379]; exact H) | exact H
              have Ny379 := Aside0.mk hy379
              clear hy379
              focus
               have H' := Aside0.mk H
               clear H
               have p378 : 0 ≤ (x94_3 : Int) := of_decide_eq_true (by first | (with_reducible assumption) | assumption)
               have q378 : x94_3 < (x20_3.length : Int) := of_decide_eq_true (by first | (with_reducible assumption) | assumption)
               obtain ⟨ad378, e378, hx378_0⟩ := Kd.at_int (Kd.R_reads' HO_20.out).2.2 x94_3 p378 q378
               cases e378
               replace p378 := eq_true p378
               replace q378 := eq_true q378
               have p45 : 0 ≤ (x94_3 : Int) := of_decide_eq_true (by first | (with_reducible assumption) | assumption)
               have q45 : (x94_3 : Int) < ((x20_3.length : Int) : Int) := of_decide_eq_true (by first | (with_reducible assumption) | assumption)
               obtain ⟨go45, co45, eo45, gb45, gl45, cl45, HG45⟩ := Kd.R_form HO_20.out (by omega)
               (first | cases eo45 | (injection eo45 with ea_ en_ ec_; (first | subst ea_ | (injection ea_ with ea_; subst ea_)); subst ec_; clear en_))
               have GB45 := Aside0.mk gb45
               have GG45 := Aside0.mk HG45
               clear gb45 gl45 HG45
               (first | simp only [add_plain] at hx378_0 | skip)
               obtain ⟨hx45_0, hf45_0⟩ := Kd.R_celln 0 HO_20.out (x94_3 : Int) p45 q45
               replace p45 := eq_true p45
               replace q45 := eq_true q45
               have HP46 := Kd.R_putg HO_20.out (x94_3 : Int) (wrap64 ((rd x20_3 x94_3) + 1))
               go_wp2_with (first | ((with_reducible refine gate_store (t := 2) (p := 102) rfl ?_); refine store_event (t := 2) (p := 102) (v := ?vo_w47) (w1 := (wr.setCell ⟨go45, (x94_3 : Int).toNat, none⟩ (.int .i64 (wrap64 ((rd x20_3 x94_3) + 1))))) ?hg ?ho ?hn ?hr ?_; (case ho => rfl); (case hg => rfl); (case hn => rfl); (case hr => first | (go_simp; done) | (go_simp; rfl)); intro w47 hw; have hg : wr.grownBy w47 (some go45) := (by rw [hw]; exact HP46.2); have hp_ : Kd.R (Kd.int .i64) 2 w47 w.heap.size (fun k_ => some k_ ≠ (v356 : Value).ownBlock) (.slice (some ⟨go45, 0, none⟩) x20_3.length co41) y379 := (by rw [hw, Ny379.out]; exact HP46.1); clear HP46; have n0_ := Aside0.mk (Kd.R_after (v := (.slice (some ⟨go45, 0, none⟩) x20_3.length co41)) (v1 := (.slice (some ⟨go45, 0, none⟩) x20_3.length co41)) (ok := (fun _ => True)) (by (with_reducible repeat (first | apply rrA | apply rrN | apply rrD)); exact Kd.R_mono HO_12.out (fun _ hk => ⟨trivial, hk⟩)) hg (.inl rfl)); have n1_ := Aside0.mk (Kd.S_after (v := (.slice (some ⟨go45, 0, none⟩) x20_3.length co41)) (v1 := (.slice (some ⟨go45, 0, none⟩) x20_3.length co41)) (ok := (fun k_ => some k_ ≠ (v356 : Value).ownBlock)) (by (with_reducible repeat (first | apply Kd.S_alloc | apply Kd.S_drewN | apply Kd.S_drew)); exact HO_19.out) hg (.inl rfl)); have n2_ := Aside0.mk (hp_); have n3_ := Aside0.mk ((by rw [hw]; exact below_set (HB.out) GB45.out : Below w.heap.size w w47)); clear HO_12; clear HO_19; clear HO_20; clear HB; have HO_12 := n0_; have HO_19 := n1_; have HO_20 := n2_; have HB := n3_; clear n0_ n1_ n2_ n3_; clear hg hw hp_))
               (try simp only [← hl20_3])
               go_roundg k3
               case measure => have := HJ12.out; have := HK2.out; have := HK3.out; omega
               case rel => exact ⟨(y379), (wrap64 (x94_3 + 1)), (by first | rfl | (simp; done) | (simp [*]; done)), H', ⟨by have := HJ12.out; have := HK2.out; have := HK3.out; omega⟩, ⟨by (try simp only [hl13_2]); (try simp only [hl20_3]); (with_reducible repeat (first | apply rrA | apply rrN | apply rrD)); exact Kd.R_mono HO_12.out (fun _ hk => hk.2)⟩, ⟨by (try simp only [hl13_2]); (try simp only [hl20_3]); (with_reducible repeat (first | apply Kd.S_alloc | apply Kd.S_drewN | apply Kd.S_drew)); exact HO_19.out⟩, ⟨by (try simp only [hl13_2]); (try simp only [hl20_3]); (with_reducible repeat (first | apply rrA | apply rrN | apply rrD)); exact HO_20.out⟩, ⟨by repeat (first | (with_reducible first | exact HB.out | apply zzA | apply zzN | apply zzD) | exact HB.out)⟩⟩
             ·
              rw [if_neg c44] at H
              exact absurd H (by simp)
            ·
             rw [if_neg c43] at H
             exact absurd H (by simp)
           ·
            rw [if_neg c42] at H
            have c42b0 : decide (x94_3 < (t372.length : Int)) = false := decide_eq_false c42; (try simp only [hl13_2] at c42b0); (try simp only [hl20_3] at c42b0)
            clear c42
            have H' := Aside0.mk H
            clear H
            obtain ⟨Ao48, co48, eo48⟩ := Kd.S_slice HO_19.out
            subst eo48
            go_wp2
            go_loopg [106] k3 (fun kq v106 w' => ∃ (x106_4 : Int), v106 = .int .i64 x106_4 ∧ Aside0 (thrumlaw16_MlpBends.l2 kq l2 true y355 x17_12 t371 (t371.length : Int) x106_4 = some r) ∧ Aside0 (kq ≤ k3) ∧ Aside0 (Kd.R (Kd.int .i64) 2 w' w.heap.size (fun _ => True) v356 y355) ∧ Aside0 (RowsInc w' w.heap.size (v356 : Value).ownBlock Ao48 t371) ∧ Aside0 (Below w.heap.size w w'))
            case atStart => exact ⟨(0), (by first | rfl | (simp; done) | (simp [*]; done)), H', ⟨Nat.le_refl _⟩, ⟨by (try simp only [hl13_2]); (try simp only [hl20_3]); (with_reducible repeat (first | apply rrA | apply rrN | apply rrD)); exact Kd.R_mono HO_12.out (fun _ hk => trivial)⟩, ⟨RowsInc.of_S (Kd.S_mono HO_19.out (fun _ hk => hk.1)) (fun _ hk => hk)⟩, ⟨by repeat (first | (with_reducible first | exact HB.out | apply zzA | apply zzN | apply zzD) | exact HB.out)⟩⟩
            case round =>
             clear H'
             try clear c1
             try clear c2
             try clear p2
             try clear c3
             try clear p3
             try clear q3
             try clear hx3
             try clear c4
             try clear p4
             try clear q4
             try clear hx4
             try clear c6
             try clear p6
             try clear c7
             try clear c8
             try clear c9
             try clear c10
             try clear c11
             try clear c20
             try clear c21
             try clear c21b0
             try clear c21b1
             try clear c23
             try clear c27
             try clear c28
             try clear c33
             try clear c33b0
             try clear c34
             try clear c34b0
             try clear c35
             try clear c35b0
             try clear p36
             try clear q36
             try clear hx36
             try clear hf36
             try clear p37
             try clear q37
             try clear hx37
             try clear c42
             try clear c42b0
             try clear c43
             try clear c43b0
             try clear c44
             try clear c44b0
             try clear p45
             try clear q45
             try clear hx45
             try clear hf45
             try clear hx369_0
             try clear hx36_0
             try clear hx378_0
             try clear hx45_0
             try clear p2
             try clear p3
             try clear p36
             try clear p369
             try clear p378
             try clear p45
             try clear p6
             try clear q3
             try clear q36
             try clear q369
             try clear q378
             try clear q45
             obtain ⟨x106_4, rfl, HA, HK4, HO_12, HO_104, HB⟩ := hrel
             cases gk with
             | zero => exact absurd HA.out (by simp [thrumlaw16_MlpBends.l2])
             | succ k4 =>
              have H := HA.out
              clear HA
              simp only [thrumlaw16_MlpBends.l2] at H
              by_cases c49 : x106_4 < (t371.length : Int)
              ·
               rw [if_pos c49] at H
               have c49b0 : decide (x106_4 < (t371.length : Int)) = true := decide_eq_true c49
               clear c49
               by_cases c50 : 0 ≤ x106_4
               ·
                rw [if_pos c50] at H
                have c50b0 : decide (0 ≤ x106_4) = true := decide_eq_true c50
                clear c50
                by_cases c51 : x106_4 < (t371.length : Int)
                ·
                 rw [if_pos c51] at H
                 have c51b0 : decide (x106_4 < (t371.length : Int)) = true := decide_eq_true c51
                 clear c51
                 have H' := Aside0.mk H
                 clear H
                 have p106 : 0 ≤ (x106_4 : Int) := of_decide_eq_true (by first | (with_reducible assumption) | assumption)
                 have q106 : x106_4 < (t371.length : Int) := of_decide_eq_true (by first | (with_reducible assumption) | assumption)
                 have hj : (x106_4 : Int).toNat < t371.length := by omega
                 obtain ⟨ad106, A106, c106, e106, hx106, hm106, -⟩ := HO_104.out (x106_4 : Int).toNat hj
                 subst e106
                 obtain ⟨n106, hn106⟩ : ∃ n, (t371[(x106_4 : Int).toNat]'hj).length = n := ⟨_, rfl⟩
                 rw [hn106] at hx106 hm106
                 have HJX := Aside0.mk hj
                 have HNX := Aside0.mk hn106
                 have HMX := Aside0.mk hm106
                 clear hn106 hm106
                 replace p106 := eq_true p106
                 replace q106 := eq_true q106
                 go_wp2
                 have HXX := Aside0.mk hx106
                 clear hx106
                 go_loopw [112] (fun v W => ∃ x112 : Int, v = .int .i64 x112 ∧ Aside0 (0 ≤ x112 ∧ x112 ≤ (n106 : Int)) ∧ Aside0 (Kd.R (Kd.int .i64) 2 W w.heap.size (fun _ => True) v356 y355) ∧ Aside0 (RowsInc W w.heap.size (v356 : Value).ownBlock (some ad106) t371) ∧ Aside0 (W.cell? (ad106.add (x106_4 : Int).toNat) = some (.slice A106 n106 c106)) ∧ Aside0 (Below w.heap.size w W)) (fun v _ => ((n106 : Int) - intOf v).toNat)
                 case atStart => exact ⟨0, rfl, ⟨Int.le_refl _, Int.natCast_nonneg _⟩, HO_12, HO_104, HXX, HB⟩
                 case round =>
                  clear HO_12 HO_104 HXX HB
                  obtain ⟨x112, rfl, HI, HO_12, HO_104, HXX, HB⟩ := hrel
                  by_cases hlt : x112 < (n106 : Int)
                  ·
                   obtain ⟨ad', A', c', e', hx', hm', hrow⟩ := HO_104.out (x106_4 : Int).toNat HJX.out
                   cases e'
                   rw [HNX.out] at hx' hrow
                   have hA := hx'.symm.trans HXX.out
                   injection hA with hA
                   injection hA with hA1 hA2 hA3
                   subst hA1
                   have p112 : 0 ≤ x112 := HI.out.1
                   obtain ⟨g112, n112, rfl, hg, hb, hc112, hf112⟩ := hrow x112.toNat (by omega)
                   have HG112 := Aside0.mk hg
                   have HB112 := Aside0.mk hb
                   have HL112 := Aside0.mk hlt
                   have c112b0 : decide (x112 < (n106 : Int)) = true := decide_eq_true hlt
                   clear hA2 hA3 hx' hm' hrow hg hb
                   replace p112 := eq_true p112
                   replace hlt := eq_true hlt
                   go_wp2
                   have hb112 : I64 (x112 + 1) := by have := HI.out; have := HMX.out; have := HL112.out; unfold I64; omega
                   exact ⟨⟨x112 + 1, by first | rfl | (rw [wrap64_of hb112]), ⟨by have := HI.out; have := HL112.out; omega⟩, ⟨Kd.R_mono (Kd.R_far (p := ⟨g112, (x112 : Int).toNat, none⟩) (Kd.R_tight rfl HO_12.out) (fun k_ hk_ he_ => HB112.out (by rw [← hk_, he_])) _) (fun _ _ => trivial)⟩, ⟨RowsInc.put HO_104.out _ hc112⟩, ⟨cell_put _ HXX.out hc112⟩, ⟨below_set HB.out HG112.out⟩⟩, by have := HI.out; have := HL112.out; (try rw [wrap64_of hb112]); simp [intOf]; omega⟩
                  ·
                   have c112b0 : decide (x112 < (n106 : Int)) = false := decide_eq_false hlt
                   replace hlt := eq_false hlt
                   go_wp2
                   go_roundg k4
                   case measure => have := HJ12.out; have := HK2.out; have := HK3.out; have := HK4.out; omega
                   case rel => exact ⟨(wrap64 (x106_4 + 1)), (by first | rfl | (simp; done) | (simp [*]; done)), H', ⟨by have := HJ12.out; have := HK2.out; have := HK3.out; have := HK4.out; omega⟩, ⟨by (try simp only [hl13_2]); (try simp only [hl20_3]); (with_reducible repeat (first | apply rrA | apply rrN | apply rrD)); exact HO_12.out⟩, HO_104, ⟨by repeat (first | (with_reducible first | exact HB.out | apply zzA | apply zzN | apply zzD) | exact HB.out)⟩⟩
                ·
                 rw [if_neg c51] at H
                 exact absurd H (by simp)
               ·
                rw [if_neg c50] at H
                exact absurd H (by simp)
              ·
               rw [if_neg c49] at H
               have c49b0 : decide (x106_4 < (t371.length : Int)) = false := decide_eq_false c49; (try simp only [hl13_2] at c49b0); (try simp only [hl20_3] at c49b0)
               clear c49
               first | rw [if_pos rfl] at H | rw [if_pos trivial] at H
               by_cases c52 : x17_12 = true
               ·
                subst c52
                have H1 : ((thrumref02_Same.f l2 y355).bind fun t381 => (some t381)) = some r := by rw [if_pos rfl] at H; exact H
                clear H
                have H := H1
                clear H1
                replace H := Option.bind_eq_some_iff.mp H
                obtain ⟨t381, A530, H⟩ := H
                replace H : (some t381) = some r := H
                have A53 := Aside0.mk A530
                clear A530
                focus
                 obtain rfl := Option.some.inj H
                 obtain ⟨Ao54, co54, eo54⟩ := Kd.R_slice HO_12.out
                 subst eo54
                 go_wp2_with (first | (go_at_call 23; (with_reducible refine (thrumref02_Same.calls _ _ l2 _ _ y355 t381 _ ?side1 ?side2 ?side3 ?side4 A53.out).mono ?_); (case side1 => repeat (first | exact (Kd.C_below HR2.out HB.out) | (with_reducible refine ccA ?_ _) | (with_reducible refine ccN ?_ _) | (with_reducible refine ccD ?_))); (case side2 => exact HC2.out); (case side3 => repeat (first | exact (Kd.R_reads' HO_12.out).2.2 | (with_reducible refine ccA ?_ _) | (with_reducible refine ccN ?_ _) | (with_reducible refine ccD ?_))); (case side4 => exact (Kd.R_reads' HO_12.out).2.1); rintro e w' ⟨rfl, ⟨nd, rfl⟩⟩))
                 go_ret
                 exact ⟨by first | rfl | (simp [errW_none, errW_some] <;> rfl) | (simp [*, errW_none, errW_some] <;> rfl), by repeat (first | (with_reducible first | exact HB.out | apply zzA | apply zzN | apply zzD) | exact HB.out)⟩
               ·
                replace c52 := Bool.eq_false_iff.mpr c52
                subst c52
                have H1 : (some false) = some r := by rw [if_neg (show ¬ (false = true) by decide)] at H; exact H
                exact absurd (Option.some.inj H1) (by rw [HR_.out]; decide)
   ·
    rw [if_neg c10] at H
    exact absurd H (by simp)
  ·
   replace c9 := Bool.eq_false_iff.mpr c9
   subst c9
   have H1 : (some true) = some r := by rw [if_neg (show ¬ (false = true) by decide)] at H; exact H
   clear H
   have H := H1
   clear H1
   focus
    obtain rfl := Option.some.inj H
    go_enter Try.func6, Try.ntmps6
    go_wp2_with (first | ((with_reducible refine gate_callee (f := 8) rfl ?_); refine goesL_ (some 26) rfl rfl Try.func8 (by kernel_rfl) rfl #[] rfl (by (try simp only [List.map_toArray, List.map_cons, List.map_nil]); first | done | rfl | (simp only [List.length_drop, List.length_take]; rfl)) ?_; (with_reducible refine (thrumlaw16_live.calls  true _ A6.out).mono ?_); rintro e w55 ⟨rfl, hb⟩; refine ⟨_, rfl, ?_⟩; have n0_ := Aside0.mk (zzT (by repeat (first | (with_reducible first | exact HB.out | apply zzA | apply zzN | apply zzD) | exact HB.out)) hb); clear HB; have HB := n0_; clear n0_; (try clear hb); (try clear hb2); (try clear hk); (try clear hi)) | ((with_reducible refine gate_callee (f := 9) rfl ?_); refine goesL_ (some 31) rfl rfl Try.func9 (by kernel_rfl) rfl #[.slice A2 l2.length c2, .slice A4 l4.length c4] rfl (by (try simp only [List.map_toArray, List.map_cons, List.map_nil]); first | done | rfl | (simp only [List.length_drop, List.length_take]; rfl)) ?_; (with_reducible refine (thrumref14_Few.calls _ _ l2 _ _ l4 false _ ?side1 ?side2 ?side3 ?side4 A8.out).mono ?_); (case side1 => repeat (first | exact (Kd.C_below HR2.out HB.out) | (with_reducible refine ccA ?_ _) | (with_reducible refine ccN ?_ _) | (with_reducible refine ccD ?_))); (case side2 => exact HC2.out); (case side3 => repeat (first | exact (Kd.C_below HR4.out HB.out) | (with_reducible refine ccA ?_ _) | (with_reducible refine ccN ?_ _) | (with_reducible refine ccD ?_))); (case side4 => exact HC4.out); rintro e w56 ⟨rfl, hb⟩; refine ⟨_, rfl, ?_⟩; have n0_ := Aside0.mk (zzT (by repeat (first | (with_reducible first | exact HB.out | apply zzA | apply zzN | apply zzD) | exact HB.out)) hb); clear HB; have HB := n0_; clear n0_; (try clear hb); (try clear hb2); (try clear hk); (try clear hi)))
    go_ret
    exact ⟨by first | rfl | (simp [errW_none, errW_some] <;> rfl) | (simp [*, errW_none, errW_some] <;> rfl), by repeat (first | (with_reducible first | exact HB.out | apply zzA | apply zzN | apply zzD) | exact HB.out)⟩
 ·
  replace c7 := Bool.eq_false_iff.mpr c7
  subst c7
  have H1 : (some false) = some r := by rw [if_neg (show ¬ (false = true) by decide)] at H; exact H
  exact absurd (Option.some.inj H1) (by rw [HR_.out]; decide)

/-- THE ONE PURE STATEMENT of thrumlaw16_MlpBends: yours. -/
def thrumlaw16_MlpBends.Pure : Prop := ∀ (a0 : Int) (a1 : Int) (l2 : List Int) (a3 : Int) (l4 : List (S26)), (Lit.int .i64 a0).wf = true → (Lit.int .i64 a1).wf = true → l2.length ≤ maxLen → l2.length * 8 ≤ 140737488351232 → (∀ x ∈ l2, (Lit.int .i64 x).wf = true) → (Lit.int .i64 a3).wf = true → (l4.length ≤ maxLen ∧ ∀ x__ ∈ l4, ((x__.f0.length ≤ maxLen ∧ ∀ x2__ ∈ x__.f0, (Lit.int .i64 x2__).wf = true) ∧ (Lit.int .i64 x__.f1).wf = true ∧ True)) → ∃ k, thrumlaw16_MlpBends.f k a0 a1 l2 a3 l4 = some true
theorem thrumlaw16_MlpBends.walk (P : thrumlaw16_MlpBends.Pure) (a0 : Int) (a1 : Int) (a2 : Option Addr) (len2 cap2 : Nat) (z2 : List Int) (a3 : Int) (A4 : Option Addr) (c4 : Nat) (l4 : List (S26)) (w : World) (w0 : (Lit.int .i64 a0).wf = true) (w1 : (Lit.int .i64 a1).wf = true) (w2 : (a2 = none ∧ len2 = 0 ∧ cap2 = 0 ∧ z2 = []) ∨ ∃ x, a2 = some x ∧ len2 ≤ cap2 ∧ cap2 ≤ maxLen ∧ z2.length = cap2 ∧ (∀ i, i < z2.length → w.cell? (x.add i) = some (.int .i64 (z2.getD i 0))) ∧ ∀ n ∈ z2, (Lit.int .i64 n).wf = true) (y2 : len2 * 8 ≤ 140737488351232) (w3 : (Lit.int .i64 a3).wf = true) (hr4 : Kd.C k26 w A4 l4.length l4) (hc4 : l4.length ≤ c4) (hg4 : (l4.length ≤ maxLen ∧ ∀ x__ ∈ l4, ((x__.f0.length ≤ maxLen ∧ ∀ x2__ ∈ x__.f0, (Lit.int .i64 x2__).wf = true) ∧ (Lit.int .i64 x__.f1).wf = true ∧ True))) :
  Calls Try.prog 6 #[.int .i64 a0, .int .i64 a1, .slice a2 len2 cap2, .int .i64 a3, .slice A4 l4.length c4] w fun e w' => e = .returned (.bool true) ∧ Below w.heap.size w w' := by
 obtain ⟨l2, rfl, hr2, hm2, hw2, hc2⟩ := ReadsInt.ofRowC w2
 obtain ⟨k, h⟩ := P a0 a1 l2 a3 l4 w0 w1 hm2 y2 hw2 w3 hg4
 refine (thrumlaw16_MlpBends.calls k a0 a1 _ _ l2 a3 _ _ l4 true w (Kd.C_of_reads (d := (0 : Int)) (h1 := fun _ => rfl) hr2) hc2 hr4 hc4 h rfl).mono ?_
 rintro e w' ⟨rfl, hd⟩
 exact ⟨rfl, hd⟩



















































































































































































































































































































































































































































































































































































































































































































































































































































































































































































































































end Go.Proofs.Ytalamamjodihaaa.HO
