/- What Go functions do, each as a plain Lean function with the same answers, and the proof of it, in every world: printed by the session's driver over the kit's print, with texts by hand. -/
import Derived.Test.YtfbdalnjijdknaaHLx0
import Derived.Test.YtfbdalnjijdknaaHLx1
import Derived.Test.YtfbdalnjijdknaaHLx3
import Derived.Test.YtfbdalnjijdknaaHLx9
import Derived.Test.YtfbdalnjijdknaaHLx10
import Derived.Test.YtfbdalnjijdknaaHLx21
import Derived.Test.YtfbdalnjijdknaaHLx22
namespace Go.Proofs.Ytfbdalnjijdknaa.HL
open Go.RowKit Go.Proofs.YtfbdalnjijdknaaW.PrintWords Go.Proofs.YtfbdalnjijdknaaW.PrintLast Go.Proofs.YtfbdalnjijdknaaW.PrintMore
attribute [local go_sem] max2_int min2_int max_two min_two max_three min_three max_four min_four   -- for this text's walks alone
open Go.Proofs.Ytfbdalnjijdknaa.Sp
attribute [local go_sem] Go.Proofs.Ytfbdalnjijdknaa.Sp.u64_not
set_option linter.unusedVariables false
set_option linter.unusedSimpArgs false

/-! ### thrumlaw14_LinearBends: function 14 -/
mutual
def thrumlaw14_LinearBends.j0 : Nat → List Int → Bool → List Int → List Int → Bool → Option (Bool)
 | 0, _, _, _, _, _ => none
 | k + 1, x0, x9, x10, x11, x19 => thrumlaw14_LinearBends.l0 k x0 x9 x10 x11 x19 (x11.length : Int) 0
def thrumlaw14_LinearBends.l0 : Nat → List Int → Bool → List Int → List Int → Bool → Int → Int → Option (Bool)
 | 0, _, _, _, _, _, _, _ => none
 | k + 1, x0, x9, x10, x11, x19, x89, x90 => if x90 < x89 then (if 0 ≤ x90 then (if x90 < (x11.length : Int) then (thrumlaw14_LinearBends.l0 k x0 x9 x10 (x11.set (x90 : Int).toNat (wrap64 ((rd x11 x90) + 1))) x19 x89 (wrap64 (x90 + 1))) else (none)) else (none)) else (if x9 = true then (if x19 = true then ((thrumref02_Same.f x0 x10).bind fun t352 => (some t352)) else (some false)) else (some false))
end
def thrumlaw14_LinearBends.f (k : Nat) (l0 : List Int) (a1 : Int) (l2 : List (S26)) (a3 : Int) : Option (Bool) := (thrumlaw14_live.f).bind fun t330 => (if t330 = true then ((thrumref14_Few.f l0 l2).bind fun t331 => (if t331 = true then (if ([] : List Int).length + l0.length < 17592186044416 then ((some (([] : List Int) ++ l0 : List Int)).bind fun y332 => ((linear_Grad.f l0 a1 l2).bind fun bt335 => ((thrumref14_Grad.f l0 a1 l2).bind fun bt339 => ((linear_Loss.f l0 a1 l2).bind fun bt343 => ((thrumref14_Loss.f l0 a1 l2).bind fun bt345 => ((thrumref02_Same.f bt335.1 bt339.1).bind fun t347 => (if t347 = true then (if bt335.2 = bt339.2 then (if bt343.1 = bt345.1 then (if bt343.2 = bt345.2 then ((linear_Check.f a3 l0 l2).bind fun t348 => ((thrumref14_Check.f a3 l0 l2).bind fun t349 => (thrumlaw14_LinearBends.j0 k l0 t330 y332 bt335.1 (t348 == t349)))) else (thrumlaw14_LinearBends.j0 k l0 t330 y332 bt335.1 false)) else (thrumlaw14_LinearBends.j0 k l0 t330 y332 bt335.1 false)) else (thrumlaw14_LinearBends.j0 k l0 t330 y332 bt335.1 false)) else (thrumlaw14_LinearBends.j0 k l0 t330 y332 bt335.1 false)))))))) else (none)) else (some t330))) else (some false))
theorem thrumlaw14_LinearBends.mono_l : ∀ k, (∀ y0 y1 y2 y3 y4, LeO (thrumlaw14_LinearBends.j0 k y0 y1 y2 y3 y4) (thrumlaw14_LinearBends.j0 (k + 1) y0 y1 y2 y3 y4)) ∧ (∀ y0 y1 y2 y3 y4 y5 y6, LeO (thrumlaw14_LinearBends.l0 k y0 y1 y2 y3 y4 y5 y6) (thrumlaw14_LinearBends.l0 (k + 1) y0 y1 y2 y3 y4 y5 y6))
 | 0 => ⟨fun _ _ _ _ _ r h => by simp [thrumlaw14_LinearBends.j0] at h, fun _ _ _ _ _ _ _ r h => by simp [thrumlaw14_LinearBends.l0] at h⟩
 | k + 1 => by
  obtain ⟨ih0, ih1⟩ := thrumlaw14_LinearBends.mono_l k
  refine ⟨?_, ?_⟩
  ·
   intro y0 y1 y2 y3 y4
   unfold thrumlaw14_LinearBends.j0
   repeat' first
   | (with_reducible exact ih0 _ _ _ _ _)
   | (with_reducible exact ih1 _ _ _ _ _ _ _)
   | (with_reducible exact LeO.refl _)
   | (with_reducible exact LeO.none _)
   | (with_reducible refine LeO.ite ?_ ?_)
   | (with_reducible refine LeO.bind ?_ (fun _ => ?_))
   | exact ih0 _ _ _ _ _
   | exact ih1 _ _ _ _ _ _ _
   | exact LeO.none _
   | refine LeO.ite ?_ ?_
   | refine LeO.bind ?_ (fun _ => ?_)
  ·
   intro y0 y1 y2 y3 y4 y5 y6
   unfold thrumlaw14_LinearBends.l0
   repeat' first
   | (with_reducible exact ih0 _ _ _ _ _)
   | (with_reducible exact ih1 _ _ _ _ _ _ _)
   | (with_reducible exact LeO.refl _)
   | (with_reducible exact LeO.none _)
   | (with_reducible refine LeO.ite ?_ ?_)
   | (with_reducible refine LeO.bind ?_ (fun _ => ?_))
   | exact ih0 _ _ _ _ _
   | exact ih1 _ _ _ _ _ _ _
   | exact LeO.none _
   | refine LeO.ite ?_ ?_
   | refine LeO.bind ?_ (fun _ => ?_)
theorem thrumlaw14_LinearBends.mono : ∀ a0 a1 a2 a3 k, LeO (thrumlaw14_LinearBends.f k a0 a1 a2 a3) (thrumlaw14_LinearBends.f (k + 1) a0 a1 a2 a3) := by
 intro a0 a1 a2 a3 k
 obtain ⟨ih0, ih1⟩ := thrumlaw14_LinearBends.mono_l k
 unfold thrumlaw14_LinearBends.f
 repeat' first
   | (with_reducible exact ih0 _ _ _ _ _)
   | (with_reducible exact ih1 _ _ _ _ _ _ _)
   | (with_reducible exact LeO.refl _)
   | (with_reducible exact LeO.none _)
   | (with_reducible refine LeO.ite ?_ ?_)
   | (with_reducible refine LeO.bind ?_ (fun _ => ?_))
   | exact ih0 _ _ _ _ _
   | exact ih1 _ _ _ _ _ _ _
   | exact LeO.none _
   | refine LeO.ite ?_ ?_
   | refine LeO.bind ?_ (fun _ => ?_)
set_option maxHeartbeats 80000000 in
set_option maxRecDepth 100000 in
theorem thrumlaw14_LinearBends.calls (k : Nat) (A0 : Option Addr) (c0 : Nat) (l0 : List Int) (a1 : Int) (A2 : Option Addr) (c2 : Nat) (l2 : List (S26)) (a3 : Int) (r : Bool) (w : World) (hr0 : Kd.C (Kd.int .i64) w A0 l0.length l0) (hc0 : l0.length ≤ c0) (hr2 : Kd.C k26 w A2 l2.length l2) (hc2 : l2.length ≤ c2) (h : thrumlaw14_LinearBends.f k l0 a1 l2 a3 = some r) (hr_ : r = true) :
  Calls Try.prog 14 #[.slice A0 l0.length c0, .int .i64 a1, .slice A2 l2.length c2, .int .i64 a3] w fun e w' => e = .returned (.bool r) ∧ Below w.heap.size w w' := by
 have HR_ := Aside0.mk hr_
 clear hr_
 have HR0 := Aside0.mk hr0
 have HC0 := Aside0.mk hc0
 clear hr0 hc0
 have HR2 := Aside0.mk hr2
 have HC2 := Aside0.mk hc2
 clear hr2 hc2
 have HB := Aside0.mk (Below.refl w.heap.size w)
 have H : ((thrumlaw14_live.f).bind fun t330 => (if t330 = true then ((thrumref14_Few.f l0 l2).bind fun t331 => (if t331 = true then (if ([] : List Int).length + l0.length < 17592186044416 then ((some (([] : List Int) ++ l0 : List Int)).bind fun y332 => ((linear_Grad.f l0 a1 l2).bind fun bt335 => ((thrumref14_Grad.f l0 a1 l2).bind fun bt339 => ((linear_Loss.f l0 a1 l2).bind fun bt343 => ((thrumref14_Loss.f l0 a1 l2).bind fun bt345 => ((thrumref02_Same.f bt335.1 bt339.1).bind fun t347 => (if t347 = true then (if bt335.2 = bt339.2 then (if bt343.1 = bt345.1 then (if bt343.2 = bt345.2 then ((linear_Check.f a3 l0 l2).bind fun t348 => ((thrumref14_Check.f a3 l0 l2).bind fun t349 => (thrumlaw14_LinearBends.j0 k l0 t330 y332 bt335.1 (t348 == t349)))) else (thrumlaw14_LinearBends.j0 k l0 t330 y332 bt335.1 false)) else (thrumlaw14_LinearBends.j0 k l0 t330 y332 bt335.1 false)) else (thrumlaw14_LinearBends.j0 k l0 t330 y332 bt335.1 false)) else (thrumlaw14_LinearBends.j0 k l0 t330 y332 bt335.1 false)))))))) else (none)) else (some t330))) else (some false))) = some r := h
 clear h
 replace H := Option.bind_eq_some_iff.mp H
 obtain ⟨t330, A50, H⟩ := H
 replace H : (if t330 = true then ((thrumref14_Few.f l0 l2).bind fun t331 => (if t331 = true then (if ([] : List Int).length + l0.length < 17592186044416 then ((some (([] : List Int) ++ l0 : List Int)).bind fun y332 => ((linear_Grad.f l0 a1 l2).bind fun bt335 => ((thrumref14_Grad.f l0 a1 l2).bind fun bt339 => ((linear_Loss.f l0 a1 l2).bind fun bt343 => ((thrumref14_Loss.f l0 a1 l2).bind fun bt345 => ((thrumref02_Same.f bt335.1 bt339.1).bind fun t347 => (if t347 = true then (if bt335.2 = bt339.2 then (if bt343.1 = bt345.1 then (if bt343.2 = bt345.2 then ((linear_Check.f a3 l0 l2).bind fun t348 => ((thrumref14_Check.f a3 l0 l2).bind fun t349 => (thrumlaw14_LinearBends.j0 k l0 t330 y332 bt335.1 (t348 == t349)))) else (thrumlaw14_LinearBends.j0 k l0 t330 y332 bt335.1 false)) else (thrumlaw14_LinearBends.j0 k l0 t330 y332 bt335.1 false)) else (thrumlaw14_LinearBends.j0 k l0 t330 y332 bt335.1 false)) else (thrumlaw14_LinearBends.j0 k l0 t330 y332 bt335.1 false)))))))) else (none)) else (some t330))) else (some false)) = some r := H
 have A5 := Aside0.mk A50
 clear A50
 by_cases c6 : t330 = true
 ·
  subst c6
  have H1 : ((thrumref14_Few.f l0 l2).bind fun t331 => (if t331 = true then (if ([] : List Int).length + l0.length < 17592186044416 then ((some (([] : List Int) ++ l0 : List Int)).bind fun y332 => ((linear_Grad.f l0 a1 l2).bind fun bt335 => ((thrumref14_Grad.f l0 a1 l2).bind fun bt339 => ((linear_Loss.f l0 a1 l2).bind fun bt343 => ((thrumref14_Loss.f l0 a1 l2).bind fun bt345 => ((thrumref02_Same.f bt335.1 bt339.1).bind fun t347 => (if t347 = true then (if bt335.2 = bt339.2 then (if bt343.1 = bt345.1 then (if bt343.2 = bt345.2 then ((linear_Check.f a3 l0 l2).bind fun t348 => ((thrumref14_Check.f a3 l0 l2).bind fun t349 => (thrumlaw14_LinearBends.j0 k l0 true y332 bt335.1 (t348 == t349)))) else (thrumlaw14_LinearBends.j0 k l0 true y332 bt335.1 false)) else (thrumlaw14_LinearBends.j0 k l0 true y332 bt335.1 false)) else (thrumlaw14_LinearBends.j0 k l0 true y332 bt335.1 false)) else (thrumlaw14_LinearBends.j0 k l0 true y332 bt335.1 false)))))))) else (none)) else (some true))) = some r := by rw [if_pos rfl] at H; exact H
  clear H
  have H := H1
  clear H1
  replace H := Option.bind_eq_some_iff.mp H
  obtain ⟨t331, A70, H⟩ := H
  replace H : (if t331 = true then (if ([] : List Int).length + l0.length < 17592186044416 then ((some (([] : List Int) ++ l0 : List Int)).bind fun y332 => ((linear_Grad.f l0 a1 l2).bind fun bt335 => ((thrumref14_Grad.f l0 a1 l2).bind fun bt339 => ((linear_Loss.f l0 a1 l2).bind fun bt343 => ((thrumref14_Loss.f l0 a1 l2).bind fun bt345 => ((thrumref02_Same.f bt335.1 bt339.1).bind fun t347 => (if t347 = true then (if bt335.2 = bt339.2 then (if bt343.1 = bt345.1 then (if bt343.2 = bt345.2 then ((linear_Check.f a3 l0 l2).bind fun t348 => ((thrumref14_Check.f a3 l0 l2).bind fun t349 => (thrumlaw14_LinearBends.j0 k l0 true y332 bt335.1 (t348 == t349)))) else (thrumlaw14_LinearBends.j0 k l0 true y332 bt335.1 false)) else (thrumlaw14_LinearBends.j0 k l0 true y332 bt335.1 false)) else (thrumlaw14_LinearBends.j0 k l0 true y332 bt335.1 false)) else (thrumlaw14_LinearBends.j0 k l0 true y332 bt335.1 false)))))))) else (none)) else (some true)) = some r := H
  have A7 := Aside0.mk A70
  clear A70
  by_cases c8 : t331 = true
  ·
   subst c8
   have H1 : (if ([] : List Int).length + l0.length < 17592186044416 then ((some (([] : List Int) ++ l0 : List Int)).bind fun y332 => ((linear_Grad.f l0 a1 l2).bind fun bt335 => ((thrumref14_Grad.f l0 a1 l2).bind fun bt339 => ((linear_Loss.f l0 a1 l2).bind fun bt343 => ((thrumref14_Loss.f l0 a1 l2).bind fun bt345 => ((thrumref02_Same.f bt335.1 bt339.1).bind fun t347 => (if t347 = true then (if bt335.2 = bt339.2 then (if bt343.1 = bt345.1 then (if bt343.2 = bt345.2 then ((linear_Check.f a3 l0 l2).bind fun t348 => ((thrumref14_Check.f a3 l0 l2).bind fun t349 => (thrumlaw14_LinearBends.j0 k l0 true y332 bt335.1 (t348 == t349)))) else (thrumlaw14_LinearBends.j0 k l0 true y332 bt335.1 false)) else (thrumlaw14_LinearBends.j0 k l0 true y332 bt335.1 false)) else (thrumlaw14_LinearBends.j0 k l0 true y332 bt335.1 false)) else (thrumlaw14_LinearBends.j0 k l0 true y332 bt335.1 false)))))))) else (none)) = some r := by rw [if_pos rfl] at H; exact H
   clear H
   have H := H1
   clear H1
   by_cases c9 : ([] : List Int).length + l0.length < 17592186044416
   ·
    rw [if_pos c9] at H
    have LMc9 := Aside0.mk c9
    clear c9
    obtain ⟨y332, hy332⟩ : ∃ y_ : List Int, y_ = (([] : List Int) ++ l0) := ⟨_, rfl⟩
    replace H : ((linear_Grad.f l0 a1 l2).bind fun bt335 => ((thrumref14_Grad.f l0 a1 l2).bind fun bt339 => ((linear_Loss.f l0 a1 l2).bind fun bt343 => ((thrumref14_Loss.f l0 a1 l2).bind fun bt345 => ((thrumref02_Same.f bt335.1 bt339.1).bind fun t347 => (if t347 = true then (if bt335.2 = bt339.2 then (if bt343.1 = bt345.1 then (if bt343.2 = bt345.2 then ((linear_Check.f a3 l0 l2).bind fun t348 => ((thrumref14_Check.f a3 l0 l2).bind fun t349 => (thrumlaw14_LinearBends.j0 k l0 true y332 bt335.1 (t348 == t349)))) else (thrumlaw14_LinearBends.j0 k l0 true y332 bt335.1 false)) else (thrumlaw14_LinearBends.j0 k l0 true y332 bt335.1 false)) else (thrumlaw14_LinearBends.j0 k l0 true y332 bt335.1 false)) else (thrumlaw14_LinearBends.j0 k l0 true y332 bt335.1 false))))))) = some r := by first | (rw [hy332]; with_reducible exact H) | (have H2_ := (Option.bind_some _ _).symm.trans H; rw [hy332]; with_reducible exact H2_) | (have H2_ := (Option.bind_some _ _).symm.trans H; with_reducible exact H2_) | with_reducible exact H | (rw [hy332]; exact H) | exact H
    have Ny332 := Aside0.mk hy332
    clear hy332
    replace H := Option.bind_eq_some_iff.mp H
    obtain ⟨⟨t335, t336⟩, A100, H⟩ := H
    replace H : ((thrumref14_Grad.f l0 a1 l2).bind fun bt339 => ((linear_Loss.f l0 a1 l2).bind fun bt343 => ((thrumref14_Loss.f l0 a1 l2).bind fun bt345 => ((thrumref02_Same.f t335 bt339.1).bind fun t347 => (if t347 = true then (if t336 = bt339.2 then (if bt343.1 = bt345.1 then (if bt343.2 = bt345.2 then ((linear_Check.f a3 l0 l2).bind fun t348 => ((thrumref14_Check.f a3 l0 l2).bind fun t349 => (thrumlaw14_LinearBends.j0 k l0 true y332 t335 (t348 == t349)))) else (thrumlaw14_LinearBends.j0 k l0 true y332 t335 false)) else (thrumlaw14_LinearBends.j0 k l0 true y332 t335 false)) else (thrumlaw14_LinearBends.j0 k l0 true y332 t335 false)) else (thrumlaw14_LinearBends.j0 k l0 true y332 t335 false)))))) = some r := H
    have A10 := Aside0.mk A100
    clear A100
    replace H := Option.bind_eq_some_iff.mp H
    obtain ⟨⟨t339, t340⟩, A110, H⟩ := H
    replace H : ((linear_Loss.f l0 a1 l2).bind fun bt343 => ((thrumref14_Loss.f l0 a1 l2).bind fun bt345 => ((thrumref02_Same.f t335 t339).bind fun t347 => (if t347 = true then (if t336 = t340 then (if bt343.1 = bt345.1 then (if bt343.2 = bt345.2 then ((linear_Check.f a3 l0 l2).bind fun t348 => ((thrumref14_Check.f a3 l0 l2).bind fun t349 => (thrumlaw14_LinearBends.j0 k l0 true y332 t335 (t348 == t349)))) else (thrumlaw14_LinearBends.j0 k l0 true y332 t335 false)) else (thrumlaw14_LinearBends.j0 k l0 true y332 t335 false)) else (thrumlaw14_LinearBends.j0 k l0 true y332 t335 false)) else (thrumlaw14_LinearBends.j0 k l0 true y332 t335 false))))) = some r := H
    have A11 := Aside0.mk A110
    clear A110
    replace H := Option.bind_eq_some_iff.mp H
    obtain ⟨⟨t343, t344⟩, A120, H⟩ := H
    replace H : ((thrumref14_Loss.f l0 a1 l2).bind fun bt345 => ((thrumref02_Same.f t335 t339).bind fun t347 => (if t347 = true then (if t336 = t340 then (if t343 = bt345.1 then (if t344 = bt345.2 then ((linear_Check.f a3 l0 l2).bind fun t348 => ((thrumref14_Check.f a3 l0 l2).bind fun t349 => (thrumlaw14_LinearBends.j0 k l0 true y332 t335 (t348 == t349)))) else (thrumlaw14_LinearBends.j0 k l0 true y332 t335 false)) else (thrumlaw14_LinearBends.j0 k l0 true y332 t335 false)) else (thrumlaw14_LinearBends.j0 k l0 true y332 t335 false)) else (thrumlaw14_LinearBends.j0 k l0 true y332 t335 false)))) = some r := H
    have A12 := Aside0.mk A120
    clear A120
    replace H := Option.bind_eq_some_iff.mp H
    obtain ⟨⟨t345, t346⟩, A130, H⟩ := H
    replace H : ((thrumref02_Same.f t335 t339).bind fun t347 => (if t347 = true then (if t336 = t340 then (if t343 = t345 then (if t344 = t346 then ((linear_Check.f a3 l0 l2).bind fun t348 => ((thrumref14_Check.f a3 l0 l2).bind fun t349 => (thrumlaw14_LinearBends.j0 k l0 true y332 t335 (t348 == t349)))) else (thrumlaw14_LinearBends.j0 k l0 true y332 t335 false)) else (thrumlaw14_LinearBends.j0 k l0 true y332 t335 false)) else (thrumlaw14_LinearBends.j0 k l0 true y332 t335 false)) else (thrumlaw14_LinearBends.j0 k l0 true y332 t335 false))) = some r := H
    have A13 := Aside0.mk A130
    clear A130
    have HC14 := Aside0.mk H
    clear H
    go_enter Try.func14, Try.ntmps14
    go_upto_region 11 with (first | ((with_reducible refine gate_callee (f := 61) rfl ?_); refine goesL_ (some 21) rfl rfl Try.func61 (by kernel_rfl) rfl #[] rfl (by (try simp only [List.map_toArray, List.map_cons, List.map_nil]); first | done | rfl | (simp only [List.length_drop, List.length_take]; rfl)) ?_; (with_reducible refine (thrumlaw14_live.calls  true _ A5.out).mono ?_); rintro e w15 ⟨rfl, hb⟩; refine ⟨_, rfl, ?_⟩; have n0_ := Aside0.mk (zzT (by repeat (first | (with_reducible first | exact HB.out | apply zzA | apply zzN | apply zzD) | exact HB.out)) hb); clear HB; have HB := n0_; clear n0_; (try clear hb); (try clear hb2); (try clear hk); (try clear hi)) | ((with_reducible refine gate_callee (f := 30) rfl ?_); refine goesL_ (some 26) rfl rfl Try.func30 (by kernel_rfl) rfl #[.slice A0 l0.length c0, .slice A2 l2.length c2] rfl (by (try simp only [List.map_toArray, List.map_cons, List.map_nil]); first | done | rfl | (simp only [List.length_drop, List.length_take]; rfl)) ?_; (with_reducible refine (thrumref14_Few.calls _ _ l0 _ _ l2 true _ ?side1 ?side2 ?side3 ?side4 A7.out).mono ?_); (case side1 => repeat (first | exact (Kd.C_below HR0.out HB.out) | (with_reducible refine ccA ?_ _) | (with_reducible refine ccN ?_ _) | (with_reducible refine ccD ?_))); (case side2 => exact HC0.out); (case side3 => repeat (first | exact (Kd.C_below HR2.out HB.out) | (with_reducible refine ccA ?_ _) | (with_reducible refine ccN ?_ _) | (with_reducible refine ccD ?_))); (case side4 => exact HC2.out); rintro e w16 ⟨rfl, hb⟩; refine ⟨_, rfl, ?_⟩; have n0_ := Aside0.mk (zzT (by repeat (first | (with_reducible first | exact HB.out | apply zzA | apply zzN | apply zzD) | exact HB.out)) hb); clear HB; have HB := n0_; clear n0_; (try clear hb); (try clear hb2); (try clear hk); (try clear hi)) | ((with_reducible refine gate_builtin (b := .append) (xs := #[.const (.slice none 0 0), .tmp 29]) rfl ?_); at_builtin; refine Kd.R_append_rows (Kd.int .i64) (w0 := w) w.heap.size rfl (.const (.slice none 0 0)) (.tmp 29) 22 2 (.int .i64 0) 8 rfl Try.underlying22 info2 rfl (by decide) (by omega) (.slice none 0 0) ([] : List Int) l0 _ _ _ (fun _ => True) (fun _ => False) rfl rfl ?aO ?aR (fun _ _ h => h) (fun _ h => h.elim) ?aF ?aB ?aS ?aL ?_; (case aR => repeat (first | exact (Kd.C_below HR0.out HB.out) | (with_reducible refine ccA ?_ _) | (with_reducible refine ccN ?_ _) | (with_reducible refine ccD ?_))); (case aB => exact (by repeat (first | (with_reducible first | exact HB.out | apply zzA | apply zzN | apply zzD) | exact HB.out))); (case aF => exact (fun _ _ => trivial)); (case aO => exact ((Kd.R_nil _ _ _ _ (fun _ => True)))); (case aS => exact (zzS (by repeat (first | (with_reducible first | exact HB.out | apply zzA | apply zzN | apply zzD) | exact HB.out)))); (case aL => have := LMc9.out; omega); intro v333 w17 ho hb hg hat; rw [← Ny332.out] at ho; have n0_ := Aside0.mk (hb); have n1_ := Aside0.mk (ho); clear HB; have HB := n0_; have HO334 := n1_; clear n0_ n1_; clear ho hb hg hat) | ((with_reducible refine gate_callee (f := 71) rfl ?_); refine goesL_ (some 35) rfl rfl Try.func71 (by kernel_rfl) rfl #[.slice A0 l0.length c0, .int .i64 a1, .slice A2 l2.length c2] rfl (by (try simp only [List.map_toArray, List.map_cons, List.map_nil]); first | done | rfl | (simp only [List.length_drop, List.length_take]; rfl)) ?_; (with_reducible refine (linear_Grad.calls _ _ l0 a1 _ _ l2 t335 t336 _ ?side1 ?side2 ?side3 ?side4 A10.out).mono ?_); (case side1 => repeat (first | exact (Kd.C_below HR0.out HB.out) | (with_reducible refine ccA ?_ _) | (with_reducible refine ccN ?_ _) | (with_reducible refine ccD ?_))); (case side2 => exact HC0.out); (case side3 => repeat (first | exact (Kd.C_below HR2.out HB.out) | (with_reducible refine ccA ?_ _) | (with_reducible refine ccN ?_ _) | (with_reducible refine ccD ?_))); (case side4 => exact HC2.out); rintro e w18 ⟨v337, rfl, ho0, hb⟩; refine ⟨_, rfl, ?_⟩; have n0_ := Aside0.mk (Kd.R_elder' (by (with_reducible repeat (first | apply rrA | apply rrN | apply rrD)); exact HO334.out) (Kd.R_base ho0) hb); have n1_ := Aside0.mk (Kd.R_lower (Kd.R_new' ho0 (Kd.R_lt (by (with_reducible repeat (first | apply rrA | apply rrN | apply rrD)); exact HO334.out))) (zzS (by repeat (first | (with_reducible first | exact HB.out | apply zzA | apply zzN | apply zzD) | exact HB.out)))); have n2_ := Aside0.mk (zzT (by repeat (first | (with_reducible first | exact HB.out | apply zzA | apply zzN | apply zzD) | exact HB.out)) hb); clear HO334; clear HB; have HO334 := n0_; have HO338 := n1_; have HB := n2_; clear n0_ n1_ n2_; (try clear hb); (try clear hb2); (try clear hk); (try clear hi); (try clear ho0)) | ((with_reducible refine gate_callee (f := 72) rfl ?_); refine goesL_ (some 42) rfl rfl Try.func72 (by kernel_rfl) rfl #[.slice A0 l0.length c0, .int .i64 a1, .slice A2 l2.length c2] rfl (by (try simp only [List.map_toArray, List.map_cons, List.map_nil]); first | done | rfl | (simp only [List.length_drop, List.length_take]; rfl)) ?_; (with_reducible refine (thrumref14_Grad.calls _ _ l0 a1 _ _ l2 t339 t340 _ ?side1 ?side2 ?side3 ?side4 A11.out).mono ?_); (case side1 => repeat (first | exact (Kd.C_below HR0.out HB.out) | (with_reducible refine ccA ?_ _) | (with_reducible refine ccN ?_ _) | (with_reducible refine ccD ?_))); (case side2 => exact HC0.out); (case side3 => repeat (first | exact (Kd.C_below HR2.out HB.out) | (with_reducible refine ccA ?_ _) | (with_reducible refine ccN ?_ _) | (with_reducible refine ccD ?_))); (case side4 => exact HC2.out); rintro e w19 ⟨v341, rfl, ho0, hb⟩; refine ⟨_, rfl, ?_⟩; have n0_ := Aside0.mk (Kd.R_elder' (by (with_reducible repeat (first | apply rrA | apply rrN | apply rrD)); exact HO334.out) (Kd.R_base ho0) hb); have n1_ := Aside0.mk (Kd.R_elder' (by (with_reducible repeat (first | apply rrA | apply rrN | apply rrD)); exact HO338.out) (Kd.R_base ho0) hb); have n2_ := Aside0.mk (Kd.R_lower (Kd.R_new' (Kd.R_new' ho0 (Kd.R_lt (by (with_reducible repeat (first | apply rrA | apply rrN | apply rrD)); exact HO334.out))) (Kd.R_lt (by (with_reducible repeat (first | apply rrA | apply rrN | apply rrD)); exact HO338.out))) (zzS (by repeat (first | (with_reducible first | exact HB.out | apply zzA | apply zzN | apply zzD) | exact HB.out)))); have n3_ := Aside0.mk (zzT (by repeat (first | (with_reducible first | exact HB.out | apply zzA | apply zzN | apply zzD) | exact HB.out)) hb); clear HO334; clear HO338; clear HB; have HO334 := n0_; have HO338 := n1_; have HO342 := n2_; have HB := n3_; clear n0_ n1_ n2_ n3_; (try clear hb); (try clear hb2); (try clear hk); (try clear hi); (try clear ho0)) | ((with_reducible refine gate_callee (f := 73) rfl ?_); refine goesL_ (some 49) rfl rfl Try.func73 (by kernel_rfl) rfl #[.slice A0 l0.length c0, .int .i64 a1, .slice A2 l2.length c2] rfl (by (try simp only [List.map_toArray, List.map_cons, List.map_nil]); first | done | rfl | (simp only [List.length_drop, List.length_take]; rfl)) ?_; (with_reducible refine (linear_Loss.calls _ _ l0 a1 _ _ l2 t343 t344 _ ?side1 ?side2 ?side3 ?side4 A12.out).mono ?_); (case side1 => repeat (first | exact (Kd.C_below HR0.out HB.out) | (with_reducible refine ccA ?_ _) | (with_reducible refine ccN ?_ _) | (with_reducible refine ccD ?_))); (case side2 => exact HC0.out); (case side3 => repeat (first | exact (Kd.C_below HR2.out HB.out) | (with_reducible refine ccA ?_ _) | (with_reducible refine ccN ?_ _) | (with_reducible refine ccD ?_))); (case side4 => exact HC2.out); rintro e w20 ⟨rfl, hb⟩; refine ⟨_, rfl, ?_⟩; have n0_ := Aside0.mk (Kd.R_below (by (with_reducible repeat (first | apply rrA | apply rrN | apply rrD)); exact HO334.out) hb); have n1_ := Aside0.mk (Kd.R_below (by (with_reducible repeat (first | apply rrA | apply rrN | apply rrD)); exact HO338.out) hb); have n2_ := Aside0.mk (Kd.R_below (by (with_reducible repeat (first | apply rrA | apply rrN | apply rrD)); exact HO342.out) hb); have n3_ := Aside0.mk (zzT (by repeat (first | (with_reducible first | exact HB.out | apply zzA | apply zzN | apply zzD) | exact HB.out)) hb); clear HO334; clear HO338; clear HO342; clear HB; have HO334 := n0_; have HO338 := n1_; have HO342 := n2_; have HB := n3_; clear n0_ n1_ n2_ n3_; (try clear hb); (try clear hb2); (try clear hk); (try clear hi)) | ((with_reducible refine gate_callee (f := 74) rfl ?_); refine goesL_ (some 56) rfl rfl Try.func74 (by kernel_rfl) rfl #[.slice A0 l0.length c0, .int .i64 a1, .slice A2 l2.length c2] rfl (by (try simp only [List.map_toArray, List.map_cons, List.map_nil]); first | done | rfl | (simp only [List.length_drop, List.length_take]; rfl)) ?_; (with_reducible refine (thrumref14_Loss.calls _ _ l0 a1 _ _ l2 t345 t346 _ ?side1 ?side2 ?side3 ?side4 A13.out).mono ?_); (case side1 => repeat (first | exact (Kd.C_below HR0.out HB.out) | (with_reducible refine ccA ?_ _) | (with_reducible refine ccN ?_ _) | (with_reducible refine ccD ?_))); (case side2 => exact HC0.out); (case side3 => repeat (first | exact (Kd.C_below HR2.out HB.out) | (with_reducible refine ccA ?_ _) | (with_reducible refine ccN ?_ _) | (with_reducible refine ccD ?_))); (case side4 => exact HC2.out); rintro e w21 ⟨rfl, hb⟩; refine ⟨_, rfl, ?_⟩; have n0_ := Aside0.mk (Kd.R_below (by (with_reducible repeat (first | apply rrA | apply rrN | apply rrD)); exact HO334.out) hb); have n1_ := Aside0.mk (Kd.R_below (by (with_reducible repeat (first | apply rrA | apply rrN | apply rrD)); exact HO338.out) hb); have n2_ := Aside0.mk (Kd.R_below (by (with_reducible repeat (first | apply rrA | apply rrN | apply rrD)); exact HO342.out) hb); have n3_ := Aside0.mk (zzT (by repeat (first | (with_reducible first | exact HB.out | apply zzA | apply zzN | apply zzD) | exact HB.out)) hb); clear HO334; clear HO338; clear HO342; clear HB; have HO334 := n0_; have HO338 := n1_; have HO342 := n2_; have HB := n3_; clear n0_ n1_ n2_ n3_; (try clear hb); (try clear hb2); (try clear hk); (try clear hi)))
    (try simp only [Act.put, List.setIfInBounds_toArray, List.set_cons_zero, List.set_cons_succ])
    go_cut [19] (fun v19 wc => ∃ (kq : Nat) (x19_13 : Bool), v19 = .bool x19_13 ∧ Aside0 (thrumlaw14_LinearBends.j0 kq l0 true y332 t335 x19_13 = some r) ∧ Aside0 (kq ≤ k) ∧ Aside0 (Kd.R (Kd.int .i64) 2 wc w.heap.size (fun k_ => some k_ ≠ (v337 : Value).ownBlock) v333 y332) ∧ Aside0 (Kd.R (Kd.int .i64) 2 wc w.heap.size (fun k_ => some k_ ≠ (v333 : Value).ownBlock) v337 t335) ∧ Aside0 (Below w.heap.size w wc))
    case first =>
     have H := HC14.out
     clear HC14
     replace H := Option.bind_eq_some_iff.mp H
     obtain ⟨t347, A220, H⟩ := H
     replace H : (if t347 = true then (if t336 = t340 then (if t343 = t345 then (if t344 = t346 then ((linear_Check.f a3 l0 l2).bind fun t348 => ((thrumref14_Check.f a3 l0 l2).bind fun t349 => (thrumlaw14_LinearBends.j0 k l0 true y332 t335 (t348 == t349)))) else (thrumlaw14_LinearBends.j0 k l0 true y332 t335 false)) else (thrumlaw14_LinearBends.j0 k l0 true y332 t335 false)) else (thrumlaw14_LinearBends.j0 k l0 true y332 t335 false)) else (thrumlaw14_LinearBends.j0 k l0 true y332 t335 false)) = some r := H
     have A22 := Aside0.mk A220
     clear A220
     by_cases c23 : t347 = true
     ·
      subst c23
      have H1 : (if t336 = t340 then (if t343 = t345 then (if t344 = t346 then ((linear_Check.f a3 l0 l2).bind fun t348 => ((thrumref14_Check.f a3 l0 l2).bind fun t349 => (thrumlaw14_LinearBends.j0 k l0 true y332 t335 (t348 == t349)))) else (thrumlaw14_LinearBends.j0 k l0 true y332 t335 false)) else (thrumlaw14_LinearBends.j0 k l0 true y332 t335 false)) else (thrumlaw14_LinearBends.j0 k l0 true y332 t335 false)) = some r := by rw [if_pos rfl] at H; exact H
      clear H
      have H := H1
      clear H1
      by_cases c24 : t336 = t340
      ·
       rw [if_pos c24] at H
       have c24b0 : (t336 == t340) = true := beq_iff_eq.mpr c24
       have c24b1 : (t336 != t340) = false := bne_eq_false_iff_eq.mpr c24
       clear c24
       (first | rw [c24b0] | (simp only [i64_w, i32_w]; rw [c24b0]) | skip)
       by_cases c25 : t343 = t345
       ·
        rw [if_pos c25] at H
        have c25b0 : (t343 == t345) = true := beq_iff_eq.mpr c25
        have c25b1 : (t343 != t345) = false := bne_eq_false_iff_eq.mpr c25
        clear c25
        by_cases c26 : t344 = t346
        ·
         rw [if_pos c26] at H
         have c26b0 : (t344 == t346) = true := beq_iff_eq.mpr c26
         have c26b1 : (t344 != t346) = false := bne_eq_false_iff_eq.mpr c26
         clear c26
         replace H := Option.bind_eq_some_iff.mp H
         obtain ⟨t348, A270, H⟩ := H
         replace H : ((thrumref14_Check.f a3 l0 l2).bind fun t349 => (thrumlaw14_LinearBends.j0 k l0 true y332 t335 (t348 == t349))) = some r := H
         have A27 := Aside0.mk A270
         clear A270
         replace H := Option.bind_eq_some_iff.mp H
         obtain ⟨t349, A280, H⟩ := H
         replace H : (thrumlaw14_LinearBends.j0 k l0 true y332 t335 (t348 == t349)) = some r := H
         have A28 := Aside0.mk A280
         clear A280
         have H' := Aside0.mk H
         clear H
         obtain ⟨Ao29, co29, eo29⟩ := Kd.R_slice HO338.out
         subst eo29
         obtain ⟨Ao30, co30, eo30⟩ := Kd.R_slice HO342.out
         subst eo30
         go_wp2_with (first | ((with_reducible refine gate_callee (f := 44) rfl ?_); refine goesL_ (some 61) rfl rfl Try.func44 (by kernel_rfl) rfl #[.slice Ao29 t335.length co29, .slice Ao30 t339.length co30] rfl (by (try simp only [List.map_toArray, List.map_cons, List.map_nil]); first | done | rfl | (simp only [List.length_drop, List.length_take]; rfl)) ?_; (with_reducible refine (thrumref02_Same.calls _ _ t335 _ _ t339 true _ ?side1 ?side2 ?side3 ?side4 A22.out).mono ?_); (case side1 => repeat (first | exact (Kd.R_reads' HO338.out).2.2 | (with_reducible refine ccA ?_ _) | (with_reducible refine ccN ?_ _) | (with_reducible refine ccD ?_))); (case side2 => exact (Kd.R_reads' HO338.out).2.1); (case side3 => repeat (first | exact (Kd.R_reads' HO342.out).2.2 | (with_reducible refine ccA ?_ _) | (with_reducible refine ccN ?_ _) | (with_reducible refine ccD ?_))); (case side4 => exact (Kd.R_reads' HO342.out).2.1); rintro e w' ⟨rfl, ⟨nd, rfl⟩⟩; refine ⟨_, rfl, ?_⟩) | (go_at_call 69; (with_reducible refine (linear_Check.calls a3 _ _ l0 _ _ l2 t348 _ ?side1 ?side2 ?side3 ?side4 A27.out).mono ?_); (case side1 => repeat (first | exact (Kd.C_below HR0.out (by repeat (first | (with_reducible first | exact HB.out | apply zzA | apply zzN | apply zzD) | exact HB.out))) | (with_reducible refine ccA ?_ _) | (with_reducible refine ccN ?_ _) | (with_reducible refine ccD ?_))); (case side2 => exact HC0.out); (case side3 => repeat (first | exact (Kd.C_below HR2.out (by repeat (first | (with_reducible first | exact HB.out | apply zzA | apply zzN | apply zzD) | exact HB.out))) | (with_reducible refine ccA ?_ _) | (with_reducible refine ccN ?_ _) | (with_reducible refine ccD ?_))); (case side4 => exact HC2.out); rintro e w31 ⟨rfl, hb⟩; have n0_ := Aside0.mk (Kd.R_below (by (with_reducible repeat (first | apply rrA | apply rrN | apply rrD)); exact HO334.out) hb); have n1_ := Aside0.mk (Kd.R_below (by (with_reducible repeat (first | apply rrA | apply rrN | apply rrD)); exact HO338.out) hb); have n2_ := Aside0.mk (Kd.R_below (by (with_reducible repeat (first | apply rrA | apply rrN | apply rrD)); exact HO342.out) hb); have n3_ := Aside0.mk (zzT (by repeat (first | (with_reducible first | exact HB.out | apply zzA | apply zzN | apply zzD) | exact HB.out)) hb); clear HO334; clear HO338; clear HO342; clear HB; have HO334 := n0_; have HO338 := n1_; have HO342 := n2_; have HB := n3_; clear n0_ n1_ n2_ n3_; (try clear hb); (try clear hb2); (try clear hk); (try clear hi)) | (go_at_call 70; (with_reducible refine (thrumref14_Check.calls a3 _ _ l0 _ _ l2 t349 _ ?side1 ?side2 ?side3 ?side4 A28.out).mono ?_); (case side1 => repeat (first | exact (Kd.C_below HR0.out HB.out) | (with_reducible refine ccA ?_ _) | (with_reducible refine ccN ?_ _) | (with_reducible refine ccD ?_))); (case side2 => exact HC0.out); (case side3 => repeat (first | exact (Kd.C_below HR2.out HB.out) | (with_reducible refine ccA ?_ _) | (with_reducible refine ccN ?_ _) | (with_reducible refine ccD ?_))); (case side4 => exact HC2.out); rintro e w32 ⟨rfl, hb⟩; have n0_ := Aside0.mk (Kd.R_below (by (with_reducible repeat (first | apply rrA | apply rrN | apply rrD)); exact HO334.out) hb); have n1_ := Aside0.mk (Kd.R_below (by (with_reducible repeat (first | apply rrA | apply rrN | apply rrD)); exact HO338.out) hb); have n2_ := Aside0.mk (Kd.R_below (by (with_reducible repeat (first | apply rrA | apply rrN | apply rrD)); exact HO342.out) hb); have n3_ := Aside0.mk (zzT (by repeat (first | (with_reducible first | exact HB.out | apply zzA | apply zzN | apply zzD) | exact HB.out)) hb); clear HO334; clear HO338; clear HO342; clear HB; have HO334 := n0_; have HO338 := n1_; have HO342 := n2_; have HB := n3_; clear n0_ n1_ n2_ n3_; (try clear hb); (try clear hb2); (try clear hk); (try clear hi)))
         go_meet
         case rel => exact ⟨_, ((t348 == t349)), (by first | rfl | (simp; done) | (simp [*]; done)), H', ⟨by first | omega | exact Nat.le_refl _⟩, ⟨by (with_reducible repeat (first | apply rrA | apply rrN | apply rrD)); exact Kd.R_mono HO334.out (fun _ hk => hk.1.2)⟩, ⟨by (with_reducible repeat (first | apply rrA | apply rrN | apply rrD)); exact Kd.R_mono HO338.out (fun _ hk => hk.1.2)⟩, ⟨by repeat (first | (with_reducible first | exact HB.out | apply zzA | apply zzN | apply zzD) | exact HB.out)⟩⟩
        ·
         rw [if_neg c26] at H
         have c26b0 : (t344 == t346) = false := beq_eq_false_iff_ne.mpr c26
         have c26b1 : (t344 != t346) = true := bne_iff_ne.mpr c26
         have H' := Aside0.mk H
         clear H
         obtain ⟨Ao33, co33, eo33⟩ := Kd.R_slice HO338.out
         subst eo33
         obtain ⟨Ao34, co34, eo34⟩ := Kd.R_slice HO342.out
         subst eo34
         go_wp2_with (first | ((with_reducible refine gate_callee (f := 44) rfl ?_); refine goesL_ (some 61) rfl rfl Try.func44 (by kernel_rfl) rfl #[.slice Ao33 t335.length co33, .slice Ao34 t339.length co34] rfl (by (try simp only [List.map_toArray, List.map_cons, List.map_nil]); first | done | rfl | (simp only [List.length_drop, List.length_take]; rfl)) ?_; (with_reducible refine (thrumref02_Same.calls _ _ t335 _ _ t339 true _ ?side1 ?side2 ?side3 ?side4 A22.out).mono ?_); (case side1 => repeat (first | exact (Kd.R_reads' HO338.out).2.2 | (with_reducible refine ccA ?_ _) | (with_reducible refine ccN ?_ _) | (with_reducible refine ccD ?_))); (case side2 => exact (Kd.R_reads' HO338.out).2.1); (case side3 => repeat (first | exact (Kd.R_reads' HO342.out).2.2 | (with_reducible refine ccA ?_ _) | (with_reducible refine ccN ?_ _) | (with_reducible refine ccD ?_))); (case side4 => exact (Kd.R_reads' HO342.out).2.1); rintro e w' ⟨rfl, ⟨nd, rfl⟩⟩; refine ⟨_, rfl, ?_⟩))
         go_meet
         case rel => exact ⟨_, (false), (by first | rfl | (simp; done) | (simp [*]; done)), H', ⟨by first | omega | exact Nat.le_refl _⟩, ⟨by (with_reducible repeat (first | apply rrA | apply rrN | apply rrD)); exact Kd.R_mono HO334.out (fun _ hk => hk.1.2)⟩, ⟨by (with_reducible repeat (first | apply rrA | apply rrN | apply rrD)); exact Kd.R_mono HO338.out (fun _ hk => hk.1.2)⟩, ⟨by repeat (first | (with_reducible first | exact HB.out | apply zzA | apply zzN | apply zzD) | exact HB.out)⟩⟩
       ·
        rw [if_neg c25] at H
        have c25b0 : (t343 == t345) = false := beq_eq_false_iff_ne.mpr c25
        have c25b1 : (t343 != t345) = true := bne_iff_ne.mpr c25
        have H' := Aside0.mk H
        clear H
        obtain ⟨Ao35, co35, eo35⟩ := Kd.R_slice HO338.out
        subst eo35
        obtain ⟨Ao36, co36, eo36⟩ := Kd.R_slice HO342.out
        subst eo36
        go_wp2_with (first | ((with_reducible refine gate_callee (f := 44) rfl ?_); refine goesL_ (some 61) rfl rfl Try.func44 (by kernel_rfl) rfl #[.slice Ao35 t335.length co35, .slice Ao36 t339.length co36] rfl (by (try simp only [List.map_toArray, List.map_cons, List.map_nil]); first | done | rfl | (simp only [List.length_drop, List.length_take]; rfl)) ?_; (with_reducible refine (thrumref02_Same.calls _ _ t335 _ _ t339 true _ ?side1 ?side2 ?side3 ?side4 A22.out).mono ?_); (case side1 => repeat (first | exact (Kd.R_reads' HO338.out).2.2 | (with_reducible refine ccA ?_ _) | (with_reducible refine ccN ?_ _) | (with_reducible refine ccD ?_))); (case side2 => exact (Kd.R_reads' HO338.out).2.1); (case side3 => repeat (first | exact (Kd.R_reads' HO342.out).2.2 | (with_reducible refine ccA ?_ _) | (with_reducible refine ccN ?_ _) | (with_reducible refine ccD ?_))); (case side4 => exact (Kd.R_reads' HO342.out).2.1); rintro e w' ⟨rfl, ⟨nd, rfl⟩⟩; refine ⟨_, rfl, ?_⟩))
        go_meet
        case rel => exact ⟨_, (false), (by first | rfl | (simp; done) | (simp [*]; done)), H', ⟨by first | omega | exact Nat.le_refl _⟩, ⟨by (with_reducible repeat (first | apply rrA | apply rrN | apply rrD)); exact Kd.R_mono HO334.out (fun _ hk => hk.1.2)⟩, ⟨by (with_reducible repeat (first | apply rrA | apply rrN | apply rrD)); exact Kd.R_mono HO338.out (fun _ hk => hk.1.2)⟩, ⟨by repeat (first | (with_reducible first | exact HB.out | apply zzA | apply zzN | apply zzD) | exact HB.out)⟩⟩
      ·
       rw [if_neg c24] at H
       have c24b0 : (t336 == t340) = false := beq_eq_false_iff_ne.mpr c24
       have c24b1 : (t336 != t340) = true := bne_iff_ne.mpr c24
       (first | rw [c24b0] | (simp only [i64_w, i32_w]; rw [c24b0]) | skip)
       have H' := Aside0.mk H
       clear H
       obtain ⟨Ao37, co37, eo37⟩ := Kd.R_slice HO338.out
       subst eo37
       obtain ⟨Ao38, co38, eo38⟩ := Kd.R_slice HO342.out
       subst eo38
       go_wp2_with (first | ((with_reducible refine gate_callee (f := 44) rfl ?_); refine goesL_ (some 61) rfl rfl Try.func44 (by kernel_rfl) rfl #[.slice Ao37 t335.length co37, .slice Ao38 t339.length co38] rfl (by (try simp only [List.map_toArray, List.map_cons, List.map_nil]); first | done | rfl | (simp only [List.length_drop, List.length_take]; rfl)) ?_; (with_reducible refine (thrumref02_Same.calls _ _ t335 _ _ t339 true _ ?side1 ?side2 ?side3 ?side4 A22.out).mono ?_); (case side1 => repeat (first | exact (Kd.R_reads' HO338.out).2.2 | (with_reducible refine ccA ?_ _) | (with_reducible refine ccN ?_ _) | (with_reducible refine ccD ?_))); (case side2 => exact (Kd.R_reads' HO338.out).2.1); (case side3 => repeat (first | exact (Kd.R_reads' HO342.out).2.2 | (with_reducible refine ccA ?_ _) | (with_reducible refine ccN ?_ _) | (with_reducible refine ccD ?_))); (case side4 => exact (Kd.R_reads' HO342.out).2.1); rintro e w' ⟨rfl, ⟨nd, rfl⟩⟩; refine ⟨_, rfl, ?_⟩))
       go_meet
       case rel => exact ⟨_, (false), (by first | rfl | (simp; done) | (simp [*]; done)), H', ⟨by first | omega | exact Nat.le_refl _⟩, ⟨by (with_reducible repeat (first | apply rrA | apply rrN | apply rrD)); exact Kd.R_mono HO334.out (fun _ hk => hk.1.2)⟩, ⟨by (with_reducible repeat (first | apply rrA | apply rrN | apply rrD)); exact Kd.R_mono HO338.out (fun _ hk => hk.1.2)⟩, ⟨by repeat (first | (with_reducible first | exact HB.out | apply zzA | apply zzN | apply zzD) | exact HB.out)⟩⟩
     ·
      replace c23 := Bool.eq_false_iff.mpr c23
      subst c23
      have H1 : (thrumlaw14_LinearBends.j0 k l0 true y332 t335 false) = some r := by rw [if_neg (show ¬ (false = true) by decide)] at H; exact H
      clear H
      have H := H1
      clear H1
      have H' := Aside0.mk H
      clear H
      obtain ⟨Ao39, co39, eo39⟩ := Kd.R_slice HO338.out
      subst eo39
      obtain ⟨Ao40, co40, eo40⟩ := Kd.R_slice HO342.out
      subst eo40
      go_wp2_with (first | ((with_reducible refine gate_callee (f := 44) rfl ?_); refine goesL_ (some 61) rfl rfl Try.func44 (by kernel_rfl) rfl #[.slice Ao39 t335.length co39, .slice Ao40 t339.length co40] rfl (by (try simp only [List.map_toArray, List.map_cons, List.map_nil]); first | done | rfl | (simp only [List.length_drop, List.length_take]; rfl)) ?_; (with_reducible refine (thrumref02_Same.calls _ _ t335 _ _ t339 false _ ?side1 ?side2 ?side3 ?side4 A22.out).mono ?_); (case side1 => repeat (first | exact (Kd.R_reads' HO338.out).2.2 | (with_reducible refine ccA ?_ _) | (with_reducible refine ccN ?_ _) | (with_reducible refine ccD ?_))); (case side2 => exact (Kd.R_reads' HO338.out).2.1); (case side3 => repeat (first | exact (Kd.R_reads' HO342.out).2.2 | (with_reducible refine ccA ?_ _) | (with_reducible refine ccN ?_ _) | (with_reducible refine ccD ?_))); (case side4 => exact (Kd.R_reads' HO342.out).2.1); rintro e w' ⟨rfl, ⟨nd, rfl⟩⟩; refine ⟨_, rfl, ?_⟩))
      go_meet
      case rel => exact ⟨_, (false), (by first | rfl | (simp; done) | (simp [*]; done)), H', ⟨by first | omega | exact Nat.le_refl _⟩, ⟨by (with_reducible repeat (first | apply rrA | apply rrN | apply rrD)); exact Kd.R_mono HO334.out (fun _ hk => hk.1.2)⟩, ⟨by (with_reducible repeat (first | apply rrA | apply rrN | apply rrD)); exact Kd.R_mono HO338.out (fun _ hk => hk.1.2)⟩, ⟨by repeat (first | (with_reducible first | exact HB.out | apply zzA | apply zzN | apply zzD) | exact HB.out)⟩⟩
    case rest =>
     clear HC14
     try clear c1
     try clear c2
     try clear p2
     try clear c3
     try clear c4
     try clear c6
     try clear c7
     try clear c8
     try clear c9
     try clear c14
     try clear c23
     try clear c24
     try clear c24b0
     try clear c24b1
     try clear c25
     try clear c25b0
     try clear c25b1
     try clear c26
     try clear c26b0
     try clear c26b1
     try clear c30
     obtain ⟨kq, x19_13, rfl, HA, HJ13, HO_10, HO_11, HB⟩ := hcut
     cases kq with
     | zero => exact absurd HA.out (by simp [thrumlaw14_LinearBends.j0])
     | succ kj13 =>
      have H := HA.out
      clear HA
      simp only [thrumlaw14_LinearBends.j0] at H
      have H' := Aside0.mk H
      clear H
      obtain ⟨Ao41, co41, eo41⟩ := Kd.R_slice HO_11.out
      subst eo41
      go_wp2
      go_loopg [90] kj13 (fun kq v90 w' => ∃ (x11_2 : List Int) (x90_2 : Int), v90 = .int .i64 x90_2 ∧ Aside0 (thrumlaw14_LinearBends.l0 kq l0 true y332 x11_2 x19_13 (t335.length : Int) x90_2 = some r) ∧ Aside0 (kq ≤ kj13) ∧ Aside0 (Kd.R (Kd.int .i64) 2 w' w.heap.size (fun k_ => some k_ ≠ ((.slice Ao41 t335.length co41) : Value).ownBlock) v333 y332) ∧ Aside0 (Kd.R (Kd.int .i64) 2 w' w.heap.size (fun k_ => some k_ ≠ (v333 : Value).ownBlock) (.slice Ao41 t335.length co41) x11_2) ∧ Aside0 (Below w.heap.size w w'))
      case atStart => exact ⟨(t335), (0), (by first | rfl | (simp; done) | (simp [*]; done)), H', ⟨Nat.le_refl _⟩, ⟨by (with_reducible repeat (first | apply rrA | apply rrN | apply rrD)); exact HO_10.out⟩, ⟨by (with_reducible repeat (first | apply rrA | apply rrN | apply rrD)); exact HO_11.out⟩, ⟨by repeat (first | (with_reducible first | exact HB.out | apply zzA | apply zzN | apply zzD) | exact HB.out)⟩⟩
      case round =>
       clear H'
       try clear c1
       try clear c2
       try clear p2
       try clear c3
       try clear c4
       try clear c6
       try clear c7
       try clear c8
       try clear c9
       try clear c14
       try clear c23
       try clear c24
       try clear c24b0
       try clear c24b1
       try clear c25
       try clear c25b0
       try clear c25b1
       try clear c26
       try clear c26b0
       try clear c26b1
       try clear c30
       try clear p2
       obtain ⟨x11_2, x90_2, rfl, HA, HK2, HO_10, HO_11, HB⟩ := hrel
       have hl11_2 := (Kd.R_reads' HO_11.out).1
       rw [hl11_2] at HO_11
       (try simp only [hl11_2])
       (try simp only [hl11_2] at HO_10)
       cases gk with
       | zero => exact absurd HA.out (by simp [thrumlaw14_LinearBends.l0])
       | succ k2 =>
        have H := HA.out
        clear HA
        simp only [thrumlaw14_LinearBends.l0] at H
        by_cases c42 : x90_2 < (t335.length : Int)
        ·
         rw [if_pos c42] at H
         have c42b0 : decide (x90_2 < (t335.length : Int)) = true := decide_eq_true c42
         clear c42
         by_cases c43 : 0 ≤ x90_2
         ·
          rw [if_pos c43] at H
          have c43b0 : decide (0 ≤ x90_2) = true := decide_eq_true c43
          clear c43
          by_cases c44 : x90_2 < (x11_2.length : Int)
          ·
           rw [if_pos c44] at H
           have c44b0 : decide (x90_2 < (x11_2.length : Int)) = true := decide_eq_true c44
           clear c44
           obtain ⟨y351, hy351⟩ : ∃ y_ : List Int, y_ = (x11_2.set (x90_2 : Int).toNat (wrap64 ((rd x11_2 x90_2) + 1))) := ⟨_, rfl⟩
           replace H : (thrumlaw14_LinearBends.l0 k2 l0 true y332 y351 x19_13 (t335.length : Int) (wrap64 (x90_2 + 1))) = some r := by first | (rw [hy351]; with_reducible exact H) | (have H2_ := (Option.bind_some _ _).symm.trans H; rw [hy351]; with_reducible exact H2_) | (have H2_ := (Option.bind_some _ _).symm.trans H; with_reducible exact H2_) | with_reducible exact H | (rw [hy351]; exact H) | exact H
           have Ny351 := Aside0.mk hy351
           clear hy351
           have H' := Aside0.mk H
           clear H
           have p350 : 0 ≤ (x90_2 : Int) := of_decide_eq_true (by first | (with_reducible assumption) | assumption)
           have q350 : x90_2 < (x11_2.length : Int) := of_decide_eq_true (by first | (with_reducible assumption) | assumption)
           obtain ⟨ad350, e350, hx350_0⟩ := Kd.at_int (Kd.R_reads' HO_11.out).2.2 x90_2 p350 q350
           cases e350
           replace p350 := eq_true p350
           replace q350 := eq_true q350
           have p45 : 0 ≤ (x90_2 : Int) := of_decide_eq_true (by first | (with_reducible assumption) | assumption)
           have q45 : (x90_2 : Int) < ((x11_2.length : Int) : Int) := of_decide_eq_true (by first | (with_reducible assumption) | assumption)
           obtain ⟨go45, co45, eo45, gb45, gl45, cl45, HG45⟩ := Kd.R_form HO_11.out (by omega)
           (first | cases eo45 | (injection eo45 with ea_ en_ ec_; (first | subst ea_ | (injection ea_ with ea_; subst ea_)); subst ec_; clear en_))
           have GB45 := Aside0.mk gb45
           have GG45 := Aside0.mk HG45
           clear gb45 gl45 HG45
           (first | simp only [add_plain] at hx350_0 | skip)
           obtain ⟨hx45_0, hf45_0⟩ := Kd.R_celln 0 HO_11.out (x90_2 : Int) p45 q45
           replace p45 := eq_true p45
           replace q45 := eq_true q45
           have HP46 := Kd.R_putg HO_11.out (x90_2 : Int) (wrap64 ((rd x11_2 x90_2) + 1))
           go_wp2_with (first | ((with_reducible refine gate_store (t := 2) (p := 98) rfl ?_); refine store_event (t := 2) (p := 98) (v := ?vo_w47) (w1 := (wr.setCell ⟨go45, (x90_2 : Int).toNat, none⟩ (.int .i64 (wrap64 ((rd x11_2 x90_2) + 1))))) ?hg ?ho ?hn ?hr ?_; (case ho => rfl); (case hg => rfl); (case hn => rfl); (case hr => first | (go_simp; done) | (go_simp; rfl)); intro w47 hw; have hg : wr.grownBy w47 (some go45) := (by rw [hw]; exact HP46.2); have hp_ : Kd.R (Kd.int .i64) 2 w47 w.heap.size (fun k_ => some k_ ≠ (v333 : Value).ownBlock) (.slice (some ⟨go45, 0, none⟩) x11_2.length co41) y351 := (by rw [hw, Ny351.out]; exact HP46.1); clear HP46; have n0_ := Aside0.mk (Kd.R_after (v := (.slice (some ⟨go45, 0, none⟩) x11_2.length co41)) (v1 := (.slice (some ⟨go45, 0, none⟩) x11_2.length co41)) (ok := (fun _ => True)) (by (with_reducible repeat (first | apply rrA | apply rrN | apply rrD)); exact Kd.R_mono HO_10.out (fun _ hk => ⟨trivial, hk⟩)) hg (.inl rfl)); have n1_ := Aside0.mk (hp_); have n2_ := Aside0.mk ((by rw [hw]; exact below_set (HB.out) GB45.out : Below w.heap.size w w47)); clear HO_10; clear HO_11; clear HB; have HO_10 := n0_; have HO_11 := n1_; have HB := n2_; clear n0_ n1_ n2_; clear hg hw hp_))
           (try simp only [← hl11_2])
           go_roundg k2
           case measure => have := HJ13.out; have := HK2.out; omega
           case rel => exact ⟨(y351), (wrap64 (x90_2 + 1)), (by first | rfl | (simp; done) | (simp [*]; done)), H', ⟨by have := HJ13.out; have := HK2.out; omega⟩, ⟨by (try simp only [hl11_2]); (with_reducible repeat (first | apply rrA | apply rrN | apply rrD)); exact Kd.R_mono HO_10.out (fun _ hk => hk.2)⟩, ⟨by (try simp only [hl11_2]); (with_reducible repeat (first | apply rrA | apply rrN | apply rrD)); exact HO_11.out⟩, ⟨by repeat (first | (with_reducible first | exact HB.out | apply zzA | apply zzN | apply zzD) | exact HB.out)⟩⟩
          ·
           rw [if_neg c44] at H
           exact absurd H (by simp)
         ·
          rw [if_neg c43] at H
          exact absurd H (by simp)
        ·
         rw [if_neg c42] at H
         have c42b0 : decide (x90_2 < (t335.length : Int)) = false := decide_eq_false c42; (try simp only [hl11_2] at c42b0)
         clear c42
         first | rw [if_pos rfl] at H | rw [if_pos trivial] at H
         by_cases c48 : x19_13 = true
         ·
          subst c48
          have H1 : ((thrumref02_Same.f l0 y332).bind fun t352 => (some t352)) = some r := by rw [if_pos rfl] at H; exact H
          clear H
          have H := H1
          clear H1
          replace H := Option.bind_eq_some_iff.mp H
          obtain ⟨t352, A490, H⟩ := H
          replace H : (some t352) = some r := H
          have A49 := Aside0.mk A490
          clear A490
          obtain rfl := Option.some.inj H
          obtain ⟨Ao50, co50, eo50⟩ := Kd.R_slice HO_10.out
          subst eo50
          go_wp2_with (first | (go_at_call 44; (with_reducible refine (thrumref02_Same.calls _ _ l0 _ _ y332 t352 _ ?side1 ?side2 ?side3 ?side4 A49.out).mono ?_); (case side1 => repeat (first | exact (Kd.C_below HR0.out HB.out) | (with_reducible refine ccA ?_ _) | (with_reducible refine ccN ?_ _) | (with_reducible refine ccD ?_))); (case side2 => exact HC0.out); (case side3 => repeat (first | exact (Kd.R_reads' HO_10.out).2.2 | (with_reducible refine ccA ?_ _) | (with_reducible refine ccN ?_ _) | (with_reducible refine ccD ?_))); (case side4 => exact (Kd.R_reads' HO_10.out).2.1); rintro e w' ⟨rfl, ⟨nd, rfl⟩⟩))
          go_ret
          exact ⟨by first | rfl | (simp [errW_none, errW_some] <;> rfl) | (simp [*, errW_none, errW_some] <;> rfl), by repeat (first | (with_reducible first | exact HB.out | apply zzA | apply zzN | apply zzD) | exact HB.out)⟩
         ·
          replace c48 := Bool.eq_false_iff.mpr c48
          subst c48
          have H1 : (some false) = some r := by rw [if_neg (show ¬ (false = true) by decide)] at H; exact H
          exact absurd (Option.some.inj H1) (by rw [HR_.out]; decide)
   ·
    rw [if_neg c9] at H
    exact absurd H (by simp)
  ·
   replace c8 := Bool.eq_false_iff.mpr c8
   subst c8
   have H1 : (some true) = some r := by rw [if_neg (show ¬ (false = true) by decide)] at H; exact H
   clear H
   have H := H1
   clear H1
   obtain rfl := Option.some.inj H
   go_enter Try.func14, Try.ntmps14
   go_wp2_with (first | ((with_reducible refine gate_callee (f := 61) rfl ?_); refine goesL_ (some 21) rfl rfl Try.func61 (by kernel_rfl) rfl #[] rfl (by (try simp only [List.map_toArray, List.map_cons, List.map_nil]); first | done | rfl | (simp only [List.length_drop, List.length_take]; rfl)) ?_; (with_reducible refine (thrumlaw14_live.calls  true _ A5.out).mono ?_); rintro e w51 ⟨rfl, hb⟩; refine ⟨_, rfl, ?_⟩; have n0_ := Aside0.mk (zzT (by repeat (first | (with_reducible first | exact HB.out | apply zzA | apply zzN | apply zzD) | exact HB.out)) hb); clear HB; have HB := n0_; clear n0_; (try clear hb); (try clear hb2); (try clear hk); (try clear hi)) | ((with_reducible refine gate_callee (f := 30) rfl ?_); refine goesL_ (some 26) rfl rfl Try.func30 (by kernel_rfl) rfl #[.slice A0 l0.length c0, .slice A2 l2.length c2] rfl (by (try simp only [List.map_toArray, List.map_cons, List.map_nil]); first | done | rfl | (simp only [List.length_drop, List.length_take]; rfl)) ?_; (with_reducible refine (thrumref14_Few.calls _ _ l0 _ _ l2 false _ ?side1 ?side2 ?side3 ?side4 A7.out).mono ?_); (case side1 => repeat (first | exact (Kd.C_below HR0.out HB.out) | (with_reducible refine ccA ?_ _) | (with_reducible refine ccN ?_ _) | (with_reducible refine ccD ?_))); (case side2 => exact HC0.out); (case side3 => repeat (first | exact (Kd.C_below HR2.out HB.out) | (with_reducible refine ccA ?_ _) | (with_reducible refine ccN ?_ _) | (with_reducible refine ccD ?_))); (case side4 => exact HC2.out); rintro e w52 ⟨rfl, hb⟩; refine ⟨_, rfl, ?_⟩; have n0_ := Aside0.mk (zzT (by repeat (first | (with_reducible first | exact HB.out | apply zzA | apply zzN | apply zzD) | exact HB.out)) hb); clear HB; have HB := n0_; clear n0_; (try clear hb); (try clear hb2); (try clear hk); (try clear hi)))
   go_ret
   exact ⟨by first | rfl | (simp [errW_none, errW_some] <;> rfl) | (simp [*, errW_none, errW_some] <;> rfl), by repeat (first | (with_reducible first | exact HB.out | apply zzA | apply zzN | apply zzD) | exact HB.out)⟩
 ·
  replace c6 := Bool.eq_false_iff.mpr c6
  subst c6
  have H1 : (some false) = some r := by rw [if_neg (show ¬ (false = true) by decide)] at H; exact H
  exact absurd (Option.some.inj H1) (by rw [HR_.out]; decide)

/-- THE ONE PURE STATEMENT of thrumlaw14_LinearBends: yours. -/
def thrumlaw14_LinearBends.Pure : Prop := ∀ (l0 : List Int) (a1 : Int) (l2 : List (S26)) (a3 : Int), l0.length ≤ maxLen → l0.length * 8 ≤ 140737488351232 → (∀ x ∈ l0, (Lit.int .i64 x).wf = true) → (Lit.int .i64 a1).wf = true → (l2.length ≤ maxLen ∧ ∀ x__ ∈ l2, ((x__.f0.length ≤ maxLen ∧ ∀ x2__ ∈ x__.f0, (Lit.int .i64 x2__).wf = true) ∧ (Lit.int .i64 x__.f1).wf = true ∧ True)) → (Lit.int .i64 a3).wf = true → ∃ k, thrumlaw14_LinearBends.f k l0 a1 l2 a3 = some true
theorem thrumlaw14_LinearBends.walk (P : thrumlaw14_LinearBends.Pure) (a0 : Option Addr) (len0 cap0 : Nat) (z0 : List Int) (a1 : Int) (A2 : Option Addr) (c2 : Nat) (l2 : List (S26)) (a3 : Int) (w : World) (w0 : (a0 = none ∧ len0 = 0 ∧ cap0 = 0 ∧ z0 = []) ∨ ∃ x, a0 = some x ∧ len0 ≤ cap0 ∧ cap0 ≤ maxLen ∧ z0.length = cap0 ∧ (∀ i, i < z0.length → w.cell? (x.add i) = some (.int .i64 (z0.getD i 0))) ∧ ∀ n ∈ z0, (Lit.int .i64 n).wf = true) (y0 : len0 * 8 ≤ 140737488351232) (w1 : (Lit.int .i64 a1).wf = true) (hr2 : Kd.C k26 w A2 l2.length l2) (hc2 : l2.length ≤ c2) (hg2 : (l2.length ≤ maxLen ∧ ∀ x__ ∈ l2, ((x__.f0.length ≤ maxLen ∧ ∀ x2__ ∈ x__.f0, (Lit.int .i64 x2__).wf = true) ∧ (Lit.int .i64 x__.f1).wf = true ∧ True))) (w3 : (Lit.int .i64 a3).wf = true) :
  Calls Try.prog 14 #[.slice a0 len0 cap0, .int .i64 a1, .slice A2 l2.length c2, .int .i64 a3] w fun e w' => e = .returned (.bool true) ∧ Below w.heap.size w w' := by
 obtain ⟨l0, rfl, hr0, hm0, hw0, hc0⟩ := ReadsInt.ofRowC w0
 obtain ⟨k, h⟩ := P l0 a1 l2 a3 hm0 y0 hw0 w1 hg2 w3
 refine (thrumlaw14_LinearBends.calls k _ _ l0 a1 _ _ l2 a3 true w (Kd.C_of_reads (d := (0 : Int)) (h1 := fun _ => rfl) hr0) hc0 hr2 hc2 h rfl).mono ?_
 rintro e w' ⟨rfl, hd⟩
 exact ⟨rfl, hd⟩





































































































































































































































































































































































































































































































































































































































































































































































































































































































































































































































































































end Go.Proofs.Ytfbdalnjijdknaa.HL
