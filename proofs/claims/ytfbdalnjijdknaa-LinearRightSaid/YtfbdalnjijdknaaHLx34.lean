/- What Go functions do, each as a plain Lean function with the same answers, and the proof of it, in every world: printed by the session's driver over the kit's print, with texts by hand. -/
import Derived.Test.YtfbdalnjijdknaaHLx0
import Derived.Test.YtfbdalnjijdknaaHLx1
import Derived.Test.YtfbdalnjijdknaaHLx4
import Derived.Test.YtfbdalnjijdknaaHLx5
import Derived.Test.YtfbdalnjijdknaaHLx11
import Derived.Test.YtfbdalnjijdknaaHLx12
import Derived.Test.YtfbdalnjijdknaaHLx13
import Derived.Test.YtfbdalnjijdknaaHLx14
import Derived.Test.YtfbdalnjijdknaaHLx31
namespace Go.Proofs.Ytfbdalnjijdknaa.HL
open Go.RowKit Go.Proofs.YtfbdalnjijdknaaW.PrintWords Go.Proofs.YtfbdalnjijdknaaW.PrintLast Go.Proofs.YtfbdalnjijdknaaW.PrintMore
attribute [local go_sem] max2_int min2_int max_two min_two max_three min_three max_four min_four   -- for this text's walks alone
open Go.Proofs.Ytfbdalnjijdknaa.Sp
attribute [local go_sem] Go.Proofs.Ytfbdalnjijdknaa.Sp.u64_not
set_option linter.unusedVariables false
set_option linter.unusedSimpArgs false

/-! ### thrumlaw14_LinearRight: function 15 -/
mutual
def thrumlaw14_LinearRight.j0 : Nat → List Int → Int → List (S26) → Bool → Bool → Option (Bool)
  | 0, _, _, _, _, _ => none
  | k + 1, x0, x1, x2, x7, x36 => if x36 = true then (some x7) else (thrumlaw14_LinearRight.l0 k x0 x1 x2 x7 ([] : List (S26)) x2 (x2.length : Int) 0)
def thrumlaw14_LinearRight.l0 : Nat → List Int → Int → List (S26) → Bool → List (S26) → List (S26) → Int → Int → Option (Bool)
  | 0, _, _, _, _, _, _, _, _ => none
  | k + 1, x0, x1, x2, x7, x8, x38, x39, x40 => if x40 < x39 then (if 0 ≤ x40 then (if x40 < (x38.length : Int) then ((linear_Tell.f x0 ((rd_T26 x38 x40).f0) x1).bind fun bt357 => (if bt357.2 = 0 then (if x8.length < 4398046511104 then (thrumlaw14_LinearRight.l0 k x0 x1 x2 x7 (x8 ++ [(⟨(rd_T26 x38 x40).f0, bt357.1⟩ : S26)]) x38 x39 (wrap64 (x40 + 1))) else (none)) else (some x7))) else (none)) else (none)) else ((linear_Grad.f x0 x1 x8).bind fun bt362 => ((linear_Loss.f x0 x1 x8).bind fun bt366 => (if (x2.length : Int) > 64 then (thrumlaw14_LinearRight.j2 k x0 x1 x2 x7 bt362.1 bt362.2 bt366.1 bt366.2 true) else (if 0 < (x2.length : Int) then (thrumlaw14_LinearRight.j2 k x0 x1 x2 x7 bt362.1 bt362.2 bt366.1 bt366.2 ((x0.length : Int) != (wrap64 ((((rd_T26 x2 0).f0).length : Int) + 1)))) else (none)))))
def thrumlaw14_LinearRight.j2 : Nat → List Int → Int → List (S26) → Bool → List Int → Int → Int → Int → Bool → Option (Bool)
  | 0, _, _, _, _, _, _, _, _, _ => none
  | k + 1, x0, x1, x2, x7, x13, x14, x15, x16, x90 => if x90 = true then (if x7 = true then (if x14 = 0 then (some false) else (some (x16 != 0))) else (some false)) else (if x14 = 0 then (if x16 = 0 then (if x15 = 0 then (thrumlaw14_LinearRight.j3 k x0 x1 x2 x7 x13 x14 x16 ((x13.length : Int) != (x0.length : Int))) else (thrumlaw14_LinearRight.j3 k x0 x1 x2 x7 x13 x14 x16 true)) else (thrumlaw14_LinearRight.j3 k x0 x1 x2 x7 x13 x14 x16 true)) else (thrumlaw14_LinearRight.j3 k x0 x1 x2 x7 x13 x14 x16 true))
def thrumlaw14_LinearRight.j3 : Nat → List Int → Int → List (S26) → Bool → List Int → Int → Int → Bool → Option (Bool)
  | 0, _, _, _, _, _, _, _, _ => none
  | k + 1, x0, x1, x2, x7, x13, x14, x16, x116 => if x116 = true then (if x7 = true then (if x14 = 4 then (some (x14 == x16)) else (some false)) else (some false)) else (thrumlaw14_LinearRight.l1 k x0 x1 x2 x7 x13 (x13.length : Int) 0)
def thrumlaw14_LinearRight.l1 : Nat → List Int → Int → List (S26) → Bool → List Int → Int → Int → Option (Bool)
  | 0, _, _, _, _, _, _, _ => none
  | k + 1, x0, x1, x2, x7, x127, x128, x129 => if x129 < x128 then (if 0 ≤ x129 then (if x129 < (x127.length : Int) then (if (rd x127 x129) = 0 then (thrumlaw14_LinearRight.l1 k x0 x1 x2 x7 x127 x128 (wrap64 (x129 + 1))) else (some false)) else (none)) else (none)) else (if 0 < (x2.length : Int) then ((linear_Off.f x0 ((rd_T26 x2 0).f0) ((rd_T26 x2 0).f1) x1).bind fun bt371 => ((linear_Grad.f x0 x1 (([(⟨(rd_T26 x2 0).f0, (rd_T26 x2 0).f1⟩ : S26)] : List (S26)))).bind fun bt377 => ((vec_Scale.f ((rd_T26 x2 0).f0) bt371.1 x1).bind fun bt382 => (if x7 = true then (if bt371.2 = 0 then (if bt377.2 = bt382.2 then (if bt377.2 = 0 then (if bt382.1.length < 17592186044416 then ((thrumref02_Same.f bt377.1 (bt382.1 ++ [bt371.1])).bind fun t389 => (some t389)) else (none)) else (some true)) else (some false)) else (some true)) else (some false))))) else (none))
end
def thrumlaw14_LinearRight.f (k : Nat) (l0 : List Int) (a1 : Int) (l2 : List (S26)) : Option (Bool) := (thrumlaw14_live.f).bind fun t353 => (if t353 = true then ((thrumref14_Few.f l0 l2).bind fun t354 => (if t354 = true then (thrumlaw14_LinearRight.j0 k l0 a1 l2 t353 ((l2.length : Int) == 0)) else (thrumlaw14_LinearRight.j0 k l0 a1 l2 t353 true))) else (some false))
theorem thrumlaw14_LinearRight.mono_l : ∀ k, (∀ y0 y1 y2 y3 y4, LeO (thrumlaw14_LinearRight.j0 k y0 y1 y2 y3 y4) (thrumlaw14_LinearRight.j0 (k + 1) y0 y1 y2 y3 y4)) ∧ (∀ y0 y1 y2 y3 y4 y5 y6 y7, LeO (thrumlaw14_LinearRight.l0 k y0 y1 y2 y3 y4 y5 y6 y7) (thrumlaw14_LinearRight.l0 (k + 1) y0 y1 y2 y3 y4 y5 y6 y7)) ∧ (∀ y0 y1 y2 y3 y4 y5 y6 y7 y8, LeO (thrumlaw14_LinearRight.j2 k y0 y1 y2 y3 y4 y5 y6 y7 y8) (thrumlaw14_LinearRight.j2 (k + 1) y0 y1 y2 y3 y4 y5 y6 y7 y8)) ∧ (∀ y0 y1 y2 y3 y4 y5 y6 y7, LeO (thrumlaw14_LinearRight.j3 k y0 y1 y2 y3 y4 y5 y6 y7) (thrumlaw14_LinearRight.j3 (k + 1) y0 y1 y2 y3 y4 y5 y6 y7)) ∧ (∀ y0 y1 y2 y3 y4 y5 y6, LeO (thrumlaw14_LinearRight.l1 k y0 y1 y2 y3 y4 y5 y6) (thrumlaw14_LinearRight.l1 (k + 1) y0 y1 y2 y3 y4 y5 y6))
  | 0 => ⟨fun _ _ _ _ _ r h => by simp [thrumlaw14_LinearRight.j0] at h, fun _ _ _ _ _ _ _ _ r h => by simp [thrumlaw14_LinearRight.l0] at h, fun _ _ _ _ _ _ _ _ _ r h => by simp [thrumlaw14_LinearRight.j2] at h, fun _ _ _ _ _ _ _ _ r h => by simp [thrumlaw14_LinearRight.j3] at h, fun _ _ _ _ _ _ _ r h => by simp [thrumlaw14_LinearRight.l1] at h⟩
  | k + 1 => by
    obtain ⟨ih0, ih1, ih2, ih3, ih4⟩ := thrumlaw14_LinearRight.mono_l k
    refine ⟨?_, ?_, ?_, ?_, ?_⟩
    · intro y0 y1 y2 y3 y4
      unfold thrumlaw14_LinearRight.j0
      repeat' first
      | (with_reducible exact ih0 _ _ _ _ _)
      | (with_reducible exact ih1 _ _ _ _ _ _ _ _)
      | (with_reducible exact ih2 _ _ _ _ _ _ _ _ _)
      | (with_reducible exact ih3 _ _ _ _ _ _ _ _)
      | (with_reducible exact ih4 _ _ _ _ _ _ _)
      | (with_reducible exact LeO.refl _)
      | (with_reducible exact LeO.none _)
      | (with_reducible refine LeO.ite ?_ ?_)
      | (with_reducible refine LeO.bind ?_ (fun _ => ?_))
      | exact ih0 _ _ _ _ _
      | exact ih1 _ _ _ _ _ _ _ _
      | exact ih2 _ _ _ _ _ _ _ _ _
      | exact ih3 _ _ _ _ _ _ _ _
      | exact ih4 _ _ _ _ _ _ _
      | exact LeO.none _
      | refine LeO.ite ?_ ?_
      | refine LeO.bind ?_ (fun _ => ?_)
    · intro y0 y1 y2 y3 y4 y5 y6 y7
      unfold thrumlaw14_LinearRight.l0
      repeat' first
      | (with_reducible exact ih0 _ _ _ _ _)
      | (with_reducible exact ih1 _ _ _ _ _ _ _ _)
      | (with_reducible exact ih2 _ _ _ _ _ _ _ _ _)
      | (with_reducible exact ih3 _ _ _ _ _ _ _ _)
      | (with_reducible exact ih4 _ _ _ _ _ _ _)
      | (with_reducible exact LeO.refl _)
      | (with_reducible exact LeO.none _)
      | (with_reducible refine LeO.ite ?_ ?_)
      | (with_reducible refine LeO.bind ?_ (fun _ => ?_))
      | exact ih0 _ _ _ _ _
      | exact ih1 _ _ _ _ _ _ _ _
      | exact ih2 _ _ _ _ _ _ _ _ _
      | exact ih3 _ _ _ _ _ _ _ _
      | exact ih4 _ _ _ _ _ _ _
      | exact LeO.none _
      | refine LeO.ite ?_ ?_
      | refine LeO.bind ?_ (fun _ => ?_)
    · intro y0 y1 y2 y3 y4 y5 y6 y7 y8
      unfold thrumlaw14_LinearRight.j2
      repeat' first
      | (with_reducible exact ih0 _ _ _ _ _)
      | (with_reducible exact ih1 _ _ _ _ _ _ _ _)
      | (with_reducible exact ih2 _ _ _ _ _ _ _ _ _)
      | (with_reducible exact ih3 _ _ _ _ _ _ _ _)
      | (with_reducible exact ih4 _ _ _ _ _ _ _)
      | (with_reducible exact LeO.refl _)
      | (with_reducible exact LeO.none _)
      | (with_reducible refine LeO.ite ?_ ?_)
      | (with_reducible refine LeO.bind ?_ (fun _ => ?_))
      | exact ih0 _ _ _ _ _
      | exact ih1 _ _ _ _ _ _ _ _
      | exact ih2 _ _ _ _ _ _ _ _ _
      | exact ih3 _ _ _ _ _ _ _ _
      | exact ih4 _ _ _ _ _ _ _
      | exact LeO.none _
      | refine LeO.ite ?_ ?_
      | refine LeO.bind ?_ (fun _ => ?_)
    · intro y0 y1 y2 y3 y4 y5 y6 y7
      unfold thrumlaw14_LinearRight.j3
      repeat' first
      | (with_reducible exact ih0 _ _ _ _ _)
      | (with_reducible exact ih1 _ _ _ _ _ _ _ _)
      | (with_reducible exact ih2 _ _ _ _ _ _ _ _ _)
      | (with_reducible exact ih3 _ _ _ _ _ _ _ _)
      | (with_reducible exact ih4 _ _ _ _ _ _ _)
      | (with_reducible exact LeO.refl _)
      | (with_reducible exact LeO.none _)
      | (with_reducible refine LeO.ite ?_ ?_)
      | (with_reducible refine LeO.bind ?_ (fun _ => ?_))
      | exact ih0 _ _ _ _ _
      | exact ih1 _ _ _ _ _ _ _ _
      | exact ih2 _ _ _ _ _ _ _ _ _
      | exact ih3 _ _ _ _ _ _ _ _
      | exact ih4 _ _ _ _ _ _ _
      | exact LeO.none _
      | refine LeO.ite ?_ ?_
      | refine LeO.bind ?_ (fun _ => ?_)
    · intro y0 y1 y2 y3 y4 y5 y6
      unfold thrumlaw14_LinearRight.l1
      repeat' first
      | (with_reducible exact ih0 _ _ _ _ _)
      | (with_reducible exact ih1 _ _ _ _ _ _ _ _)
      | (with_reducible exact ih2 _ _ _ _ _ _ _ _ _)
      | (with_reducible exact ih3 _ _ _ _ _ _ _ _)
      | (with_reducible exact ih4 _ _ _ _ _ _ _)
      | (with_reducible exact LeO.refl _)
      | (with_reducible exact LeO.none _)
      | (with_reducible refine LeO.ite ?_ ?_)
      | (with_reducible refine LeO.bind ?_ (fun _ => ?_))
      | exact ih0 _ _ _ _ _
      | exact ih1 _ _ _ _ _ _ _ _
      | exact ih2 _ _ _ _ _ _ _ _ _
      | exact ih3 _ _ _ _ _ _ _ _
      | exact ih4 _ _ _ _ _ _ _
      | exact LeO.none _
      | refine LeO.ite ?_ ?_
      | refine LeO.bind ?_ (fun _ => ?_)
theorem thrumlaw14_LinearRight.mono : ∀ a0 a1 a2 k, LeO (thrumlaw14_LinearRight.f k a0 a1 a2) (thrumlaw14_LinearRight.f (k + 1) a0 a1 a2) := by
  intro a0 a1 a2 k
  obtain ⟨ih0, ih1, ih2, ih3, ih4⟩ := thrumlaw14_LinearRight.mono_l k
  unfold thrumlaw14_LinearRight.f
  repeat' first
      | (with_reducible exact ih0 _ _ _ _ _)
      | (with_reducible exact ih1 _ _ _ _ _ _ _ _)
      | (with_reducible exact ih2 _ _ _ _ _ _ _ _ _)
      | (with_reducible exact ih3 _ _ _ _ _ _ _ _)
      | (with_reducible exact ih4 _ _ _ _ _ _ _)
      | (with_reducible exact LeO.refl _)
      | (with_reducible exact LeO.none _)
      | (with_reducible refine LeO.ite ?_ ?_)
      | (with_reducible refine LeO.bind ?_ (fun _ => ?_))
      | exact ih0 _ _ _ _ _
      | exact ih1 _ _ _ _ _ _ _ _
      | exact ih2 _ _ _ _ _ _ _ _ _
      | exact ih3 _ _ _ _ _ _ _ _
      | exact ih4 _ _ _ _ _ _ _
      | exact LeO.none _
      | refine LeO.ite ?_ ?_
      | refine LeO.bind ?_ (fun _ => ?_)
set_option maxHeartbeats 80000000 in
set_option maxRecDepth 100000 in
theorem thrumlaw14_LinearRight.calls (k : Nat) (A0 : Option Addr) (c0 : Nat) (l0 : List Int) (a1 : Int) (P2_ : Nat → Prop) (A2 : Option Addr) (c2 : Nat) (l2 : List (S26)) (r : Bool) (w : World) (hr0 : Kd.C (Kd.int .i64) w A0 l0.length l0) (hc0 : l0.length ≤ c0) (hs2 : Kd.V k26 26 w w.heap.size (fun k_ => P2_ k_) (.slice A2 l2.length c2) l2) (h : thrumlaw14_LinearRight.f k l0 a1 l2 = some r) (hr_ : r = true) :
    Calls Try.prog 15 #[.slice A0 l0.length c0, .int .i64 a1, .slice A2 l2.length c2] w fun e w' => e = .returned (.bool r) ∧ Below w.heap.size w w' := by
  have HR_ := Aside0.mk hr_
  clear hr_
  have hu26 := Try.underlying26
  have HR0 := Aside0.mk hr0
  have HC0 := Aside0.mk hc0
  clear hr0 hc0
  have HO2 := Aside0.mk (show Kd.V k26 26 w w.heap.size (fun k_ => (P2_ k_ ∨ w.heap.size ≤ k_)) (.slice A2 l2.length c2) l2 from Kd.V_mono hs2 (fun k_ hk => .inl hk))
  have HB := Aside0.mk (Below.refl w.heap.size w)
  have H : ((thrumlaw14_live.f).bind fun t353 => (if t353 = true then ((thrumref14_Few.f l0 l2).bind fun t354 => (if t354 = true then (thrumlaw14_LinearRight.j0 k l0 a1 l2 t353 ((l2.length : Int) == 0)) else (thrumlaw14_LinearRight.j0 k l0 a1 l2 t353 true))) else (some false))) = some r := h
  clear h
  replace H := Option.bind_eq_some_iff.mp H
  obtain ⟨t353, A40, H⟩ := H
  replace H : (if t353 = true then ((thrumref14_Few.f l0 l2).bind fun t354 => (if t354 = true then (thrumlaw14_LinearRight.j0 k l0 a1 l2 t353 ((l2.length : Int) == 0)) else (thrumlaw14_LinearRight.j0 k l0 a1 l2 t353 true))) else (some false)) = some r := H
  have A4 := Aside0.mk A40
  clear A40
  by_cases c5 : t353 = true
  · subst c5
    have H1 : ((thrumref14_Few.f l0 l2).bind fun t354 => (if t354 = true then (thrumlaw14_LinearRight.j0 k l0 a1 l2 true ((l2.length : Int) == 0)) else (thrumlaw14_LinearRight.j0 k l0 a1 l2 true true))) = some r := by rw [if_pos rfl] at H; exact H
    clear H
    have H := H1
    clear H1
    have HC6 := Aside0.mk H
    clear H
    go_enter Try.func15, Try.ntmps15
    go_upto_region 4 with (first | ((with_reducible refine gate_callee (f := 61) rfl ?_); refine goesL_ (some 25) rfl rfl Try.func61 (by kernel_rfl) rfl #[] rfl (by (try simp only [List.map_toArray, List.map_cons, List.map_nil]); first | done | rfl | (simp only [List.length_drop, List.length_take]; rfl)) ?_; (with_reducible refine (thrumlaw14_live.calls  true _ A4.out).mono ?_); rintro e w7 ⟨rfl, hb⟩; refine ⟨_, rfl, ?_⟩; have n0_ := Aside0.mk (Kd.V_below (by (with_reducible repeat (first | apply Kd.V_alloc | apply Kd.V_drewN | apply Kd.V_drew)); exact HO2.out) hb); have n1_ := Aside0.mk (below_step (by repeat (first | (with_reducible first | exact HB.out | apply below_alloc | apply pw_below_drewN | apply below_drew1) | exact HB.out)) hb); clear HO2; clear HB; have HO2 := n0_; have HB := n1_; clear n0_ n1_; (try clear hb); (try clear hb2); (try clear hk); (try clear hi)))
    (try simp only [Act.put, List.setIfInBounds_toArray, List.set_cons_zero, List.set_cons_succ])
    go_cut [36] (fun v36 wc => ∃ (kq : Nat) (x36_5 : Bool), v36 = .bool x36_5 ∧ Aside0 (thrumlaw14_LinearRight.j0 kq l0 a1 l2 true x36_5 = some r) ∧ Aside0 (kq ≤ k) ∧ Aside0 (Kd.V k26 26 wc w.heap.size (fun k_ => (P2_ k_ ∨ w.heap.size ≤ k_)) (.slice A2 l2.length c2) l2) ∧ Aside0 (Below w.heap.size w wc))
    case first =>
      have H := HC6.out
      clear HC6
      replace H := Option.bind_eq_some_iff.mp H
      obtain ⟨t354, A80, H⟩ := H
      replace H : (if t354 = true then (thrumlaw14_LinearRight.j0 k l0 a1 l2 true ((l2.length : Int) == 0)) else (thrumlaw14_LinearRight.j0 k l0 a1 l2 true true)) = some r := H
      have A8 := Aside0.mk A80
      clear A80
      by_cases c9 : t354 = true
      · subst c9
        have H1 : (thrumlaw14_LinearRight.j0 k l0 a1 l2 true ((l2.length : Int) == 0)) = some r := by rw [if_pos rfl] at H; exact H
        clear H
        have H := H1
        clear H1
        have H' := Aside0.mk H
        clear H
        go_wp2_with (first | ((with_reducible refine gate_callee (f := 30) rfl ?_); refine goesL_ (some 30) rfl rfl Try.func30 (by kernel_rfl) rfl #[.slice A0 l0.length c0, .slice A2 l2.length c2] rfl (by (try simp only [List.map_toArray, List.map_cons, List.map_nil]); first | done | rfl | (simp only [List.length_drop, List.length_take]; rfl)) ?_; (with_reducible refine (thrumref14_Few.calls _ _ l0 _ _ l2 true _ ?side1 ?side2 ?side3 ?side4 A8.out).mono ?_); (case side1 => repeat (first | exact (Kd.C_below HR0.out HB.out) | (with_reducible refine Kd.C_alloc ?_ _) | (with_reducible refine Kd.C_drewN ?_ _) | (with_reducible refine Kd.C_drew ?_))); (case side2 => exact HC0.out); (case side3 => repeat (first | exact (Kd.V_reads' HO2.out).2.2 | (with_reducible refine Kd.C_alloc ?_ _) | (with_reducible refine Kd.C_drewN ?_ _) | (with_reducible refine Kd.C_drew ?_))); (case side4 => exact (Kd.V_reads' HO2.out).2.1); rintro e w10 ⟨rfl, hb⟩; refine ⟨_, rfl, ?_⟩; have n0_ := Aside0.mk (Kd.V_below (by (with_reducible repeat (first | apply Kd.V_alloc | apply Kd.V_drewN | apply Kd.V_drew)); exact HO2.out) hb); have n1_ := Aside0.mk (below_step (by repeat (first | (with_reducible first | exact HB.out | apply below_alloc | apply pw_below_drewN | apply below_drew1) | exact HB.out)) hb); clear HO2; clear HB; have HO2 := n0_; have HB := n1_; clear n0_ n1_; (try clear hb); (try clear hb2); (try clear hk); (try clear hi)))
        go_meet
        case rel => exact ⟨_, (((l2.length : Int) == 0)), (by first | rfl | (simp; done) | (simp [*]; done)), H', ⟨by first | omega | exact Nat.le_refl _⟩, ⟨by (with_reducible repeat (first | apply Kd.V_alloc | apply Kd.V_drewN | apply Kd.V_drew)); exact HO2.out⟩, ⟨by repeat (first | (with_reducible first | exact HB.out | apply below_alloc | apply pw_below_drewN | apply below_drew1) | exact HB.out)⟩⟩
      · replace c9 := Bool.eq_false_iff.mpr c9
        subst c9
        have H1 : (thrumlaw14_LinearRight.j0 k l0 a1 l2 true true) = some r := by rw [if_neg (show ¬ (false = true) by decide)] at H; exact H
        clear H
        have H := H1
        clear H1
        have H' := Aside0.mk H
        clear H
        go_wp2_with (first | ((with_reducible refine gate_callee (f := 30) rfl ?_); refine goesL_ (some 30) rfl rfl Try.func30 (by kernel_rfl) rfl #[.slice A0 l0.length c0, .slice A2 l2.length c2] rfl (by (try simp only [List.map_toArray, List.map_cons, List.map_nil]); first | done | rfl | (simp only [List.length_drop, List.length_take]; rfl)) ?_; (with_reducible refine (thrumref14_Few.calls _ _ l0 _ _ l2 false _ ?side1 ?side2 ?side3 ?side4 A8.out).mono ?_); (case side1 => repeat (first | exact (Kd.C_below HR0.out HB.out) | (with_reducible refine Kd.C_alloc ?_ _) | (with_reducible refine Kd.C_drewN ?_ _) | (with_reducible refine Kd.C_drew ?_))); (case side2 => exact HC0.out); (case side3 => repeat (first | exact (Kd.V_reads' HO2.out).2.2 | (with_reducible refine Kd.C_alloc ?_ _) | (with_reducible refine Kd.C_drewN ?_ _) | (with_reducible refine Kd.C_drew ?_))); (case side4 => exact (Kd.V_reads' HO2.out).2.1); rintro e w11 ⟨rfl, hb⟩; refine ⟨_, rfl, ?_⟩; have n0_ := Aside0.mk (Kd.V_below (by (with_reducible repeat (first | apply Kd.V_alloc | apply Kd.V_drewN | apply Kd.V_drew)); exact HO2.out) hb); have n1_ := Aside0.mk (below_step (by repeat (first | (with_reducible first | exact HB.out | apply below_alloc | apply pw_below_drewN | apply below_drew1) | exact HB.out)) hb); clear HO2; clear HB; have HO2 := n0_; have HB := n1_; clear n0_ n1_; (try clear hb); (try clear hb2); (try clear hk); (try clear hi)))
        go_meet
        case rel => exact ⟨_, (true), (by first | rfl | (simp; done) | (simp [*]; done)), H', ⟨by first | omega | exact Nat.le_refl _⟩, ⟨by (with_reducible repeat (first | apply Kd.V_alloc | apply Kd.V_drewN | apply Kd.V_drew)); exact HO2.out⟩, ⟨by repeat (first | (with_reducible first | exact HB.out | apply below_alloc | apply pw_below_drewN | apply below_drew1) | exact HB.out)⟩⟩
    case rest =>
      clear HC6
      try clear c1
      try clear c2
      try clear p2
      try clear c3
      try clear c5
      try clear c6
      try clear c9
      obtain ⟨kq, x36_5, rfl, HA, HJ5, HO_2, HB⟩ := hcut
      cases kq with
      | zero => exact absurd HA.out (by simp [thrumlaw14_LinearRight.j0])
      | succ kj5 =>
        have H := HA.out
        clear HA
        simp only [thrumlaw14_LinearRight.j0] at H
        by_cases c12 : x36_5 = true
        · subst c12
          have H1 : (some true) = some r := by rw [if_pos rfl] at H; exact H
          clear H
          have H := H1
          clear H1
          obtain rfl := Option.some.inj H
          go_wp2
          go_ret
          exact ⟨by first | rfl | (simp [errW_none, errW_some] <;> rfl) | (simp [*, errW_none, errW_some] <;> rfl), by repeat (first | (with_reducible first | exact HB.out | apply below_alloc | apply pw_below_drewN | apply below_drew1) | exact HB.out)⟩
        · replace c12 := Bool.eq_false_iff.mpr c12
          subst c12
          have H1 : (thrumlaw14_LinearRight.l0 kj5 l0 a1 l2 true ([] : List (S26)) l2 (l2.length : Int) 0) = some r := by rw [if_neg (show ¬ (false = true) by decide)] at H; exact H
          clear H
          have H := H1
          clear H1
          have H' := Aside0.mk H
          clear H
          go_wp2
          go_loopg [8, 40] kj5 (fun kq v8 v40 w' => ∃ (x8_2 : List (S26)) (x40_2 : Int), v40 = .int .i64 x40_2 ∧ Aside0 (thrumlaw14_LinearRight.l0 kq l0 a1 l2 true x8_2 l2 (l2.length : Int) x40_2 = some r) ∧ Aside0 (kq ≤ kj5) ∧ Aside0 (Kd.V k26 26 w' w.heap.size (fun k_ => (P2_ k_ ∨ w.heap.size ≤ k_) ∧ some k_ ≠ (v8 : Value).ownBlock) (.slice A2 l2.length c2) l2) ∧ Aside0 (Kd.N k26 26 w' w.heap.size (fun k_ => (P2_ k_ ∨ w.heap.size ≤ k_)) v8 x8_2) ∧ Aside0 (Kd.V k26 26 w' w.heap.size (fun k_ => (P2_ k_ ∨ w.heap.size ≤ k_) ∧ some k_ ≠ (v8 : Value).ownBlock) (.slice A2 l2.length c2) l2) ∧ Aside0 (Below w.heap.size w w'))
          case atStart => exact ⟨(([] : List (S26))), (0), (by first | rfl | (simp; done) | (simp [*]; done)), H', ⟨Nat.le_refl _⟩, ⟨by (with_reducible repeat (first | apply Kd.V_alloc | apply Kd.V_drewN | apply Kd.V_drew)); exact Kd.V_mono HO_2.out (fun _ hk => ⟨hk, (by simp [Value.ownBlock])⟩)⟩, ⟨by first | exact Kd.S_nil _ _ _ _ _ | exact Kd.N_nil _ _ _ _ _ | exact Kd.V_nil _ _ _ _ _ | exact Kd.Q_nil _ _ _ _ _ | exact Kd.R_nil _ _ _ _ _⟩, ⟨by (with_reducible repeat (first | apply Kd.V_alloc | apply Kd.V_drewN | apply Kd.V_drew)); exact Kd.V_mono HO_2.out (fun _ hk => ⟨hk, (by simp [Value.ownBlock])⟩)⟩, ⟨by repeat (first | (with_reducible first | exact HB.out | apply below_alloc | apply pw_below_drewN | apply below_drew1) | exact HB.out)⟩⟩
          case round =>
            clear H'
            try clear c1
            try clear c2
            try clear p2
            try clear c3
            try clear c5
            try clear c6
            try clear c9
            try clear c12
            try clear p2
            obtain ⟨x8_2, x40_2, rfl, HA, HK2, HO_2, HO_8, HO_38, HB⟩ := hrel
            cases gk with
            | zero => exact absurd HA.out (by simp [thrumlaw14_LinearRight.l0])
            | succ k2 =>
              have H := HA.out
              clear HA
              simp only [thrumlaw14_LinearRight.l0] at H
              by_cases c13 : x40_2 < (l2.length : Int)
              · rw [if_pos c13] at H
                have c13b0 : decide (x40_2 < (l2.length : Int)) = true := decide_eq_true c13
                clear c13
                by_cases c14 : 0 ≤ x40_2
                · rw [if_pos c14] at H
                  have c14b0 : decide (0 ≤ x40_2) = true := decide_eq_true c14
                  clear c14
                  by_cases c15 : x40_2 < (l2.length : Int)
                  · rw [if_pos c15] at H
                    have c15b0 : decide (x40_2 < (l2.length : Int)) = true := decide_eq_true c15
                    clear c15
                    replace H := Option.bind_eq_some_iff.mp H
                    obtain ⟨⟨t357, t358⟩, A160, H⟩ := H
                    replace H : (if t358 = 0 then (if x8_2.length < 4398046511104 then (thrumlaw14_LinearRight.l0 k2 l0 a1 l2 true (x8_2 ++ [(⟨(rd_T26 l2 x40_2).f0, t357⟩ : S26)]) l2 (l2.length : Int) (wrap64 (x40_2 + 1))) else (none)) else (some true)) = some r := H
                    have A16 := Aside0.mk A160
                    clear A160
                    by_cases c17 : t358 = 0
                    · rw [if_pos c17] at H
                      have c17b0 : (t358 == 0) = true := beq_iff_eq.mpr c17
                      have c17b1 : (t358 != 0) = false := bne_eq_false_iff_eq.mpr c17
                      clear c17
                      by_cases c18 : x8_2.length < 4398046511104
                      · rw [if_pos c18] at H
                        have LMc18 := Aside0.mk c18
                        clear c18
                        obtain ⟨y359, hy359⟩ : ∃ y_ : List (S26), y_ = (x8_2 ++ [(⟨(rd_T26 l2 x40_2).f0, t357⟩ : S26)]) := ⟨_, rfl⟩
                        replace H : (thrumlaw14_LinearRight.l0 k2 l0 a1 l2 true y359 l2 (l2.length : Int) (wrap64 (x40_2 + 1))) = some r := by first | (rw [hy359]; with_reducible exact H) | (have H2_ := (Option.bind_some _ _).symm.trans H; rw [hy359]; with_reducible exact H2_) | (have H2_ := (Option.bind_some _ _).symm.trans H; with_reducible exact H2_) | with_reducible exact H | (rw [hy359]; exact H) | exact H
                        have Ny359 := Aside0.mk hy359
                        clear hy359
                        have H' := Aside0.mk H
                        clear H
                        have p355 : 0 ≤ (x40_2 : Int) := of_decide_eq_true (by first | (with_reducible assumption) | assumption)
                        have q355 : x40_2 < (l2.length : Int) := of_decide_eq_true (by first | (with_reducible assumption) | assumption)
                        obtain ⟨ad355, A355_0, c355_0, e355, hx355_0, hx355_1, hl355_0, hi355_0⟩ := at_T26 (Kd.V_reads' HO_38.out).2.2 x40_2 p355 q355
                        cases e355
                        obtain ⟨ce355, hce355, hMe355, hcc355⟩ := Kd.V_get HO_38.out z26 x40_2 p355 (by first | exact q355 | exact of_decide_eq_true (by first | (with_reducible assumption) | assumption) | (have e_ := (Kd.V_reads' HO_38.out).1; omega))
                        obtain ⟨ua355_0, uc355_0, rfl, ul355_0, ge355_0⟩ := k26_openF hMe355
                        have hv355_0 := hcc355 0 _ rfl
                        rw [Nat.add_zero] at hv355_0
                        replace hv355_0 := Option.some.inj (hv355_0.symm.trans hx355_0)
                        injection hv355_0 with hva_ hvn_ hvc_
                        rw [hva_] at ge355_0
                        rw [hvc_] at ul355_0
                        have HL355_0 := Aside0.mk (show Kd.V (Kd.int .i64) 2 _ w.heap.size _ _ ((rd_T26 l2 x40_2).f0) from Kd.V_mk ul355_0 ge355_0)
                        clear hva_ hvn_ hvc_ ge355_0 ul355_0
                        clear hcc355 hce355
                        have HR355_0 := Aside0.mk hi355_0
                        have HC355_0 := Aside0.mk hl355_0
                        clear hi355_0 hl355_0
                        replace p355 := eq_true p355
                        replace q355 := eq_true q355
                        go_wp2_with (first | ((with_reducible refine gate_dst (N := 10) rfl ?_); (try (refine gate_guard (by rfl) ?_; dsimp only)); refine box_event ?hg (N := 10) ?hd (cs := #[.slice none 0 0, .int .i64 0]) (t := 26) ?hr ?_; (case hd => rfl); (case hg => rfl); (case hr => first | (go_simp; done) | (go_simp; rfl)); intro gb356 hg w19 hbox hb; have n0_ := Aside0.mk (Kd.V_below (Kd.V_elderB (by (with_reducible repeat (first | apply Kd.V_alloc | apply Kd.V_drewN | apply Kd.V_drew)); exact HO_2.out) gb356 (Nat.le_of_eq hg.symm)) hb); have n1_ := Aside0.mk (Kd.N_below (Kd.N_elderB (by (with_reducible repeat (first | apply Kd.N_alloc | apply Kd.N_drewN | apply Kd.N_drew)); exact HO_8.out) gb356 (Nat.le_of_eq hg.symm)) hb); have n2_ := Aside0.mk (Kd.V_below (Kd.V_elderB (by (with_reducible repeat (first | apply Kd.V_alloc | apply Kd.V_drewN | apply Kd.V_drew)); exact HO_38.out) gb356 (Nat.le_of_eq hg.symm)) hb); have n3_ := Aside0.mk (Kd.V_below (Kd.V_elderB (by (with_reducible repeat (first | apply Kd.V_alloc | apply Kd.V_drewN | apply Kd.V_drew)); exact HL355_0.out) gb356 (Nat.le_of_eq hg.symm)) hb); have n4_ := Aside0.mk (Kd.C_below (by repeat (first | (with_reducible exact HR355_0.out) | (with_reducible refine Kd.C_alloc ?_ _) | (with_reducible refine Kd.C_drewN ?_ _) | (with_reducible refine Kd.C_drew ?_) | exact HR355_0.out)) hb); have n5_ := Aside0.mk (below_step (by repeat (first | (with_reducible first | exact HB.out | apply below_alloc | apply pw_below_drewN | apply below_drew1) | exact HB.out)) hb); have n6_ := Aside0.mk (hbox); have n7_ := Aside0.mk ((by rw [hg]; exact (below_size (by repeat (first | (with_reducible first | exact HB.out | apply below_alloc | apply pw_below_drewN | apply below_drew1) | exact HB.out))) : w.heap.size ≤ gb356)); have n8_ := Aside0.mk ((by rw [hg]; exact (below_size (by repeat (first | (with_reducible first | exact HB.out | apply below_alloc | apply pw_below_drewN | apply below_drew1) | exact HB.out))) : w.heap.size ≤ gb356)); clear HO_2; clear HO_8; clear HO_38; clear HL355_0; clear HR355_0; clear HB; have HO_2 := n0_; have HO_8 := n1_; have HO_38 := n2_; have HL355_0 := n3_; have HR355_0 := Aside0.mk (Kd.V_reads' (e := 2) (base := w.heap.size) HL355_0.out).2.2; have HR355_0 := n4_; have HB := n5_; have BK356 := n6_; have GW356 := n7_; have GE356 := n8_; clear n0_ n1_ n2_ n3_ n4_ n5_ n6_ n7_ n8_; clear hb hbox hg; have hcz20_0 : w19.cell? ⟨gb356, 0, none⟩ = some (.slice none 0 0) := (blk_cell BK356.out 0).trans rfl; have hcz20_1 : w19.cell? ⟨gb356, 1, none⟩ = some (.int .i64 0) := (blk_cell BK356.out 1).trans rfl; have hfz20_0 := blk_frozen BK356.out 0; have hfz20_1 := blk_frozen BK356.out 1) | ((with_reducible refine gate_store (t := 26) (p := 10) rfl ?_); refine store_event (t := 26) (p := 10) (v := ?vo_w21) (w1 := ((w19.setCell ⟨gb356, 0, none⟩ (.slice A355_0 ((rd_T26 l2 x40_2).f0).length c355_0)).setCell ⟨gb356, 1, none⟩ (.int .i64 ((rd_T26 l2 x40_2).f1)))) ?hg ?ho ?hn ?hr ?_; (case ho => rfl); (case hg => rfl); (case hn => rfl); (case hr => first | (go_simp; done) | (go_simp; rfl)); intro w21 hw; have n0_ : Aside0 (Kd.V k26 26 w21 w.heap.size (fun k_ => (P2_ k_ ∨ w.heap.size ≤ k_) ∧ some k_ ≠ (u8 : Value).ownBlock ∧ k_ ≠ gb356) (.slice (some ad355) l2.length c2) l2) := ⟨(by rw [hw]; exact (by (with_reducible repeat (first | apply Kd.V_alloc | apply Kd.V_drewN | apply Kd.V_drew)); exact Kd.V_mono (Kd.V_far (p := ⟨gb356, 1, none⟩) (Kd.V_far (p := ⟨gb356, 0, none⟩) (Kd.V_mono HO_2.out (fun k_ hk => (⟨hk, hk.2⟩ : _ ∧ k_ ≠ gb356))) (fun _ hk => hk.2) (.slice A355_0 ((rd_T26 l2 x40_2).f0).length c355_0)) (fun _ hk => hk.2) (.int .i64 ((rd_T26 l2 x40_2).f1))) (fun _ hk => ⟨hk.1.1.1, ⟨hk.1.1.2, hk.1.2⟩⟩)))⟩; have n1_ : Aside0 (Kd.N k26 26 w21 w.heap.size (fun k_ => (P2_ k_ ∨ w.heap.size ≤ k_) ∧ k_ ≠ gb356) u8 x8_2) := ⟨(by rw [hw]; exact (by (with_reducible repeat (first | apply Kd.N_alloc | apply Kd.N_drewN | apply Kd.N_drew)); exact Kd.N_mono (Kd.N_far (p := ⟨gb356, 1, none⟩) (Kd.N_far (p := ⟨gb356, 0, none⟩) (Kd.N_mono HO_8.out (fun k_ hk => (⟨hk, hk.2⟩ : _ ∧ k_ ≠ gb356))) (fun _ hk => hk.2) (.slice A355_0 ((rd_T26 l2 x40_2).f0).length c355_0)) (fun _ hk => hk.2) (.int .i64 ((rd_T26 l2 x40_2).f1))) (fun _ hk => ⟨hk.1.1, hk.1.2⟩)))⟩; have n2_ : Aside0 (Kd.V k26 26 w21 w.heap.size (fun k_ => (P2_ k_ ∨ w.heap.size ≤ k_) ∧ some k_ ≠ (u8 : Value).ownBlock ∧ k_ ≠ gb356) (.slice (some ad355) l2.length c2) l2) := ⟨(by rw [hw]; exact (by (with_reducible repeat (first | apply Kd.V_alloc | apply Kd.V_drewN | apply Kd.V_drew)); exact Kd.V_mono (Kd.V_far (p := ⟨gb356, 1, none⟩) (Kd.V_far (p := ⟨gb356, 0, none⟩) (Kd.V_mono HO_38.out (fun k_ hk => (⟨hk, hk.2⟩ : _ ∧ k_ ≠ gb356))) (fun _ hk => hk.2) (.slice A355_0 ((rd_T26 l2 x40_2).f0).length c355_0)) (fun _ hk => hk.2) (.int .i64 ((rd_T26 l2 x40_2).f1))) (fun _ hk => ⟨hk.1.1.1, ⟨hk.1.1.2, hk.1.2⟩⟩)))⟩; have n3_ : Aside0 (Kd.V (Kd.int .i64) 2 w21 w.heap.size (fun k_ => (P2_ k_ ∨ w.heap.size ≤ k_) ∧ some k_ ≠ (u8 : Value).ownBlock ∧ k_ ≠ gb356) (.slice A355_0 ((rd_T26 l2 x40_2).f0).length c355_0) ((rd_T26 l2 x40_2).f0)) := ⟨(by rw [hw]; exact (by (with_reducible repeat (first | apply Kd.V_alloc | apply Kd.V_drewN | apply Kd.V_drew)); exact Kd.V_mono (Kd.V_far (p := ⟨gb356, 1, none⟩) (Kd.V_far (p := ⟨gb356, 0, none⟩) (Kd.V_mono HL355_0.out (fun k_ hk => (⟨hk, hk.2⟩ : _ ∧ k_ ≠ gb356))) (fun _ hk => hk.2) (.slice A355_0 ((rd_T26 l2 x40_2).f0).length c355_0)) (fun _ hk => hk.2) (.int .i64 ((rd_T26 l2 x40_2).f1))) (fun _ hk => ⟨hk.1.1.1, ⟨hk.1.1.2, hk.1.2⟩⟩)))⟩; have n4_ : Aside0 (w21.heap[gb356]? = some (.cells #[.slice A355_0 ((rd_T26 l2 x40_2).f0).length c355_0, .int .i64 ((rd_T26 l2 x40_2).f1)] 26 (0, 0))) := ⟨(by rw [hw]; exact (by (with_reducible repeat (first | refine blk_drewN ?_ _ | refine blk_drew ?_ | refine blk_alloc ?_ _)); refine blk_put (cs := #[.slice A355_0 ((rd_T26 l2 x40_2).f0).length c355_0, .int .i64 0]) ?_ 1 _ rfl; (with_reducible repeat (first | refine blk_drewN ?_ _ | refine blk_drew ?_ | refine blk_alloc ?_ _)); refine blk_put (cs := #[.slice none 0 0, .int .i64 0]) ?_ 0 _ rfl; (with_reducible repeat (first | refine blk_drewN ?_ _ | refine blk_drew ?_ | refine blk_alloc ?_ _)); exact BK356.out))⟩; have n5_ : Aside0 (Below w.heap.size w w21) := ⟨(by rw [hw]; exact (by repeat (first | (with_reducible first | exact HB.out | apply below_alloc | apply pw_below_drewN | apply below_drew1 | refine below_set ?_ GE356.out) | exact HB.out)))⟩; clear hw; clear HO_2; clear HO_8; clear HO_38; clear HL355_0; clear BK356; clear HB; have HO_2 := n0_; have HO_8 := n1_; have HO_38 := n2_; have HL355_0 := n3_; have HR355_0 := Aside0.mk (Kd.V_reads' (e := 2) (base := w.heap.size) HL355_0.out).2.2; have BK356 := n4_; have HB := n5_; clear n0_ n1_ n2_ n3_ n4_ n5_; have hcz22_0 : w21.cell? ⟨gb356, 0, none⟩ = some (.slice A355_0 ((rd_T26 l2 x40_2).f0).length c355_0) := (blk_cell BK356.out 0).trans rfl; have hcz22_1 : w21.cell? ⟨gb356, 1, none⟩ = some (.int .i64 ((rd_T26 l2 x40_2).f1)) := (blk_cell BK356.out 1).trans rfl; have hfz22_0 := blk_frozen BK356.out 0; have hfz22_1 := blk_frozen BK356.out 1) | ((with_reducible refine gate_callee (f := 33) rfl ?_); refine goesL_ (some 49) rfl rfl Try.func33 (by kernel_rfl) rfl #[.slice A0 l0.length c0, .slice A355_0 ((rd_T26 l2 x40_2).f0).length c355_0, .int .i64 a1] rfl (by (try simp only [List.map_toArray, List.map_cons, List.map_nil]); first | done | rfl | (simp only [List.length_drop, List.length_take]; rfl)) ?_; (with_reducible refine (linear_Tell.calls _ _ l0 (fun k_ => ((P2_ k_ ∨ w.heap.size ≤ k_) ∧ (some k_ ≠ (u8 : Value).ownBlock ∧ k_ ≠ gb356))) _ _ ((rd_T26 l2 x40_2).f0) a1 t357 t358 _ ?side1 ?side2 ?side3 A16.out).mono ?_); (case side1 => repeat (first | exact (Kd.C_below HR0.out HB.out) | (with_reducible refine Kd.C_alloc ?_ _) | (with_reducible refine Kd.C_drewN ?_ _) | (with_reducible refine Kd.C_drew ?_))); (case side2 => exact HC0.out); (case side3 => exact Kd.V_mk HC355_0.out (Kd.V_F (e := 2) (base := w.heap.size) HL355_0.out)); rintro e w23 ⟨rfl, hb⟩; refine ⟨_, rfl, ?_⟩; have n0_ := Aside0.mk (Kd.V_below (by (with_reducible repeat (first | apply Kd.V_alloc | apply Kd.V_drewN | apply Kd.V_drew)); exact HO_2.out) hb); have n1_ := Aside0.mk (Kd.N_below (by (with_reducible repeat (first | apply Kd.N_alloc | apply Kd.N_drewN | apply Kd.N_drew)); exact HO_8.out) hb); have n2_ := Aside0.mk (Kd.V_below (by (with_reducible repeat (first | apply Kd.V_alloc | apply Kd.V_drewN | apply Kd.V_drew)); exact HO_38.out) hb); have n3_ := Aside0.mk (Kd.V_below (by (with_reducible repeat (first | apply Kd.V_alloc | apply Kd.V_drewN | apply Kd.V_drew)); exact HL355_0.out) hb); have n4_ := Aside0.mk (Kd.C_below (by repeat (first | (with_reducible exact HR355_0.out) | (with_reducible refine Kd.C_alloc ?_ _) | (with_reducible refine Kd.C_drewN ?_ _) | (with_reducible refine Kd.C_drew ?_) | exact HR355_0.out)) hb); have n5_ := Aside0.mk (blk_below (g := gb356) (o := .cells #[.slice A355_0 ((rd_T26 l2 x40_2).f0).length c355_0, .int .i64 ((rd_T26 l2 x40_2).f1)] 26 (0, 0)) (by (with_reducible repeat (first | refine blk_drewN ?_ _ | refine blk_drew ?_ | refine blk_alloc ?_ _)); exact BK356.out) hb); have n6_ := Aside0.mk (below_step (by repeat (first | (with_reducible first | exact HB.out | apply below_alloc | apply pw_below_drewN | apply below_drew1 | refine below_set ?_ GE356.out) | exact HB.out)) hb); clear HO_2; clear HO_8; clear HO_38; clear HL355_0; clear HR355_0; clear BK356; clear HB; have HO_2 := n0_; have HO_8 := n1_; have HO_38 := n2_; have HL355_0 := n3_; have HR355_0 := Aside0.mk (Kd.V_reads' (e := 2) (base := w.heap.size) HL355_0.out).2.2; have HR355_0 := n4_; have BK356 := n5_; have HB := n6_; clear n0_ n1_ n2_ n3_ n4_ n5_ n6_; (try clear hb); (try clear hb2); (try clear hk); (try clear hi); have hcz24_0 : w23.cell? ⟨gb356, 0, none⟩ = some (.slice A355_0 ((rd_T26 l2 x40_2).f0).length c355_0) := (blk_cell BK356.out 0).trans rfl; have hcz24_1 : w23.cell? ⟨gb356, 1, none⟩ = some (.int .i64 ((rd_T26 l2 x40_2).f1)) := (blk_cell BK356.out 1).trans rfl; have hfz24_0 := blk_frozen BK356.out 0; have hfz24_1 := blk_frozen BK356.out 1) | ((with_reducible refine gate_builtin (b := .append) (xs := #[.tmp 55, .tmp 60]) rfl ?_); (try (refine gate_guard (by rfl) ?_; dsimp only)); at_builtin; refine Kd.N_append k26 (w0 := w) w.heap.size rfl (.tmp 55) (.tmp 60) 66 26 (.agg #[(.slice none 0 0), (.int .i64 0)]) 32 rfl Try.underlying66 info26 rfl (by decide) (by omega) u8 x8_2 (⟨(rd_T26 l2 x40_2).f0, t357⟩ : S26) [.slice A355_0 ((rd_T26 l2 x40_2).f0).length c355_0, .int .i64 t357] (fun k_ => (P2_ k_ ∨ w.heap.size ≤ k_) ∧ k_ ≠ gb356) (fun k_ => ((fun k_ => (P2_ k_ ∨ w.heap.size ≤ k_) ∧ k_ ≠ gb356)) k_ ∧ some k_ ≠ (u8 : Value).ownBlock) rfl rfl ?aP (fun _ hk => hk) ?aF ?aO ?aB ?aS ?aL ?_; (case aP => exact (k26_mkF _ _ (⟨(rd_T26 l2 x40_2).f0, t357⟩ : S26) (Kd.V_reads' (Kd.V_mono (ok' := (fun k_ => ((fun k_ => (P2_ k_ ∨ w.heap.size ≤ k_) ∧ k_ ≠ gb356)) k_ ∧ some k_ ≠ (u8 : Value).ownBlock)) (HL355_0.out) (fun k_ hk => ⟨⟨hk.1, hk.2.2⟩, hk.2.1⟩))).2.1 (Kd.V_F (Kd.V_mono (ok' := (fun k_ => ((fun k_ => (P2_ k_ ∨ w.heap.size ≤ k_) ∧ k_ ≠ gb356)) k_ ∧ some k_ ≠ (u8 : Value).ownBlock)) (HL355_0.out) (fun k_ hk => ⟨⟨hk.1, hk.2.2⟩, hk.2.1⟩))))); (case aB => exact (by repeat (first | (with_reducible first | exact HB.out | apply below_alloc | apply pw_below_drewN | apply below_drew1 | refine below_set ?_ GE356.out) | exact HB.out))); (case aF => exact (fun k_ hk => ⟨(.inr (Nat.le_trans (below_size (by repeat (first | (with_reducible first | exact HB.out | apply below_alloc | apply pw_below_drewN | apply below_drew1 | refine below_set ?_ GE356.out) | exact HB.out))) hk)), Kd.freshB (g := gb356) (o := .cells #[.slice A355_0 ((rd_T26 l2 x40_2).f0).length c355_0, .int .i64 ((rd_T26 l2 x40_2).f1)] 26 (0, 0)) (by (with_reducible repeat (first | refine blk_drewN ?_ _ | refine blk_drew ?_ | refine blk_alloc ?_ _)); exact BK356.out) k_ hk⟩)); (case aO => exact (by (with_reducible repeat (first | apply Kd.N_alloc | apply Kd.N_drewN | apply Kd.N_drew)); exact HO_8.out)); (case aS => exact (below_size (by repeat (first | (with_reducible first | exact HB.out | apply below_alloc | apply pw_below_drewN | apply below_drew1 | refine below_set ?_ GE356.out) | exact HB.out)))); (case aL => have := LMc18.out; omega); intro v360 w25 ho hb hg hat; rw [← Ny359.out] at ho; have n0_ := Aside0.mk (Kd.V_afterv (ok := (fun k_ => (P2_ k_ ∨ w.heap.size ≤ k_) ∧ k_ ≠ gb356)) (by (with_reducible repeat (first | apply Kd.V_alloc | apply Kd.V_drewN | apply Kd.V_drew)); exact Kd.V_mono HO_2.out (fun _ hk => ⟨⟨hk.1, hk.2.2⟩, hk.2.1⟩)) hg hat); have n1_ := Aside0.mk (Kd.V_afterv (ok := (fun k_ => (P2_ k_ ∨ w.heap.size ≤ k_) ∧ k_ ≠ gb356)) (by (with_reducible repeat (first | apply Kd.V_alloc | apply Kd.V_drewN | apply Kd.V_drew)); exact Kd.V_mono HO_38.out (fun _ hk => ⟨⟨hk.1, hk.2.2⟩, hk.2.1⟩)) hg hat); have n2_ := Aside0.mk (Kd.V_afterv (ok := (fun k_ => (P2_ k_ ∨ w.heap.size ≤ k_) ∧ k_ ≠ gb356)) (by (with_reducible repeat (first | apply Kd.V_alloc | apply Kd.V_drewN | apply Kd.V_drew)); exact Kd.V_mono HL355_0.out (fun _ hk => ⟨⟨hk.1, hk.2.2⟩, hk.2.1⟩)) hg hat); have n3_ := Aside0.mk (blk_grown (g := gb356) (o := .cells #[.slice A355_0 ((rd_T26 l2 x40_2).f0).length c355_0, .int .i64 ((rd_T26 l2 x40_2).f1)] 26 (0, 0)) (by (with_reducible repeat (first | refine blk_drewN ?_ _ | refine blk_drew ?_ | refine blk_alloc ?_ _)); exact BK356.out) hg (Kd.N_away HO_8.out (fun _ hk => hk.2))); have n4_ := Aside0.mk (hb); have n5_ := Aside0.mk (ho); clear HO_2; clear HO_38; clear HL355_0; clear BK356; clear HB; clear HO_8; have HO_2 := n0_; have HO_38 := n1_; have HL355_0 := n2_; have HR355_0 := Aside0.mk (Kd.V_reads' (e := 2) (base := w.heap.size) HL355_0.out).2.2; have BK356 := n3_; have HB := n4_; have HO361 := n5_; clear n0_ n1_ n2_ n3_ n4_ n5_; clear ho hb hg hat))
                        go_roundg k2
                        case measure => have := HJ5.out; have := HK2.out; omega
                        case rel => exact ⟨(y359), (wrap64 (x40_2 + 1)), (by first | rfl | (simp; done) | (simp [*]; done)), H', ⟨by have := HJ5.out; have := HK2.out; omega⟩, ⟨by (with_reducible repeat (first | apply Kd.V_alloc | apply Kd.V_drewN | apply Kd.V_drew)); exact Kd.V_mono HO_2.out (fun _ hk => ⟨hk.1.1, hk.2⟩)⟩, ⟨by (with_reducible repeat (first | apply Kd.N_alloc | apply Kd.N_drewN | apply Kd.N_drew)); exact Kd.N_mono HO361.out (fun _ hk => hk.1)⟩, ⟨by (with_reducible repeat (first | apply Kd.V_alloc | apply Kd.V_drewN | apply Kd.V_drew)); exact Kd.V_mono HO_38.out (fun _ hk => ⟨hk.1.1, hk.2⟩)⟩, ⟨by repeat (first | (with_reducible first | exact HB.out | apply below_alloc | apply pw_below_drewN | apply below_drew1 | refine below_set ?_ GE356.out) | exact HB.out)⟩⟩
                      · rw [if_neg c18] at H
                        exact absurd H (by simp)
                    · rw [if_neg c17] at H
                      have c17b0 : (t358 == 0) = false := beq_eq_false_iff_ne.mpr c17
                      have c17b1 : (t358 != 0) = true := bne_iff_ne.mpr c17
                      obtain rfl := Option.some.inj H
                      have p355 : 0 ≤ (x40_2 : Int) := of_decide_eq_true (by first | (with_reducible assumption) | assumption)
                      have q355 : x40_2 < (l2.length : Int) := of_decide_eq_true (by first | (with_reducible assumption) | assumption)
                      obtain ⟨ad355, A355_0, c355_0, e355, hx355_0, hx355_1, hl355_0, hi355_0⟩ := at_T26 (Kd.V_reads' HO_38.out).2.2 x40_2 p355 q355
                      cases e355
                      obtain ⟨ce355, hce355, hMe355, hcc355⟩ := Kd.V_get HO_38.out z26 x40_2 p355 (by first | exact q355 | exact of_decide_eq_true (by first | (with_reducible assumption) | assumption) | (have e_ := (Kd.V_reads' HO_38.out).1; omega))
                      obtain ⟨ua355_0, uc355_0, rfl, ul355_0, ge355_0⟩ := k26_openF hMe355
                      have hv355_0 := hcc355 0 _ rfl
                      rw [Nat.add_zero] at hv355_0
                      replace hv355_0 := Option.some.inj (hv355_0.symm.trans hx355_0)
                      injection hv355_0 with hva_ hvn_ hvc_
                      rw [hva_] at ge355_0
                      rw [hvc_] at ul355_0
                      have HL355_0 := Aside0.mk (show Kd.V (Kd.int .i64) 2 _ w.heap.size _ _ ((rd_T26 l2 x40_2).f0) from Kd.V_mk ul355_0 ge355_0)
                      clear hva_ hvn_ hvc_ ge355_0 ul355_0
                      clear hcc355 hce355
                      have HR355_0 := Aside0.mk hi355_0
                      have HC355_0 := Aside0.mk hl355_0
                      clear hi355_0 hl355_0
                      replace p355 := eq_true p355
                      replace q355 := eq_true q355
                      go_wp2_with (first | ((with_reducible refine gate_dst (N := 10) rfl ?_); (try (refine gate_guard (by rfl) ?_; dsimp only)); refine box_event ?hg (N := 10) ?hd (cs := #[.slice none 0 0, .int .i64 0]) (t := 26) ?hr ?_; (case hd => rfl); (case hg => rfl); (case hr => first | (go_simp; done) | (go_simp; rfl)); intro gb356 hg w26 hbox hb; have n0_ := Aside0.mk (Kd.V_below (Kd.V_elderB (by (with_reducible repeat (first | apply Kd.V_alloc | apply Kd.V_drewN | apply Kd.V_drew)); exact HO_2.out) gb356 (Nat.le_of_eq hg.symm)) hb); have n1_ := Aside0.mk (Kd.N_below (Kd.N_elderB (by (with_reducible repeat (first | apply Kd.N_alloc | apply Kd.N_drewN | apply Kd.N_drew)); exact HO_8.out) gb356 (Nat.le_of_eq hg.symm)) hb); have n2_ := Aside0.mk (Kd.V_below (Kd.V_elderB (by (with_reducible repeat (first | apply Kd.V_alloc | apply Kd.V_drewN | apply Kd.V_drew)); exact HO_38.out) gb356 (Nat.le_of_eq hg.symm)) hb); have n3_ := Aside0.mk (Kd.V_below (Kd.V_elderB (by (with_reducible repeat (first | apply Kd.V_alloc | apply Kd.V_drewN | apply Kd.V_drew)); exact HL355_0.out) gb356 (Nat.le_of_eq hg.symm)) hb); have n4_ := Aside0.mk (Kd.C_below (by repeat (first | (with_reducible exact HR355_0.out) | (with_reducible refine Kd.C_alloc ?_ _) | (with_reducible refine Kd.C_drewN ?_ _) | (with_reducible refine Kd.C_drew ?_) | exact HR355_0.out)) hb); have n5_ := Aside0.mk (below_step (by repeat (first | (with_reducible first | exact HB.out | apply below_alloc | apply pw_below_drewN | apply below_drew1) | exact HB.out)) hb); have n6_ := Aside0.mk (hbox); have n7_ := Aside0.mk ((by rw [hg]; exact (below_size (by repeat (first | (with_reducible first | exact HB.out | apply below_alloc | apply pw_below_drewN | apply below_drew1) | exact HB.out))) : w.heap.size ≤ gb356)); have n8_ := Aside0.mk ((by rw [hg]; exact (below_size (by repeat (first | (with_reducible first | exact HB.out | apply below_alloc | apply pw_below_drewN | apply below_drew1) | exact HB.out))) : w.heap.size ≤ gb356)); clear HO_2; clear HO_8; clear HO_38; clear HL355_0; clear HR355_0; clear HB; have HO_2 := n0_; have HO_8 := n1_; have HO_38 := n2_; have HL355_0 := n3_; have HR355_0 := Aside0.mk (Kd.V_reads' (e := 2) (base := w.heap.size) HL355_0.out).2.2; have HR355_0 := n4_; have HB := n5_; have BK356 := n6_; have GW356 := n7_; have GE356 := n8_; clear n0_ n1_ n2_ n3_ n4_ n5_ n6_ n7_ n8_; clear hb hbox hg; have hcz27_0 : w26.cell? ⟨gb356, 0, none⟩ = some (.slice none 0 0) := (blk_cell BK356.out 0).trans rfl; have hcz27_1 : w26.cell? ⟨gb356, 1, none⟩ = some (.int .i64 0) := (blk_cell BK356.out 1).trans rfl; have hfz27_0 := blk_frozen BK356.out 0; have hfz27_1 := blk_frozen BK356.out 1) | ((with_reducible refine gate_store (t := 26) (p := 10) rfl ?_); refine store_event (t := 26) (p := 10) (v := ?vo_w28) (w1 := ((w26.setCell ⟨gb356, 0, none⟩ (.slice A355_0 ((rd_T26 l2 x40_2).f0).length c355_0)).setCell ⟨gb356, 1, none⟩ (.int .i64 ((rd_T26 l2 x40_2).f1)))) ?hg ?ho ?hn ?hr ?_; (case ho => rfl); (case hg => rfl); (case hn => rfl); (case hr => first | (go_simp; done) | (go_simp; rfl)); intro w28 hw; have n0_ : Aside0 (Kd.V k26 26 w28 w.heap.size (fun k_ => (P2_ k_ ∨ w.heap.size ≤ k_) ∧ some k_ ≠ (u8 : Value).ownBlock ∧ k_ ≠ gb356) (.slice (some ad355) l2.length c2) l2) := ⟨(by rw [hw]; exact (by (with_reducible repeat (first | apply Kd.V_alloc | apply Kd.V_drewN | apply Kd.V_drew)); exact Kd.V_mono (Kd.V_far (p := ⟨gb356, 1, none⟩) (Kd.V_far (p := ⟨gb356, 0, none⟩) (Kd.V_mono HO_2.out (fun k_ hk => (⟨hk, hk.2⟩ : _ ∧ k_ ≠ gb356))) (fun _ hk => hk.2) (.slice A355_0 ((rd_T26 l2 x40_2).f0).length c355_0)) (fun _ hk => hk.2) (.int .i64 ((rd_T26 l2 x40_2).f1))) (fun _ hk => ⟨hk.1.1.1, ⟨hk.1.1.2, hk.1.2⟩⟩)))⟩; have n1_ : Aside0 (Kd.N k26 26 w28 w.heap.size (fun k_ => (P2_ k_ ∨ w.heap.size ≤ k_) ∧ k_ ≠ gb356) u8 x8_2) := ⟨(by rw [hw]; exact (by (with_reducible repeat (first | apply Kd.N_alloc | apply Kd.N_drewN | apply Kd.N_drew)); exact Kd.N_mono (Kd.N_far (p := ⟨gb356, 1, none⟩) (Kd.N_far (p := ⟨gb356, 0, none⟩) (Kd.N_mono HO_8.out (fun k_ hk => (⟨hk, hk.2⟩ : _ ∧ k_ ≠ gb356))) (fun _ hk => hk.2) (.slice A355_0 ((rd_T26 l2 x40_2).f0).length c355_0)) (fun _ hk => hk.2) (.int .i64 ((rd_T26 l2 x40_2).f1))) (fun _ hk => ⟨hk.1.1, hk.1.2⟩)))⟩; have n2_ : Aside0 (Kd.V k26 26 w28 w.heap.size (fun k_ => (P2_ k_ ∨ w.heap.size ≤ k_) ∧ some k_ ≠ (u8 : Value).ownBlock ∧ k_ ≠ gb356) (.slice (some ad355) l2.length c2) l2) := ⟨(by rw [hw]; exact (by (with_reducible repeat (first | apply Kd.V_alloc | apply Kd.V_drewN | apply Kd.V_drew)); exact Kd.V_mono (Kd.V_far (p := ⟨gb356, 1, none⟩) (Kd.V_far (p := ⟨gb356, 0, none⟩) (Kd.V_mono HO_38.out (fun k_ hk => (⟨hk, hk.2⟩ : _ ∧ k_ ≠ gb356))) (fun _ hk => hk.2) (.slice A355_0 ((rd_T26 l2 x40_2).f0).length c355_0)) (fun _ hk => hk.2) (.int .i64 ((rd_T26 l2 x40_2).f1))) (fun _ hk => ⟨hk.1.1.1, ⟨hk.1.1.2, hk.1.2⟩⟩)))⟩; have n3_ : Aside0 (Kd.V (Kd.int .i64) 2 w28 w.heap.size (fun k_ => (P2_ k_ ∨ w.heap.size ≤ k_) ∧ some k_ ≠ (u8 : Value).ownBlock ∧ k_ ≠ gb356) (.slice A355_0 ((rd_T26 l2 x40_2).f0).length c355_0) ((rd_T26 l2 x40_2).f0)) := ⟨(by rw [hw]; exact (by (with_reducible repeat (first | apply Kd.V_alloc | apply Kd.V_drewN | apply Kd.V_drew)); exact Kd.V_mono (Kd.V_far (p := ⟨gb356, 1, none⟩) (Kd.V_far (p := ⟨gb356, 0, none⟩) (Kd.V_mono HL355_0.out (fun k_ hk => (⟨hk, hk.2⟩ : _ ∧ k_ ≠ gb356))) (fun _ hk => hk.2) (.slice A355_0 ((rd_T26 l2 x40_2).f0).length c355_0)) (fun _ hk => hk.2) (.int .i64 ((rd_T26 l2 x40_2).f1))) (fun _ hk => ⟨hk.1.1.1, ⟨hk.1.1.2, hk.1.2⟩⟩)))⟩; have n4_ : Aside0 (w28.heap[gb356]? = some (.cells #[.slice A355_0 ((rd_T26 l2 x40_2).f0).length c355_0, .int .i64 ((rd_T26 l2 x40_2).f1)] 26 (0, 0))) := ⟨(by rw [hw]; exact (by (with_reducible repeat (first | refine blk_drewN ?_ _ | refine blk_drew ?_ | refine blk_alloc ?_ _)); refine blk_put (cs := #[.slice A355_0 ((rd_T26 l2 x40_2).f0).length c355_0, .int .i64 0]) ?_ 1 _ rfl; (with_reducible repeat (first | refine blk_drewN ?_ _ | refine blk_drew ?_ | refine blk_alloc ?_ _)); refine blk_put (cs := #[.slice none 0 0, .int .i64 0]) ?_ 0 _ rfl; (with_reducible repeat (first | refine blk_drewN ?_ _ | refine blk_drew ?_ | refine blk_alloc ?_ _)); exact BK356.out))⟩; have n5_ : Aside0 (Below w.heap.size w w28) := ⟨(by rw [hw]; exact (by repeat (first | (with_reducible first | exact HB.out | apply below_alloc | apply pw_below_drewN | apply below_drew1 | refine below_set ?_ GE356.out) | exact HB.out)))⟩; clear hw; clear HO_2; clear HO_8; clear HO_38; clear HL355_0; clear BK356; clear HB; have HO_2 := n0_; have HO_8 := n1_; have HO_38 := n2_; have HL355_0 := n3_; have HR355_0 := Aside0.mk (Kd.V_reads' (e := 2) (base := w.heap.size) HL355_0.out).2.2; have BK356 := n4_; have HB := n5_; clear n0_ n1_ n2_ n3_ n4_ n5_; have hcz29_0 : w28.cell? ⟨gb356, 0, none⟩ = some (.slice A355_0 ((rd_T26 l2 x40_2).f0).length c355_0) := (blk_cell BK356.out 0).trans rfl; have hcz29_1 : w28.cell? ⟨gb356, 1, none⟩ = some (.int .i64 ((rd_T26 l2 x40_2).f1)) := (blk_cell BK356.out 1).trans rfl; have hfz29_0 := blk_frozen BK356.out 0; have hfz29_1 := blk_frozen BK356.out 1) | ((with_reducible refine gate_callee (f := 33) rfl ?_); refine goesL_ (some 49) rfl rfl Try.func33 (by kernel_rfl) rfl #[.slice A0 l0.length c0, .slice A355_0 ((rd_T26 l2 x40_2).f0).length c355_0, .int .i64 a1] rfl (by (try simp only [List.map_toArray, List.map_cons, List.map_nil]); first | done | rfl | (simp only [List.length_drop, List.length_take]; rfl)) ?_; (with_reducible refine (linear_Tell.calls _ _ l0 (fun k_ => ((P2_ k_ ∨ w.heap.size ≤ k_) ∧ (some k_ ≠ (u8 : Value).ownBlock ∧ k_ ≠ gb356))) _ _ ((rd_T26 l2 x40_2).f0) a1 t357 t358 _ ?side1 ?side2 ?side3 A16.out).mono ?_); (case side1 => repeat (first | exact (Kd.C_below HR0.out HB.out) | (with_reducible refine Kd.C_alloc ?_ _) | (with_reducible refine Kd.C_drewN ?_ _) | (with_reducible refine Kd.C_drew ?_))); (case side2 => exact HC0.out); (case side3 => exact Kd.V_mk HC355_0.out (Kd.V_F (e := 2) (base := w.heap.size) HL355_0.out)); rintro e w30 ⟨rfl, hb⟩; refine ⟨_, rfl, ?_⟩; have n0_ := Aside0.mk (Kd.V_below (by (with_reducible repeat (first | apply Kd.V_alloc | apply Kd.V_drewN | apply Kd.V_drew)); exact HO_2.out) hb); have n1_ := Aside0.mk (Kd.N_below (by (with_reducible repeat (first | apply Kd.N_alloc | apply Kd.N_drewN | apply Kd.N_drew)); exact HO_8.out) hb); have n2_ := Aside0.mk (Kd.V_below (by (with_reducible repeat (first | apply Kd.V_alloc | apply Kd.V_drewN | apply Kd.V_drew)); exact HO_38.out) hb); have n3_ := Aside0.mk (Kd.V_below (by (with_reducible repeat (first | apply Kd.V_alloc | apply Kd.V_drewN | apply Kd.V_drew)); exact HL355_0.out) hb); have n4_ := Aside0.mk (Kd.C_below (by repeat (first | (with_reducible exact HR355_0.out) | (with_reducible refine Kd.C_alloc ?_ _) | (with_reducible refine Kd.C_drewN ?_ _) | (with_reducible refine Kd.C_drew ?_) | exact HR355_0.out)) hb); have n5_ := Aside0.mk (blk_below (g := gb356) (o := .cells #[.slice A355_0 ((rd_T26 l2 x40_2).f0).length c355_0, .int .i64 ((rd_T26 l2 x40_2).f1)] 26 (0, 0)) (by (with_reducible repeat (first | refine blk_drewN ?_ _ | refine blk_drew ?_ | refine blk_alloc ?_ _)); exact BK356.out) hb); have n6_ := Aside0.mk (below_step (by repeat (first | (with_reducible first | exact HB.out | apply below_alloc | apply pw_below_drewN | apply below_drew1 | refine below_set ?_ GE356.out) | exact HB.out)) hb); clear HO_2; clear HO_8; clear HO_38; clear HL355_0; clear HR355_0; clear BK356; clear HB; have HO_2 := n0_; have HO_8 := n1_; have HO_38 := n2_; have HL355_0 := n3_; have HR355_0 := Aside0.mk (Kd.V_reads' (e := 2) (base := w.heap.size) HL355_0.out).2.2; have HR355_0 := n4_; have BK356 := n5_; have HB := n6_; clear n0_ n1_ n2_ n3_ n4_ n5_ n6_; (try clear hb); (try clear hb2); (try clear hk); (try clear hi)))
                      go_ret
                      exact ⟨by first | rfl | (simp [errW_none, errW_some] <;> rfl) | (simp [*, errW_none, errW_some] <;> rfl), by repeat (first | (with_reducible first | exact HB.out | apply below_alloc | apply pw_below_drewN | apply below_drew1 | refine below_set ?_ GE356.out) | exact HB.out)⟩
                  · rw [if_neg c15] at H
                    exact absurd H (by simp)
                · rw [if_neg c14] at H
                  exact absurd H (by simp)
              · rw [if_neg c13] at H
                have c13b0 : decide (x40_2 < (l2.length : Int)) = false := decide_eq_false c13
                clear c13
                replace H := Option.bind_eq_some_iff.mp H
                obtain ⟨⟨t362, t363⟩, A310, H⟩ := H
                replace H : ((linear_Loss.f l0 a1 x8_2).bind fun bt366 => (if (l2.length : Int) > 64 then (thrumlaw14_LinearRight.j2 k2 l0 a1 l2 true t362 t363 bt366.1 bt366.2 true) else (if 0 < (l2.length : Int) then (thrumlaw14_LinearRight.j2 k2 l0 a1 l2 true t362 t363 bt366.1 bt366.2 ((l0.length : Int) != (wrap64 ((((rd_T26 l2 0).f0).length : Int) + 1)))) else (none)))) = some r := H
                have A31 := Aside0.mk A310
                clear A310
                replace H := Option.bind_eq_some_iff.mp H
                obtain ⟨⟨t366, t367⟩, A320, H⟩ := H
                replace H : (if (l2.length : Int) > 64 then (thrumlaw14_LinearRight.j2 k2 l0 a1 l2 true t362 t363 t366 t367 true) else (if 0 < (l2.length : Int) then (thrumlaw14_LinearRight.j2 k2 l0 a1 l2 true t362 t363 t366 t367 ((l0.length : Int) != (wrap64 ((((rd_T26 l2 0).f0).length : Int) + 1)))) else (none))) = some r := H
                have A32 := Aside0.mk A320
                clear A320
                have HC33 := Aside0.mk H
                clear H
                obtain ⟨Ao34, co34, eo34⟩ := Kd.N_slice HO_8.out
                subst eo34
                go_upto_region 17 with (first | ((with_reducible refine gate_callee (f := 71) rfl ?_); refine goesL_ (some 67) rfl rfl Try.func71 (by kernel_rfl) rfl #[.slice A0 l0.length c0, .int .i64 a1, .slice Ao34 x8_2.length co34] rfl (by (try simp only [List.map_toArray, List.map_cons, List.map_nil]); first | done | rfl | (simp only [List.length_drop, List.length_take]; rfl)) ?_; (with_reducible refine (linear_Grad.calls _ _ l0 a1 _ _ x8_2 t362 t363 _ ?side1 ?side2 ?side3 ?side4 A31.out).mono ?_); (case side1 => repeat (first | exact (Kd.C_below HR0.out HB.out) | (with_reducible refine Kd.C_alloc ?_ _) | (with_reducible refine Kd.C_drewN ?_ _) | (with_reducible refine Kd.C_drew ?_))); (case side2 => exact HC0.out); (case side3 => repeat (first | exact (Kd.N_reads' HO_8.out).2.2 | (with_reducible refine Kd.C_alloc ?_ _) | (with_reducible refine Kd.C_drewN ?_ _) | (with_reducible refine Kd.C_drew ?_))); (case side4 => exact (Kd.N_reads' HO_8.out).2.1); rintro e w35 ⟨v364, rfl, ho0, hb⟩; refine ⟨_, rfl, ?_⟩; have n0_ := Aside0.mk (Kd.V_elder' (by (with_reducible repeat (first | apply Kd.V_alloc | apply Kd.V_drewN | apply Kd.V_drew)); exact HO_2.out) (Kd.R_base ho0) hb); have n1_ := Aside0.mk (Kd.N_elder' (by (with_reducible repeat (first | apply Kd.N_alloc | apply Kd.N_drewN | apply Kd.N_drew)); exact HO_8.out) (Kd.R_base ho0) hb); have n2_ := Aside0.mk (Kd.V_elder' (by (with_reducible repeat (first | apply Kd.V_alloc | apply Kd.V_drewN | apply Kd.V_drew)); exact HO_38.out) (Kd.R_base ho0) hb); have n3_ := Aside0.mk (Kd.R_lower (Kd.R_newM (M := fun k_ => (w.heap.size ≤ k_)) ho0 (below_size (by repeat (first | (with_reducible first | exact HB.out | apply below_alloc | apply pw_below_drewN | apply below_drew1) | exact HB.out))) (fun k_ h_ => h_)) (below_size (by repeat (first | (with_reducible first | exact HB.out | apply below_alloc | apply pw_below_drewN | apply below_drew1) | exact HB.out)))); have n4_ := Aside0.mk (below_step (by repeat (first | (with_reducible first | exact HB.out | apply below_alloc | apply pw_below_drewN | apply below_drew1) | exact HB.out)) hb); clear HO_2; clear HO_8; clear HO_38; clear HB; have HO_2 := n0_; have HO_8 := n1_; have HO_38 := n2_; have HO365 := n3_; have HB := n4_; clear n0_ n1_ n2_ n3_ n4_; (try clear hb); (try clear hb2); (try clear hk); (try clear hi); (try clear ho0)) | ((with_reducible refine gate_callee (f := 73) rfl ?_); refine goesL_ (some 74) rfl rfl Try.func73 (by kernel_rfl) rfl #[.slice A0 l0.length c0, .int .i64 a1, .slice Ao34 x8_2.length co34] rfl (by (try simp only [List.map_toArray, List.map_cons, List.map_nil]); first | done | rfl | (simp only [List.length_drop, List.length_take]; rfl)) ?_; (with_reducible refine (linear_Loss.calls _ _ l0 a1 _ _ x8_2 t366 t367 _ ?side1 ?side2 ?side3 ?side4 A32.out).mono ?_); (case side1 => repeat (first | exact (Kd.C_below HR0.out HB.out) | (with_reducible refine Kd.C_alloc ?_ _) | (with_reducible refine Kd.C_drewN ?_ _) | (with_reducible refine Kd.C_drew ?_))); (case side2 => exact HC0.out); (case side3 => repeat (first | exact (Kd.N_reads' HO_8.out).2.2 | (with_reducible refine Kd.C_alloc ?_ _) | (with_reducible refine Kd.C_drewN ?_ _) | (with_reducible refine Kd.C_drew ?_))); (case side4 => exact (Kd.N_reads' HO_8.out).2.1); rintro e w36 ⟨rfl, hb⟩; refine ⟨_, rfl, ?_⟩; have n0_ := Aside0.mk (Kd.V_below (by (with_reducible repeat (first | apply Kd.V_alloc | apply Kd.V_drewN | apply Kd.V_drew)); exact HO_2.out) hb); have n1_ := Aside0.mk (Kd.N_below (by (with_reducible repeat (first | apply Kd.N_alloc | apply Kd.N_drewN | apply Kd.N_drew)); exact HO_8.out) hb); have n2_ := Aside0.mk (Kd.V_below (by (with_reducible repeat (first | apply Kd.V_alloc | apply Kd.V_drewN | apply Kd.V_drew)); exact HO_38.out) hb); have n3_ := Aside0.mk (Kd.R_below (by (with_reducible repeat (first | apply Kd.R_alloc | apply Kd.R_drewN | apply Kd.R_drew)); exact HO365.out) hb); have n4_ := Aside0.mk (below_step (by repeat (first | (with_reducible first | exact HB.out | apply below_alloc | apply pw_below_drewN | apply below_drew1) | exact HB.out)) hb); clear HO_2; clear HO_8; clear HO_38; clear HO365; clear HB; have HO_2 := n0_; have HO_8 := n1_; have HO_38 := n2_; have HO365 := n3_; have HB := n4_; clear n0_ n1_ n2_ n3_ n4_; (try clear hb); (try clear hb2); (try clear hk); (try clear hi)))
                (try simp only [Act.put, List.setIfInBounds_toArray, List.set_cons_zero, List.set_cons_succ])
                go_cut [90] (fun v90 wc => ∃ (kq : Nat) (x90_32 : Bool), v90 = .bool x90_32 ∧ Aside0 (thrumlaw14_LinearRight.j2 kq l0 a1 l2 true t362 t363 t366 t367 x90_32 = some r) ∧ Aside0 (kq ≤ k2) ∧ Aside0 (Kd.V k26 26 wc w.heap.size (fun k_ => (P2_ k_ ∨ w.heap.size ≤ k_) ∧ some k_ ≠ (v364 : Value).ownBlock) (.slice A2 l2.length c2) l2) ∧ Aside0 (Kd.R (Kd.int .i64) 2 wc w.heap.size (fun k_ => (w.heap.size ≤ k_)) v364 t362) ∧ Aside0 (Below w.heap.size w wc))
                case first =>
                  have H := HC33.out
                  clear HC33
                  by_cases c37 : (l2.length : Int) > 64
                  · rw [if_pos c37] at H
                    have c37b0 : decide (64 < (l2.length : Int)) = true := decide_eq_true c37
                    have c37b1 : decide (64 < l2.length) = true := decide_eq_true (by omega)
                    clear c37
                    (first | rw [c37b0] | (simp only [i64_w, i32_w]; rw [c37b0]) | skip)
                    have H' := Aside0.mk H
                    clear H
                    go_wp2
                    go_meet
                    case rel => exact ⟨_, (true), (by first | rfl | (simp; done) | (simp [*]; done)), H', ⟨by have := HJ5.out; have := HK2.out; first | omega | exact Nat.le_refl _⟩, ⟨by (with_reducible repeat (first | apply Kd.V_alloc | apply Kd.V_drewN | apply Kd.V_drew)); exact Kd.V_mono HO_2.out (fun _ hk => ⟨hk.1.1, hk.2⟩)⟩, ⟨by (with_reducible repeat (first | apply Kd.R_alloc | apply Kd.R_drewN | apply Kd.R_drew)); exact Kd.R_mono HO365.out (fun _ hk => hk.1)⟩, ⟨by repeat (first | (with_reducible first | exact HB.out | apply below_alloc | apply pw_below_drewN | apply below_drew1) | exact HB.out)⟩⟩
                  · rw [if_neg c37] at H
                    have c37b0 : decide (64 < (l2.length : Int)) = false := decide_eq_false c37
                    have c37b1 : decide (64 < l2.length) = false := decide_eq_false (by omega)
                    clear c37
                    (first | rw [c37b0] | (simp only [i64_w, i32_w]; rw [c37b0]) | skip)
                    by_cases c38 : 0 < (l2.length : Int)
                    · rw [if_pos c38] at H
                      have c38b0 : decide (0 < (l2.length : Int)) = true := decide_eq_true c38
                      have c38b1 : decide (0 < l2.length) = true := decide_eq_true (by omega)
                      clear c38
                      have H' := Aside0.mk H
                      clear H
                      have p368 : 0 ≤ (0 : Int) := (by omega)
                      have q368 : 0 < (l2.length : Int) := of_decide_eq_true (by first | (with_reducible assumption) | assumption)
                      obtain ⟨ad368, A368_0, c368_0, e368, hx368_0, hx368_1, hl368_0, hi368_0⟩ := at_T26 (Kd.V_reads' HO_2.out).2.2 0 p368 q368
                      cases e368
                      obtain ⟨ce368, hce368, hMe368, hcc368⟩ := Kd.V_get HO_2.out z26 0 p368 (by first | exact q368 | exact of_decide_eq_true (by first | (with_reducible assumption) | assumption) | (have e_ := (Kd.V_reads' HO_2.out).1; omega))
                      obtain ⟨ua368_0, uc368_0, rfl, ul368_0, ge368_0⟩ := k26_openF hMe368
                      have hv368_0 := hcc368 0 _ rfl
                      rw [Nat.add_zero] at hv368_0
                      replace hv368_0 := Option.some.inj (hv368_0.symm.trans hx368_0)
                      injection hv368_0 with hva_ hvn_ hvc_
                      rw [hva_] at ge368_0
                      rw [hvc_] at ul368_0
                      have HL368_0 := Aside0.mk (show Kd.V (Kd.int .i64) 2 _ w.heap.size _ _ ((rd_T26 l2 0).f0) from Kd.V_mk ul368_0 ge368_0)
                      clear hva_ hvn_ hvc_ ge368_0 ul368_0
                      clear hcc368 hce368
                      have qi368 : (0 < l2.length) = True := eq_true (by omega)
                      (try rw [show ((0 : Int)).toNat = 0 from rfl] at hx368_0)
                      (try rw [show 0 * 2 = 0 from rfl] at hx368_0)
                      (try rw [Addr.add_zero'] at hx368_0)
                      (try rw [show ((0 : Int)).toNat = 0 from rfl] at hx368_1)
                      (try rw [show 0 * 2 = 0 from rfl] at hx368_1)
                      (try rw [Addr.add_zero'] at hx368_1)
                      have HR368_0 := Aside0.mk hi368_0
                      have HC368_0 := Aside0.mk hl368_0
                      clear hi368_0 hl368_0
                      replace p368 := eq_true p368
                      replace q368 := eq_true q368
                      go_wp2
                      go_meet
                      case rel => exact ⟨_, (((l0.length : Int) != (wrap64 ((((rd_T26 l2 0).f0).length : Int) + 1)))), (by first | rfl | (simp; done) | (simp [*]; done)), H', ⟨by have := HJ5.out; have := HK2.out; first | omega | exact Nat.le_refl _⟩, ⟨by (with_reducible repeat (first | apply Kd.V_alloc | apply Kd.V_drewN | apply Kd.V_drew)); exact Kd.V_mono HO_2.out (fun _ hk => ⟨hk.1.1, hk.2⟩)⟩, ⟨by (with_reducible repeat (first | apply Kd.R_alloc | apply Kd.R_drewN | apply Kd.R_drew)); exact Kd.R_mono HO365.out (fun _ hk => hk.1)⟩, ⟨by repeat (first | (with_reducible first | exact HB.out | apply below_alloc | apply pw_below_drewN | apply below_drew1) | exact HB.out)⟩⟩
                    · rw [if_neg c38] at H
                      exact absurd H (by simp)
                case rest =>
                  clear HC33
                  try clear c1
                  try clear c2
                  try clear p2
                  try clear c3
                  try clear p3
                  try clear q3
                  try clear hx3
                  try clear qi3
                  try clear c5
                  try clear c6
                  try clear p6
                  try clear c7
                  try clear c9
                  try clear c12
                  try clear c13
                  try clear c13b0
                  try clear c14
                  try clear c14b0
                  try clear c15
                  try clear c15b0
                  try clear c17
                  try clear c17b0
                  try clear c17b1
                  try clear c18
                  try clear c30
                  try clear c33
                  try clear c35
                  try clear p35
                  try clear q35
                  try clear hx35
                  try clear c36
                  try clear p36
                  try clear q36
                  try clear hx36
                  try clear qi36
                  try clear c37
                  try clear c37b0
                  try clear c37b1
                  try clear c38
                  try clear c38b0
                  try clear c38b1
                  try clear hcz20_0
                  try clear hcz20_1
                  try clear hcz22_0
                  try clear hcz22_1
                  try clear hcz24_0
                  try clear hcz24_1
                  try clear hcz27_0
                  try clear hcz27_1
                  try clear hcz29_0
                  try clear hcz29_1
                  try clear hfz20_0
                  try clear hfz20_1
                  try clear hfz22_0
                  try clear hfz22_1
                  try clear hfz24_0
                  try clear hfz24_1
                  try clear hfz27_0
                  try clear hfz27_1
                  try clear hfz29_0
                  try clear hfz29_1
                  try clear hx355_0
                  try clear hx355_1
                  try clear hx368_0
                  try clear hx368_1
                  try clear p2
                  try clear p355
                  try clear p368
                  try clear q355
                  try clear q368
                  obtain ⟨kq, x90_32, rfl, HA, HJ32, HO_2, HO_13, HB⟩ := hcut
                  cases kq with
                  | zero => exact absurd HA.out (by simp [thrumlaw14_LinearRight.j2])
                  | succ kj32 =>
                    have H := HA.out
                    clear HA
                    simp only [thrumlaw14_LinearRight.j2] at H
                    by_cases c39 : x90_32 = true
                    · subst c39
                      have H1 : (if true = true then (if t363 = 0 then (some false) else (some (t367 != 0))) else (some false)) = some r := by rw [if_pos rfl] at H; exact H
                      clear H
                      have H := H1
                      clear H1
                      first | rw [if_pos rfl] at H | rw [if_pos trivial] at H
                      by_cases c40 : t363 = 0
                      · rw [if_pos c40] at H
                        exact absurd (Option.some.inj H) (by rw [HR_.out]; decide)
                      · rw [if_neg c40] at H
                        have c40b0 : (t363 == 0) = false := beq_eq_false_iff_ne.mpr c40
                        have c40b1 : (t363 != 0) = true := bne_iff_ne.mpr c40
                        obtain rfl := Option.some.inj H
                        go_wp2
                        go_ret
                        exact ⟨by first | rfl | (simp [errW_none, errW_some] <;> rfl) | (simp [*, errW_none, errW_some] <;> rfl), by repeat (first | (with_reducible first | exact HB.out | apply below_alloc | apply pw_below_drewN | apply below_drew1) | exact HB.out)⟩
                    · replace c39 := Bool.eq_false_iff.mpr c39
                      subst c39
                      have H1 : (if t363 = 0 then (if t367 = 0 then (if t366 = 0 then (thrumlaw14_LinearRight.j3 kj32 l0 a1 l2 true t362 t363 t367 ((t362.length : Int) != (l0.length : Int))) else (thrumlaw14_LinearRight.j3 kj32 l0 a1 l2 true t362 t363 t367 true)) else (thrumlaw14_LinearRight.j3 kj32 l0 a1 l2 true t362 t363 t367 true)) else (thrumlaw14_LinearRight.j3 kj32 l0 a1 l2 true t362 t363 t367 true)) = some r := by rw [if_neg (show ¬ (false = true) by decide)] at H; exact H
                      clear H
                      have H := H1
                      clear H1
                      have HC41 := Aside0.mk H
                      clear H
                      go_upto_region 19 with (fail)
                      go_cut [116] (fun v116 wc => ∃ (kq : Nat) (x116_40 : Bool), v116 = .bool x116_40 ∧ Aside0 (thrumlaw14_LinearRight.j3 kq l0 a1 l2 true t362 t363 t367 x116_40 = some r) ∧ Aside0 (kq ≤ kj32) ∧ Aside0 (Kd.V k26 26 wc w.heap.size (fun k_ => (P2_ k_ ∨ w.heap.size ≤ k_) ∧ some k_ ≠ (v364 : Value).ownBlock) (.slice A2 l2.length c2) l2) ∧ Aside0 (Kd.R (Kd.int .i64) 2 wc w.heap.size (fun k_ => (w.heap.size ≤ k_)) v364 t362) ∧ Aside0 (Below w.heap.size w wc))
                      case first =>
                        have H := HC41.out
                        clear HC41
                        by_cases c42 : t363 = 0
                        · rw [if_pos c42] at H
                          have c42b0 : (t363 == 0) = true := beq_iff_eq.mpr c42
                          have c42b1 : (t363 != 0) = false := bne_eq_false_iff_eq.mpr c42
                          clear c42
                          (first | rw [c42b0] | (simp only [i64_w, i32_w]; rw [c42b0]) | skip)
                          by_cases c43 : t367 = 0
                          · rw [if_pos c43] at H
                            have c43b0 : (t367 == 0) = true := beq_iff_eq.mpr c43
                            have c43b1 : (t367 != 0) = false := bne_eq_false_iff_eq.mpr c43
                            clear c43
                            by_cases c44 : t366 = 0
                            · rw [if_pos c44] at H
                              have c44b0 : (t366 == 0) = true := beq_iff_eq.mpr c44
                              have c44b1 : (t366 != 0) = false := bne_eq_false_iff_eq.mpr c44
                              clear c44
                              have H' := Aside0.mk H
                              clear H
                              obtain ⟨Ao45, co45, eo45⟩ := Kd.R_slice HO_13.out
                              subst eo45
                              go_wp2
                              go_meet
                              case rel => exact ⟨_, (((t362.length : Int) != (l0.length : Int))), (by first | rfl | (simp; done) | (simp [*]; done)), H', ⟨by have := HJ5.out; have := HK2.out; have := HJ32.out; first | omega | exact Nat.le_refl _⟩, ⟨by (with_reducible repeat (first | apply Kd.V_alloc | apply Kd.V_drewN | apply Kd.V_drew)); exact HO_2.out⟩, ⟨by (with_reducible repeat (first | apply Kd.R_alloc | apply Kd.R_drewN | apply Kd.R_drew)); exact HO_13.out⟩, ⟨by repeat (first | (with_reducible first | exact HB.out | apply below_alloc | apply pw_below_drewN | apply below_drew1) | exact HB.out)⟩⟩
                            · rw [if_neg c44] at H
                              have c44b0 : (t366 == 0) = false := beq_eq_false_iff_ne.mpr c44
                              have c44b1 : (t366 != 0) = true := bne_iff_ne.mpr c44
                              have H' := Aside0.mk H
                              clear H
                              go_wp2
                              go_meet
                              case rel => exact ⟨_, (true), (by first | rfl | (simp; done) | (simp [*]; done)), H', ⟨by have := HJ5.out; have := HK2.out; have := HJ32.out; first | omega | exact Nat.le_refl _⟩, ⟨by (with_reducible repeat (first | apply Kd.V_alloc | apply Kd.V_drewN | apply Kd.V_drew)); exact HO_2.out⟩, ⟨by (with_reducible repeat (first | apply Kd.R_alloc | apply Kd.R_drewN | apply Kd.R_drew)); exact HO_13.out⟩, ⟨by repeat (first | (with_reducible first | exact HB.out | apply below_alloc | apply pw_below_drewN | apply below_drew1) | exact HB.out)⟩⟩
                          · rw [if_neg c43] at H
                            have c43b0 : (t367 == 0) = false := beq_eq_false_iff_ne.mpr c43
                            have c43b1 : (t367 != 0) = true := bne_iff_ne.mpr c43
                            have H' := Aside0.mk H
                            clear H
                            go_wp2
                            go_meet
                            case rel => exact ⟨_, (true), (by first | rfl | (simp; done) | (simp [*]; done)), H', ⟨by have := HJ5.out; have := HK2.out; have := HJ32.out; first | omega | exact Nat.le_refl _⟩, ⟨by (with_reducible repeat (first | apply Kd.V_alloc | apply Kd.V_drewN | apply Kd.V_drew)); exact HO_2.out⟩, ⟨by (with_reducible repeat (first | apply Kd.R_alloc | apply Kd.R_drewN | apply Kd.R_drew)); exact HO_13.out⟩, ⟨by repeat (first | (with_reducible first | exact HB.out | apply below_alloc | apply pw_below_drewN | apply below_drew1) | exact HB.out)⟩⟩
                        · rw [if_neg c42] at H
                          have c42b0 : (t363 == 0) = false := beq_eq_false_iff_ne.mpr c42
                          have c42b1 : (t363 != 0) = true := bne_iff_ne.mpr c42
                          (first | rw [c42b0] | (simp only [i64_w, i32_w]; rw [c42b0]) | skip)
                          have H' := Aside0.mk H
                          clear H
                          go_wp2
                          go_meet
                          case rel => exact ⟨_, (true), (by first | rfl | (simp; done) | (simp [*]; done)), H', ⟨by have := HJ5.out; have := HK2.out; have := HJ32.out; first | omega | exact Nat.le_refl _⟩, ⟨by (with_reducible repeat (first | apply Kd.V_alloc | apply Kd.V_drewN | apply Kd.V_drew)); exact HO_2.out⟩, ⟨by (with_reducible repeat (first | apply Kd.R_alloc | apply Kd.R_drewN | apply Kd.R_drew)); exact HO_13.out⟩, ⟨by repeat (first | (with_reducible first | exact HB.out | apply below_alloc | apply pw_below_drewN | apply below_drew1) | exact HB.out)⟩⟩
                      case rest =>
                        clear HC41
                        try clear c1
                        try clear c2
                        try clear p2
                        try clear c3
                        try clear p3
                        try clear q3
                        try clear hx3
                        try clear qi3
                        try clear c4
                        try clear c5
                        try clear c6
                        try clear p6
                        try clear c7
                        try clear c9
                        try clear c12
                        try clear c13
                        try clear c13b0
                        try clear c14
                        try clear c14b0
                        try clear c15
                        try clear c15b0
                        try clear c17
                        try clear c17b0
                        try clear c17b1
                        try clear c18
                        try clear c30
                        try clear c33
                        try clear c35
                        try clear p35
                        try clear q35
                        try clear hx35
                        try clear c36
                        try clear p36
                        try clear q36
                        try clear hx36
                        try clear qi36
                        try clear c37
                        try clear c37b0
                        try clear c37b1
                        try clear c38
                        try clear c38b0
                        try clear c38b1
                        try clear c39
                        try clear c40
                        try clear c40b0
                        try clear c40b1
                        try clear c42
                        try clear c42b0
                        try clear c42b1
                        try clear c43
                        try clear c43b0
                        try clear c43b1
                        try clear c44
                        try clear c44b0
                        try clear c44b1
                        try clear hcz20_0
                        try clear hcz20_1
                        try clear hcz22_0
                        try clear hcz22_1
                        try clear hcz24_0
                        try clear hcz24_1
                        try clear hcz27_0
                        try clear hcz27_1
                        try clear hcz29_0
                        try clear hcz29_1
                        try clear hfz20_0
                        try clear hfz20_1
                        try clear hfz22_0
                        try clear hfz22_1
                        try clear hfz24_0
                        try clear hfz24_1
                        try clear hfz27_0
                        try clear hfz27_1
                        try clear hfz29_0
                        try clear hfz29_1
                        try clear hx355_0
                        try clear hx355_1
                        try clear hx368_0
                        try clear hx368_1
                        try clear p2
                        try clear p3
                        try clear p35
                        try clear p355
                        try clear p36
                        try clear p368
                        try clear p6
                        try clear q3
                        try clear q35
                        try clear q355
                        try clear q36
                        try clear q368
                        obtain ⟨kq, x116_40, rfl, HA, HJ40, HO_2, HO_13, HB⟩ := hcut
                        cases kq with
                        | zero => exact absurd HA.out (by simp [thrumlaw14_LinearRight.j3])
                        | succ kj40 =>
                          have H := HA.out
                          clear HA
                          simp only [thrumlaw14_LinearRight.j3] at H
                          by_cases c46 : x116_40 = true
                          · subst c46
                            have H1 : (if true = true then (if t363 = 4 then (some (t363 == t367)) else (some false)) else (some false)) = some r := by rw [if_pos rfl] at H; exact H
                            clear H
                            have H := H1
                            clear H1
                            first | rw [if_pos rfl] at H | rw [if_pos trivial] at H
                            by_cases c47 : t363 = 4
                            · rw [if_pos c47] at H
                              have c47b0 : (t363 == 4) = true := beq_iff_eq.mpr c47
                              have c47b1 : (t363 != 4) = false := bne_eq_false_iff_eq.mpr c47
                              clear c47
                              obtain rfl := Option.some.inj H
                              go_wp2
                              go_ret
                              exact ⟨by first | rfl | (simp [errW_none, errW_some] <;> rfl) | (simp [*, errW_none, errW_some] <;> rfl), by repeat (first | (with_reducible first | exact HB.out | apply below_alloc | apply pw_below_drewN | apply below_drew1) | exact HB.out)⟩
                            · rw [if_neg c47] at H
                              exact absurd (Option.some.inj H) (by rw [HR_.out]; decide)
                          · replace c46 := Bool.eq_false_iff.mpr c46
                            subst c46
                            have H1 : (thrumlaw14_LinearRight.l1 kj40 l0 a1 l2 true t362 (t362.length : Int) 0) = some r := by rw [if_neg (show ¬ (false = true) by decide)] at H; exact H
                            clear H
                            have H := H1
                            clear H1
                            have H' := Aside0.mk H
                            clear H
                            obtain ⟨Ao48, co48, eo48⟩ := Kd.R_slice HO_13.out
                            subst eo48
                            go_wp2
                            go_loopg [129] kj40 (fun kq v129 w' => ∃ (x129_5 : Int), v129 = .int .i64 x129_5 ∧ Aside0 (thrumlaw14_LinearRight.l1 kq l0 a1 l2 true t362 (t362.length : Int) x129_5 = some r) ∧ Aside0 (kq ≤ kj40) ∧ Aside0 (Kd.V k26 26 w' w.heap.size (fun k_ => (P2_ k_ ∨ w.heap.size ≤ k_) ∧ some k_ ≠ ((.slice Ao48 t362.length co48) : Value).ownBlock) (.slice A2 l2.length c2) l2) ∧ Aside0 (Kd.R (Kd.int .i64) 2 w' w.heap.size (fun k_ => (w.heap.size ≤ k_)) (.slice Ao48 t362.length co48) t362) ∧ Aside0 (Below w.heap.size w w'))
                            case atStart => exact ⟨(0), (by first | rfl | (simp; done) | (simp [*]; done)), H', ⟨Nat.le_refl _⟩, ⟨by (with_reducible repeat (first | apply Kd.V_alloc | apply Kd.V_drewN | apply Kd.V_drew)); exact HO_2.out⟩, ⟨by (with_reducible repeat (first | apply Kd.R_alloc | apply Kd.R_drewN | apply Kd.R_drew)); exact HO_13.out⟩, ⟨by repeat (first | (with_reducible first | exact HB.out | apply below_alloc | apply pw_below_drewN | apply below_drew1) | exact HB.out)⟩⟩
                            case round =>
                              clear H'
                              try clear c1
                              try clear c2
                              try clear p2
                              try clear c3
                              try clear p3
                              try clear q3
                              try clear hx3
                              try clear qi3
                              try clear c4
                              try clear c5
                              try clear c6
                              try clear p6
                              try clear c7
                              try clear c9
                              try clear c12
                              try clear c13
                              try clear c13b0
                              try clear c14
                              try clear c14b0
                              try clear c15
                              try clear c15b0
                              try clear c17
                              try clear c17b0
                              try clear c17b1
                              try clear c18
                              try clear c30
                              try clear c33
                              try clear c35
                              try clear p35
                              try clear q35
                              try clear hx35
                              try clear c36
                              try clear p36
                              try clear q36
                              try clear hx36
                              try clear qi36
                              try clear c37
                              try clear c37b0
                              try clear c37b1
                              try clear c38
                              try clear c38b0
                              try clear c38b1
                              try clear c39
                              try clear c40
                              try clear c40b0
                              try clear c40b1
                              try clear c42
                              try clear c42b0
                              try clear c42b1
                              try clear c43
                              try clear c43b0
                              try clear c43b1
                              try clear c44
                              try clear c44b0
                              try clear c44b1
                              try clear c46
                              try clear c47
                              try clear c47b0
                              try clear c47b1
                              try clear hcz20_0
                              try clear hcz20_1
                              try clear hcz22_0
                              try clear hcz22_1
                              try clear hcz24_0
                              try clear hcz24_1
                              try clear hcz27_0
                              try clear hcz27_1
                              try clear hcz29_0
                              try clear hcz29_1
                              try clear hfz20_0
                              try clear hfz20_1
                              try clear hfz22_0
                              try clear hfz22_1
                              try clear hfz24_0
                              try clear hfz24_1
                              try clear hfz27_0
                              try clear hfz27_1
                              try clear hfz29_0
                              try clear hfz29_1
                              try clear hx355_0
                              try clear hx355_1
                              try clear hx368_0
                              try clear hx368_1
                              try clear p2
                              try clear p3
                              try clear p35
                              try clear p355
                              try clear p36
                              try clear p368
                              try clear p6
                              try clear q3
                              try clear q35
                              try clear q355
                              try clear q36
                              try clear q368
                              obtain ⟨x129_5, rfl, HA, HK5, HO_2, HO_127, HB⟩ := hrel
                              cases gk with
                              | zero => exact absurd HA.out (by simp [thrumlaw14_LinearRight.l1])
                              | succ k5 =>
                                have H := HA.out
                                clear HA
                                simp only [thrumlaw14_LinearRight.l1] at H
                                by_cases c49 : x129_5 < (t362.length : Int)
                                · rw [if_pos c49] at H
                                  have c49b0 : decide (x129_5 < (t362.length : Int)) = true := decide_eq_true c49
                                  clear c49
                                  by_cases c50 : 0 ≤ x129_5
                                  · rw [if_pos c50] at H
                                    have c50b0 : decide (0 ≤ x129_5) = true := decide_eq_true c50
                                    clear c50
                                    by_cases c51 : x129_5 < (t362.length : Int)
                                    · rw [if_pos c51] at H
                                      have c51b0 : decide (x129_5 < (t362.length : Int)) = true := decide_eq_true c51
                                      clear c51
                                      by_cases c52 : (rd t362 x129_5) = 0
                                      · rw [if_pos c52] at H
                                        have c52b0 : ((rd t362 x129_5) == 0) = true := beq_iff_eq.mpr c52
                                        have c52b1 : ((rd t362 x129_5) != 0) = false := bne_eq_false_iff_eq.mpr c52
                                        clear c52
                                        have H' := Aside0.mk H
                                        clear H
                                        have p369 : 0 ≤ (x129_5 : Int) := of_decide_eq_true (by first | (with_reducible assumption) | assumption)
                                        have q369 : x129_5 < (t362.length : Int) := of_decide_eq_true (by first | (with_reducible assumption) | assumption)
                                        obtain ⟨ad369, e369, hx369_0⟩ := Kd.at_int (Kd.R_reads' HO_127.out).2.2 x129_5 p369 q369
                                        cases e369
                                        replace p369 := eq_true p369
                                        replace q369 := eq_true q369
                                        go_wp2
                                        go_roundg k5
                                        case measure => have := HJ5.out; have := HK2.out; have := HJ32.out; have := HJ40.out; have := HK5.out; omega
                                        case rel => exact ⟨(wrap64 (x129_5 + 1)), (by first | rfl | (simp; done) | (simp [*]; done)), H', ⟨by have := HJ5.out; have := HK2.out; have := HJ32.out; have := HJ40.out; have := HK5.out; omega⟩, ⟨by (with_reducible repeat (first | apply Kd.V_alloc | apply Kd.V_drewN | apply Kd.V_drew)); exact HO_2.out⟩, ⟨by (with_reducible repeat (first | apply Kd.R_alloc | apply Kd.R_drewN | apply Kd.R_drew)); exact HO_127.out⟩, ⟨by repeat (first | (with_reducible first | exact HB.out | apply below_alloc | apply pw_below_drewN | apply below_drew1) | exact HB.out)⟩⟩
                                      · rw [if_neg c52] at H
                                        exact absurd (Option.some.inj H) (by rw [HR_.out]; decide)
                                    · rw [if_neg c51] at H
                                      exact absurd H (by simp)
                                  · rw [if_neg c50] at H
                                    exact absurd H (by simp)
                                · rw [if_neg c49] at H
                                  have c49b0 : decide (x129_5 < (t362.length : Int)) = false := decide_eq_false c49
                                  clear c49
                                  by_cases c53 : 0 < (l2.length : Int)
                                  · rw [if_pos c53] at H
                                    have c53b0 : decide (0 < (l2.length : Int)) = true := decide_eq_true c53
                                    have c53b1 : decide (0 < l2.length) = true := decide_eq_true (by omega)
                                    clear c53
                                    replace H := Option.bind_eq_some_iff.mp H
                                    obtain ⟨⟨t371, t372⟩, A540, H⟩ := H
                                    replace H : ((linear_Grad.f l0 a1 (([(⟨(rd_T26 l2 0).f0, (rd_T26 l2 0).f1⟩ : S26)] : List (S26)))).bind fun bt377 => ((vec_Scale.f ((rd_T26 l2 0).f0) t371 a1).bind fun bt382 => (if true = true then (if t372 = 0 then (if bt377.2 = bt382.2 then (if bt377.2 = 0 then (if bt382.1.length < 17592186044416 then ((thrumref02_Same.f bt377.1 (bt382.1 ++ [t371])).bind fun t389 => (some t389)) else (none)) else (some true)) else (some false)) else (some true)) else (some false)))) = some r := H
                                    have A54 := Aside0.mk A540
                                    clear A540
                                    obtain ⟨y374, hy374⟩ : ∃ y_ : List (S26), y_ = (([(⟨(rd_T26 l2 0).f0, (rd_T26 l2 0).f1⟩ : S26)] : List (S26))) := ⟨_, rfl⟩
                                    replace H : ((linear_Grad.f l0 a1 y374).bind fun bt377 => ((vec_Scale.f ((rd_T26 l2 0).f0) t371 a1).bind fun bt382 => (if true = true then (if t372 = 0 then (if bt377.2 = bt382.2 then (if bt377.2 = 0 then (if bt382.1.length < 17592186044416 then ((thrumref02_Same.f bt377.1 (bt382.1 ++ [t371])).bind fun t389 => (some t389)) else (none)) else (some true)) else (some false)) else (some true)) else (some false)))) = some r := by first | (rw [hy374]; with_reducible exact H) | (have H2_ := (Option.bind_some _ _).symm.trans H; rw [hy374]; with_reducible exact H2_) | (have H2_ := (Option.bind_some _ _).symm.trans H; with_reducible exact H2_) | with_reducible exact H | (rw [hy374]; exact H) | exact H
                                    have Ny374 := Aside0.mk hy374
                                    clear hy374
                                    replace H := Option.bind_eq_some_iff.mp H
                                    obtain ⟨⟨t377, t378⟩, A550, H⟩ := H
                                    replace H : ((vec_Scale.f ((rd_T26 l2 0).f0) t371 a1).bind fun bt382 => (if true = true then (if t372 = 0 then (if t378 = bt382.2 then (if t378 = 0 then (if bt382.1.length < 17592186044416 then ((thrumref02_Same.f t377 (bt382.1 ++ [t371])).bind fun t389 => (some t389)) else (none)) else (some true)) else (some false)) else (some true)) else (some false))) = some r := H
                                    have A55 := Aside0.mk A550
                                    clear A550
                                    replace H := Option.bind_eq_some_iff.mp H
                                    obtain ⟨⟨t382, t383⟩, A560, H⟩ := H
                                    replace H : (if true = true then (if t372 = 0 then (if t378 = t383 then (if t378 = 0 then (if t382.length < 17592186044416 then ((thrumref02_Same.f t377 (t382 ++ [t371])).bind fun t389 => (some t389)) else (none)) else (some true)) else (some false)) else (some true)) else (some false)) = some r := H
                                    have A56 := Aside0.mk A560
                                    clear A560
                                    first | rw [if_pos rfl] at H | rw [if_pos trivial] at H
                                    by_cases c57 : t372 = 0
                                    · rw [if_pos c57] at H
                                      have c57b0 : (t372 == 0) = true := beq_iff_eq.mpr c57
                                      have c57b1 : (t372 != 0) = false := bne_eq_false_iff_eq.mpr c57
                                      clear c57
                                      by_cases c58 : t378 = t383
                                      · rw [if_pos c58] at H
                                        have c58b0 : (t378 == t383) = true := beq_iff_eq.mpr c58
                                        have c58b1 : (t378 != t383) = false := bne_eq_false_iff_eq.mpr c58
                                        clear c58
                                        by_cases c59 : t378 = 0
                                        · rw [if_pos c59] at H
                                          have c59b0 : (t378 == 0) = true := beq_iff_eq.mpr c59
                                          have c59b1 : (t378 != 0) = false := bne_eq_false_iff_eq.mpr c59
                                          clear c59
                                          by_cases c60 : t382.length < 17592186044416
                                          · rw [if_pos c60] at H
                                            have LMc60 := Aside0.mk c60
                                            clear c60
                                            obtain ⟨y386, hy386⟩ : ∃ y_ : List Int, y_ = (t382 ++ [t371]) := ⟨_, rfl⟩
                                            replace H : ((thrumref02_Same.f t377 y386).bind fun t389 => (some t389)) = some r := by first | (rw [hy386]; with_reducible exact H) | (have H2_ := (Option.bind_some _ _).symm.trans H; rw [hy386]; with_reducible exact H2_) | (have H2_ := (Option.bind_some _ _).symm.trans H; with_reducible exact H2_) | with_reducible exact H | (rw [hy386]; exact H) | exact H
                                            have Ny386 := Aside0.mk hy386
                                            clear hy386
                                            replace H := Option.bind_eq_some_iff.mp H
                                            obtain ⟨t389, A610, H⟩ := H
                                            replace H : (some t389) = some r := H
                                            have A61 := Aside0.mk A610
                                            clear A610
                                            obtain rfl := Option.some.inj H
                                            have p370 : 0 ≤ (0 : Int) := (by omega)
                                            have q370 : 0 < (l2.length : Int) := of_decide_eq_true (by first | (with_reducible assumption) | assumption)
                                            obtain ⟨ad370, A370_0, c370_0, e370, hx370_0, hx370_1, hl370_0, hi370_0⟩ := at_T26 (Kd.V_reads' HO_2.out).2.2 0 p370 q370
                                            cases e370
                                            obtain ⟨ce370, hce370, hMe370, hcc370⟩ := Kd.V_get HO_2.out z26 0 p370 (by first | exact q370 | exact of_decide_eq_true (by first | (with_reducible assumption) | assumption) | (have e_ := (Kd.V_reads' HO_2.out).1; omega))
                                            obtain ⟨ua370_0, uc370_0, rfl, ul370_0, ge370_0⟩ := k26_openF hMe370
                                            have hv370_0 := hcc370 0 _ rfl
                                            rw [Nat.add_zero] at hv370_0
                                            replace hv370_0 := Option.some.inj (hv370_0.symm.trans hx370_0)
                                            injection hv370_0 with hva_ hvn_ hvc_
                                            rw [hva_] at ge370_0
                                            rw [hvc_] at ul370_0
                                            have HL370_0 := Aside0.mk (show Kd.V (Kd.int .i64) 2 _ w.heap.size _ _ ((rd_T26 l2 0).f0) from Kd.V_mk ul370_0 ge370_0)
                                            clear hva_ hvn_ hvc_ ge370_0 ul370_0
                                            clear hcc370 hce370
                                            have qi370 : (0 < l2.length) = True := eq_true (by omega)
                                            (try rw [show ((0 : Int)).toNat = 0 from rfl] at hx370_0)
                                            (try rw [show 0 * 2 = 0 from rfl] at hx370_0)
                                            (try rw [Addr.add_zero'] at hx370_0)
                                            (try rw [show ((0 : Int)).toNat = 0 from rfl] at hx370_1)
                                            (try rw [show 0 * 2 = 0 from rfl] at hx370_1)
                                            (try rw [Addr.add_zero'] at hx370_1)
                                            have HR370_0 := Aside0.mk hi370_0
                                            have HC370_0 := Aside0.mk hl370_0
                                            clear hi370_0 hl370_0
                                            replace p370 := eq_true p370
                                            replace q370 := eq_true q370
                                            go_wp2_with (first | ((with_reducible refine gate_callee (f := 63) rfl ?_); refine goesL_ (some 142) rfl rfl Try.func63 (by kernel_rfl) rfl #[.slice A0 l0.length c0, .agg #[.slice A370_0 ((rd_T26 l2 0).f0).length c370_0, .int .i64 ((rd_T26 l2 0).f1)], .int .i64 a1] rfl (by (try simp only [List.map_toArray, List.map_cons, List.map_nil]); first | done | rfl | (simp only [List.length_drop, List.length_take]; rfl)) ?_; (with_reducible refine (linear_Off.calls _ _ l0 _ _ ((rd_T26 l2 0).f0) ((rd_T26 l2 0).f1) a1 t371 t372 _ ?side1 ?side2 ?side3 ?side4 A54.out).mono ?_); (case side1 => repeat (first | exact (Kd.C_below HR0.out HB.out) | (with_reducible refine Kd.C_alloc ?_ _) | (with_reducible refine Kd.C_drewN ?_ _) | (with_reducible refine Kd.C_drew ?_))); (case side2 => exact HC0.out); (case side3 => repeat (first | exact (by repeat (first | (with_reducible exact HR370_0.out) | (with_reducible refine Kd.C_alloc ?_ _) | (with_reducible refine Kd.C_drewN ?_ _) | (with_reducible refine Kd.C_drew ?_) | exact HR370_0.out)) | (with_reducible refine Kd.C_alloc ?_ _) | (with_reducible refine Kd.C_drewN ?_ _) | (with_reducible refine Kd.C_drew ?_))); (case side4 => exact HC370_0.out); rintro e w62 ⟨rfl, hb⟩; refine ⟨_, rfl, ?_⟩; have n0_ := Aside0.mk (Kd.V_below (by (with_reducible repeat (first | apply Kd.V_alloc | apply Kd.V_drewN | apply Kd.V_drew)); exact HO_2.out) hb); have n1_ := Aside0.mk (Kd.R_below (by (with_reducible repeat (first | apply Kd.R_alloc | apply Kd.R_drewN | apply Kd.R_drew)); exact HO_127.out) hb); have n2_ := Aside0.mk (Kd.V_below (by (with_reducible repeat (first | apply Kd.V_alloc | apply Kd.V_drewN | apply Kd.V_drew)); exact HL370_0.out) hb); have n3_ := Aside0.mk (Kd.C_below (by repeat (first | (with_reducible exact HR370_0.out) | (with_reducible refine Kd.C_alloc ?_ _) | (with_reducible refine Kd.C_drewN ?_ _) | (with_reducible refine Kd.C_drew ?_) | exact HR370_0.out)) hb); have n4_ := Aside0.mk (below_step (by repeat (first | (with_reducible first | exact HB.out | apply below_alloc | apply pw_below_drewN | apply below_drew1) | exact HB.out)) hb); clear HO_2; clear HO_127; clear HL370_0; clear HR370_0; clear HB; have HO_2 := n0_; have HO_127 := n1_; have HL370_0 := n2_; have HR370_0 := Aside0.mk (Kd.V_reads' (e := 2) (base := w.heap.size) HL370_0.out).2.2; have HR370_0 := n3_; have HB := n4_; clear n0_ n1_ n2_ n3_ n4_; (try clear hb); (try clear hb2); (try clear hk); (try clear hi); have p373 : 0 ≤ (0 : Int) := (by omega); have q373 : 0 < (l2.length : Int) := of_decide_eq_true (by first | (with_reducible assumption) | assumption); obtain ⟨ad373, A373_0, c373_0, e373, hx373_0, hx373_1, hl373_0, hi373_0⟩ := at_T26 (Kd.V_reads' HO_2.out).2.2 0 p373 q373; obtain rfl : ad370 = ad373 := (by injection e373); obtain ⟨ce373, hce373, hMe373, hcc373⟩ := Kd.V_get HO_2.out z26 0 p373 (by first | exact q373 | exact of_decide_eq_true (by first | (with_reducible assumption) | assumption) | (have e_ := (Kd.V_reads' HO_2.out).1; omega)); obtain ⟨ua373_0, uc373_0, rfl, ul373_0, ge373_0⟩ := k26_openF hMe373; have hv373_0 := hcc373 0 _ rfl; rw [Nat.add_zero] at hv373_0; replace hv373_0 := Option.some.inj (hv373_0.symm.trans hx373_0); injection hv373_0 with hva_ hvn_ hvc_; rw [hva_] at ge373_0; rw [hvc_] at ul373_0; have HL373_0 := Aside0.mk (show Kd.V (Kd.int .i64) 2 _ w.heap.size _ _ ((rd_T26 l2 0).f0) from Kd.V_mk ul373_0 ge373_0); clear hva_ hvn_ hvc_ ge373_0 ul373_0; clear hcc373 hce373; have qi373 : (0 < l2.length) = True := eq_true (by omega); (try rw [show ((0 : Int)).toNat = 0 from rfl] at hx373_0); (try rw [show 0 * 2 = 0 from rfl] at hx373_0); (try rw [Addr.add_zero'] at hx373_0); (try rw [show ((0 : Int)).toNat = 0 from rfl] at hx373_1); (try rw [show 0 * 2 = 0 from rfl] at hx373_1); (try rw [Addr.add_zero'] at hx373_1); have HR373_0 := Aside0.mk hi373_0; have HC373_0 := Aside0.mk hl373_0; clear hi373_0 hl373_0; replace p373 := eq_true p373; replace q373 := eq_true q373) | ((with_reducible refine gate_dst (N := 151) rfl ?_); (try (refine gate_guard (by rfl) ?_; dsimp only)); refine Kd.N_lit k26 _ 26 ?hg (N' := 151) ?hd (xs := ([(⟨(rd_T26 l2 0).f0, (rd_T26 l2 0).f1⟩ : S26)] : List (S26))) (inner := [.slice A373_0 ((rd_T26 l2 0).f0).length c373_0, .int .i64 ((rd_T26 l2 0).f1)]) (ok := (fun k_ => (P2_ k_ ∨ w.heap.size ≤ k_) ∧ some k_ ≠ (.slice Ao48 t362.length co48 : Value).ownBlock)) (okp := (fun k_ => (P2_ k_ ∨ w.heap.size ≤ k_) ∧ some k_ ≠ (.slice Ao48 t362.length co48 : Value).ownBlock)) ?hr ?hp (fun _ hk => hk) ((show ∀ k_, w62.heap.size ≤ k_ → (fun k_ => (P2_ k_ ∨ w.heap.size ≤ k_) ∧ some k_ ≠ (.slice Ao48 t362.length co48 : Value).ownBlock) k_ from fun k_ hk => ⟨(.inr (Nat.le_trans (below_size (by repeat (first | (with_reducible first | exact HB.out | apply below_alloc | apply pw_below_drewN | apply below_drew1) | exact HB.out))) hk)), Kd.fresh' (Kd.R_lt (by (with_reducible repeat (first | apply Kd.R_alloc | apply Kd.R_drewN | apply Kd.R_drew)); exact HO_127.out)) k_ hk⟩) _ (Nat.le_refl _)) (Below.refl _ _) (Nat.le_refl _) (by simp) ?_; (case hd => rfl); (case hg => rfl); (case hr => first | (go_simp; done) | (go_simp; rfl)); (case hp => exact (Reps.c2 (show Kd.FK k26 _ _ (⟨(rd_T26 l2 0).f0, (rd_T26 l2 0).f1⟩ : S26) [.slice A373_0 ((rd_T26 l2 0).f0).length c373_0, .int .i64 ((rd_T26 l2 0).f1)] from (k26_mkF _ _ (⟨(rd_T26 l2 0).f0, (rd_T26 l2 0).f1⟩ : S26) (Kd.V_reads' (Kd.V_mono (ok' := (fun k_ => (P2_ k_ ∨ w.heap.size ≤ k_) ∧ some k_ ≠ (.slice Ao48 t362.length co48 : Value).ownBlock)) (HL373_0.out) (fun k_ hk => ⟨hk.1, hk.2⟩))).2.1 (Kd.V_F (Kd.V_mono (ok' := (fun k_ => (P2_ k_ ∨ w.heap.size ≤ k_) ∧ some k_ ≠ (.slice Ao48 t362.length co48 : Value).ownBlock)) (HL373_0.out) (fun k_ hk => ⟨hk.1, hk.2⟩))))) (Reps.none _ _))); intro v375 w63 ho64 hb hg_ hnew_; clear hg_ hnew_; (first | rw [← Ny374.out] at ho64 | (simp only [Int.reduceToNat] at ho64; rw [← Ny374.out] at ho64)); have n0_ := Aside0.mk (Kd.V_elder' (by (with_reducible repeat (first | apply Kd.V_alloc | apply Kd.V_drewN | apply Kd.V_drew)); exact HO_2.out) (Kd.N_base ho64) hb); have n1_ := Aside0.mk (Kd.R_below (by (with_reducible repeat (first | apply Kd.R_alloc | apply Kd.R_drewN | apply Kd.R_drew)); exact HO_127.out) hb); have n2_ := Aside0.mk (Kd.V_elder' (by (with_reducible repeat (first | apply Kd.V_alloc | apply Kd.V_drewN | apply Kd.V_drew)); exact HL370_0.out) (Kd.N_base ho64) hb); have n3_ := Aside0.mk (Kd.V_elder' (by (with_reducible repeat (first | apply Kd.V_alloc | apply Kd.V_drewN | apply Kd.V_drew)); exact HL373_0.out) (Kd.N_base ho64) hb); have n4_ := Aside0.mk (Kd.N_lower ho64 (below_size (by repeat (first | (with_reducible first | exact HB.out | apply below_alloc | apply pw_below_drewN | apply below_drew1) | exact HB.out)))); have n5_ := Aside0.mk (Kd.C_below (by repeat (first | (with_reducible exact HR370_0.out) | (with_reducible refine Kd.C_alloc ?_ _) | (with_reducible refine Kd.C_drewN ?_ _) | (with_reducible refine Kd.C_drew ?_) | exact HR370_0.out)) hb); have n6_ := Aside0.mk (Kd.C_below (by repeat (first | (with_reducible exact HR373_0.out) | (with_reducible refine Kd.C_alloc ?_ _) | (with_reducible refine Kd.C_drewN ?_ _) | (with_reducible refine Kd.C_drew ?_) | exact HR373_0.out)) hb); have n7_ := Aside0.mk (below_step (by repeat (first | (with_reducible first | exact HB.out | apply below_alloc | apply pw_below_drewN | apply below_drew1) | exact HB.out)) hb); clear HO_2; clear HO_127; clear HL370_0; clear HL373_0; clear HR370_0; clear HR373_0; clear HB; have HO_2 := n0_; have HO_127 := n1_; have HL370_0 := n2_; have HR370_0 := Aside0.mk (Kd.V_reads' (e := 2) (base := w.heap.size) HL370_0.out).2.2; have HL373_0 := n3_; have HR373_0 := Aside0.mk (Kd.V_reads' (e := 2) (base := w.heap.size) HL373_0.out).2.2; have HO376 := n4_; have HR370_0 := n5_; have HR373_0 := n6_; have HB := n7_; clear n0_ n1_ n2_ n3_ n4_ n5_ n6_ n7_; clear hb ho64; obtain ⟨Ao65, co65, eo65⟩ := Kd.N_slice HO376.out; subst eo65) | ((with_reducible refine gate_callee (f := 71) rfl ?_); refine goesL_ (some 152) rfl rfl Try.func71 (by kernel_rfl) rfl #[.slice A0 l0.length c0, .int .i64 a1, .slice Ao65 y374.length co65] rfl (by (try simp only [List.map_toArray, List.map_cons, List.map_nil]); first | done | rfl | (simp only [List.length_drop, List.length_take]; rfl)) ?_; (with_reducible refine (linear_Grad.calls _ _ l0 a1 _ _ y374 t377 t378 _ ?side1 ?side2 ?side3 ?side4 A55.out).mono ?_); (case side1 => repeat (first | exact (Kd.C_below HR0.out HB.out) | (with_reducible refine Kd.C_alloc ?_ _) | (with_reducible refine Kd.C_drewN ?_ _) | (with_reducible refine Kd.C_drew ?_))); (case side2 => exact HC0.out); (case side3 => repeat (first | exact (Kd.N_reads' HO376.out).2.2 | (with_reducible refine Kd.C_alloc ?_ _) | (with_reducible refine Kd.C_drewN ?_ _) | (with_reducible refine Kd.C_drew ?_))); (case side4 => exact (Kd.N_reads' HO376.out).2.1); rintro e w66 ⟨v379, rfl, ho0, hb⟩; refine ⟨_, rfl, ?_⟩; have n0_ := Aside0.mk (Kd.V_elder' (by (with_reducible repeat (first | apply Kd.V_alloc | apply Kd.V_drewN | apply Kd.V_drew)); exact HO_2.out) (Kd.R_base ho0) hb); have n1_ := Aside0.mk (Kd.R_elder' (by (with_reducible repeat (first | apply Kd.R_alloc | apply Kd.R_drewN | apply Kd.R_drew)); exact HO_127.out) (Kd.R_base ho0) hb); have n2_ := Aside0.mk (Kd.V_elder' (by (with_reducible repeat (first | apply Kd.V_alloc | apply Kd.V_drewN | apply Kd.V_drew)); exact HL370_0.out) (Kd.R_base ho0) hb); have n3_ := Aside0.mk (Kd.V_elder' (by (with_reducible repeat (first | apply Kd.V_alloc | apply Kd.V_drewN | apply Kd.V_drew)); exact HL373_0.out) (Kd.R_base ho0) hb); have n4_ := Aside0.mk (Kd.N_elder' (by (with_reducible repeat (first | apply Kd.N_alloc | apply Kd.N_drewN | apply Kd.N_drew)); exact HO376.out) (Kd.R_base ho0) hb); have n5_ := Aside0.mk (Kd.R_lower (Kd.R_new' (Kd.R_newM (M := fun k_ => (w.heap.size ≤ k_)) ho0 (below_size (by repeat (first | (with_reducible first | exact HB.out | apply below_alloc | apply pw_below_drewN | apply below_drew1) | exact HB.out))) (fun k_ h_ => h_)) (Kd.R_lt (by (with_reducible repeat (first | apply Kd.R_alloc | apply Kd.R_drewN | apply Kd.R_drew)); exact HO_127.out))) (below_size (by repeat (first | (with_reducible first | exact HB.out | apply below_alloc | apply pw_below_drewN | apply below_drew1) | exact HB.out)))); have n6_ := Aside0.mk (Kd.C_below (by repeat (first | (with_reducible exact HR370_0.out) | (with_reducible refine Kd.C_alloc ?_ _) | (with_reducible refine Kd.C_drewN ?_ _) | (with_reducible refine Kd.C_drew ?_) | exact HR370_0.out)) hb); have n7_ := Aside0.mk (Kd.C_below (by repeat (first | (with_reducible exact HR373_0.out) | (with_reducible refine Kd.C_alloc ?_ _) | (with_reducible refine Kd.C_drewN ?_ _) | (with_reducible refine Kd.C_drew ?_) | exact HR373_0.out)) hb); have n8_ := Aside0.mk (below_step (by repeat (first | (with_reducible first | exact HB.out | apply below_alloc | apply pw_below_drewN | apply below_drew1) | exact HB.out)) hb); clear HO_2; clear HO_127; clear HL370_0; clear HL373_0; clear HO376; clear HR370_0; clear HR373_0; clear HB; have HO_2 := n0_; have HO_127 := n1_; have HL370_0 := n2_; have HR370_0 := Aside0.mk (Kd.V_reads' (e := 2) (base := w.heap.size) HL370_0.out).2.2; have HL373_0 := n3_; have HR373_0 := Aside0.mk (Kd.V_reads' (e := 2) (base := w.heap.size) HL373_0.out).2.2; have HO376 := n4_; have HO380 := n5_; have HR370_0 := n6_; have HR373_0 := n7_; have HB := n8_; clear n0_ n1_ n2_ n3_ n4_ n5_ n6_ n7_ n8_; (try clear hb); (try clear hb2); (try clear hk); (try clear hi); (try clear ho0); have p381 : 0 ≤ (0 : Int) := (by omega); have q381 : 0 < (l2.length : Int) := of_decide_eq_true (by first | (with_reducible assumption) | assumption); obtain ⟨ad381, A381_0, c381_0, e381, hx381_0, hx381_1, hl381_0, hi381_0⟩ := at_T26 (Kd.V_reads' HO_2.out).2.2 0 p381 q381; obtain rfl : ad370 = ad381 := (by injection e381); obtain ⟨ce381, hce381, hMe381, hcc381⟩ := Kd.V_get HO_2.out z26 0 p381 (by first | exact q381 | exact of_decide_eq_true (by first | (with_reducible assumption) | assumption) | (have e_ := (Kd.V_reads' HO_2.out).1; omega)); obtain ⟨ua381_0, uc381_0, rfl, ul381_0, ge381_0⟩ := k26_openF hMe381; have hv381_0 := hcc381 0 _ rfl; rw [Nat.add_zero] at hv381_0; replace hv381_0 := Option.some.inj (hv381_0.symm.trans hx381_0); injection hv381_0 with hva_ hvn_ hvc_; rw [hva_] at ge381_0; rw [hvc_] at ul381_0; have HL381_0 := Aside0.mk (show Kd.V (Kd.int .i64) 2 _ w.heap.size _ _ ((rd_T26 l2 0).f0) from Kd.V_mk ul381_0 ge381_0); clear hva_ hvn_ hvc_ ge381_0 ul381_0; clear hcc381 hce381; have qi381 : (0 < l2.length) = True := eq_true (by omega); (try rw [show ((0 : Int)).toNat = 0 from rfl] at hx381_0); (try rw [show 0 * 2 = 0 from rfl] at hx381_0); (try rw [Addr.add_zero'] at hx381_0); (try rw [show ((0 : Int)).toNat = 0 from rfl] at hx381_1); (try rw [show 0 * 2 = 0 from rfl] at hx381_1); (try rw [Addr.add_zero'] at hx381_1); have HR381_0 := Aside0.mk hi381_0; have HC381_0 := Aside0.mk hl381_0; clear hi381_0 hl381_0; replace p381 := eq_true p381; replace q381 := eq_true q381) | ((with_reducible refine gate_callee (f := 75) rfl ?_); refine goesL_ (some 162) rfl rfl Try.func75 (by kernel_rfl) rfl #[.slice A381_0 ((rd_T26 l2 0).f0).length c381_0, .int .i64 t371, .int .i64 a1] rfl (by (try simp only [List.map_toArray, List.map_cons, List.map_nil]); first | done | rfl | (simp only [List.length_drop, List.length_take]; rfl)) ?_; (with_reducible refine (vec_Scale.calls _ _ ((rd_T26 l2 0).f0) t371 a1 t382 t383 _ ?side1 ?side2 A56.out).mono ?_); (case side1 => repeat (first | exact (by repeat (first | (with_reducible exact HR381_0.out) | (with_reducible refine Kd.C_alloc ?_ _) | (with_reducible refine Kd.C_drewN ?_ _) | (with_reducible refine Kd.C_drew ?_) | exact HR381_0.out)) | (with_reducible refine Kd.C_alloc ?_ _) | (with_reducible refine Kd.C_drewN ?_ _) | (with_reducible refine Kd.C_drew ?_))); (case side2 => exact HC381_0.out); rintro e w67 ⟨v384, rfl, ho0, hb⟩; refine ⟨_, rfl, ?_⟩; have n0_ := Aside0.mk (Kd.V_elder' (by (with_reducible repeat (first | apply Kd.V_alloc | apply Kd.V_drewN | apply Kd.V_drew)); exact HO_2.out) (Kd.R_base ho0) hb); have n1_ := Aside0.mk (Kd.R_elder' (by (with_reducible repeat (first | apply Kd.R_alloc | apply Kd.R_drewN | apply Kd.R_drew)); exact HO_127.out) (Kd.R_base ho0) hb); have n2_ := Aside0.mk (Kd.V_elder' (by (with_reducible repeat (first | apply Kd.V_alloc | apply Kd.V_drewN | apply Kd.V_drew)); exact HL370_0.out) (Kd.R_base ho0) hb); have n3_ := Aside0.mk (Kd.V_elder' (by (with_reducible repeat (first | apply Kd.V_alloc | apply Kd.V_drewN | apply Kd.V_drew)); exact HL373_0.out) (Kd.R_base ho0) hb); have n4_ := Aside0.mk (Kd.N_elder' (by (with_reducible repeat (first | apply Kd.N_alloc | apply Kd.N_drewN | apply Kd.N_drew)); exact HO376.out) (Kd.R_base ho0) hb); have n5_ := Aside0.mk (Kd.R_elder' (by (with_reducible repeat (first | apply Kd.R_alloc | apply Kd.R_drewN | apply Kd.R_drew)); exact HO380.out) (Kd.R_base ho0) hb); have n6_ := Aside0.mk (Kd.V_elder' (by (with_reducible repeat (first | apply Kd.V_alloc | apply Kd.V_drewN | apply Kd.V_drew)); exact HL381_0.out) (Kd.R_base ho0) hb); have n7_ := Aside0.mk (Kd.R_lower (Kd.R_new' (Kd.R_new' (Kd.R_newM (M := fun k_ => (w.heap.size ≤ k_)) ho0 (below_size (by repeat (first | (with_reducible first | exact HB.out | apply below_alloc | apply pw_below_drewN | apply below_drew1) | exact HB.out))) (fun k_ h_ => h_)) (Kd.R_lt (by (with_reducible repeat (first | apply Kd.R_alloc | apply Kd.R_drewN | apply Kd.R_drew)); exact HO_127.out))) (Kd.R_lt (by (with_reducible repeat (first | apply Kd.R_alloc | apply Kd.R_drewN | apply Kd.R_drew)); exact HO380.out))) (below_size (by repeat (first | (with_reducible first | exact HB.out | apply below_alloc | apply pw_below_drewN | apply below_drew1) | exact HB.out)))); have n8_ := Aside0.mk (Kd.C_below (by repeat (first | (with_reducible exact HR370_0.out) | (with_reducible refine Kd.C_alloc ?_ _) | (with_reducible refine Kd.C_drewN ?_ _) | (with_reducible refine Kd.C_drew ?_) | exact HR370_0.out)) hb); have n9_ := Aside0.mk (Kd.C_below (by repeat (first | (with_reducible exact HR373_0.out) | (with_reducible refine Kd.C_alloc ?_ _) | (with_reducible refine Kd.C_drewN ?_ _) | (with_reducible refine Kd.C_drew ?_) | exact HR373_0.out)) hb); have n10_ := Aside0.mk (Kd.C_below (by repeat (first | (with_reducible exact HR381_0.out) | (with_reducible refine Kd.C_alloc ?_ _) | (with_reducible refine Kd.C_drewN ?_ _) | (with_reducible refine Kd.C_drew ?_) | exact HR381_0.out)) hb); have n11_ := Aside0.mk (below_step (by repeat (first | (with_reducible first | exact HB.out | apply below_alloc | apply pw_below_drewN | apply below_drew1) | exact HB.out)) hb); clear HO_2; clear HO_127; clear HL370_0; clear HL373_0; clear HO376; clear HO380; clear HL381_0; clear HR370_0; clear HR373_0; clear HR381_0; clear HB; have HO_2 := n0_; have HO_127 := n1_; have HL370_0 := n2_; have HR370_0 := Aside0.mk (Kd.V_reads' (e := 2) (base := w.heap.size) HL370_0.out).2.2; have HL373_0 := n3_; have HR373_0 := Aside0.mk (Kd.V_reads' (e := 2) (base := w.heap.size) HL373_0.out).2.2; have HO376 := n4_; have HO380 := n5_; have HL381_0 := n6_; have HR381_0 := Aside0.mk (Kd.V_reads' (e := 2) (base := w.heap.size) HL381_0.out).2.2; have HO385 := n7_; have HR370_0 := n8_; have HR373_0 := n9_; have HR381_0 := n10_; have HB := n11_; clear n0_ n1_ n2_ n3_ n4_ n5_ n6_ n7_ n8_ n9_ n10_ n11_; (try clear hb); (try clear hb2); (try clear hk); (try clear hi); (try clear ho0)) | ((with_reducible refine gate_builtin (b := .append) (xs := #[.tmp 178, .tmp 180]) rfl ?_); (try (refine gate_guard (by rfl) ?_; dsimp only)); at_builtin; refine Kd.R_append (Kd.int .i64) (w0 := w) w.heap.size rfl (.tmp 178) (.tmp 180) 22 2 (.int .i64 0) 8 rfl Try.underlying22 info2 rfl (by decide) (by omega) v384 t382 t371 [.int .i64 t371] (fun k_ => (w.heap.size ≤ k_) ∧ some k_ ≠ (.slice Ao48 t362.length co48 : Value).ownBlock ∧ some k_ ≠ (v379 : Value).ownBlock) (fun _ => False) rfl rfl ?aP (fun _ hk => hk.elim) ?aF ?aO ?aB ?aS ?aL ?_; (case aP => exact rfl); (case aB => exact (by repeat (first | (with_reducible first | exact HB.out | apply below_alloc | apply pw_below_drewN | apply below_drew1) | exact HB.out))); (case aF => exact (fun k_ hk => ⟨(Nat.le_trans (below_size (by repeat (first | (with_reducible first | exact HB.out | apply below_alloc | apply pw_below_drewN | apply below_drew1) | exact HB.out))) hk), Kd.fresh' (Kd.R_lt (by (with_reducible repeat (first | apply Kd.R_alloc | apply Kd.R_drewN | apply Kd.R_drew)); exact HO_127.out)) k_ hk, Kd.fresh' (Kd.R_lt (by (with_reducible repeat (first | apply Kd.R_alloc | apply Kd.R_drewN | apply Kd.R_drew)); exact HO380.out)) k_ hk⟩)); (case aO => exact (by (with_reducible repeat (first | apply Kd.R_alloc | apply Kd.R_drewN | apply Kd.R_drew)); exact Kd.R_mono HO385.out (fun _ hk => ⟨hk.1.1.1, ⟨hk.1.2, hk.2⟩⟩))); (case aS => exact (below_size (by repeat (first | (with_reducible first | exact HB.out | apply below_alloc | apply pw_below_drewN | apply below_drew1) | exact HB.out)))); (case aL => have := LMc60.out; omega); intro v387 w68 ho hb hg hat; rw [← Ny386.out] at ho; have n0_ := Aside0.mk (Kd.V_afterv (ok := (fun k_ => (P2_ k_ ∨ w.heap.size ≤ k_) ∧ some k_ ≠ (.slice Ao48 t362.length co48 : Value).ownBlock ∧ some k_ ≠ (.slice Ao65 y374.length co65 : Value).ownBlock ∧ some k_ ≠ (v379 : Value).ownBlock)) (by (with_reducible repeat (first | apply Kd.V_alloc | apply Kd.V_drewN | apply Kd.V_drew)); exact Kd.V_mono HO_2.out (fun _ hk => ⟨⟨hk.1.1.1.1, ⟨hk.1.1.1.2, ⟨hk.1.1.2, hk.1.2⟩⟩⟩, hk.2⟩)) hg hat); have n1_ := Aside0.mk (Kd.R_after (ok := (fun k_ => (w.heap.size ≤ k_) ∧ some k_ ≠ (v379 : Value).ownBlock)) (by (with_reducible repeat (first | apply Kd.R_alloc | apply Kd.R_drewN | apply Kd.R_drew)); exact HO_127.out) hg hat); have n2_ := Aside0.mk (Kd.V_afterv (ok := (fun k_ => (P2_ k_ ∨ w.heap.size ≤ k_) ∧ some k_ ≠ (.slice Ao48 t362.length co48 : Value).ownBlock ∧ some k_ ≠ (.slice Ao65 y374.length co65 : Value).ownBlock ∧ some k_ ≠ (v379 : Value).ownBlock)) (by (with_reducible repeat (first | apply Kd.V_alloc | apply Kd.V_drewN | apply Kd.V_drew)); exact Kd.V_mono HL370_0.out (fun _ hk => ⟨⟨hk.1.1.1.1, ⟨hk.1.1.1.2, ⟨hk.1.1.2, hk.1.2⟩⟩⟩, hk.2⟩)) hg hat); have n3_ := Aside0.mk (Kd.V_afterv (ok := (fun k_ => (P2_ k_ ∨ w.heap.size ≤ k_) ∧ some k_ ≠ (.slice Ao48 t362.length co48 : Value).ownBlock ∧ some k_ ≠ (.slice Ao65 y374.length co65 : Value).ownBlock ∧ some k_ ≠ (v379 : Value).ownBlock)) (by (with_reducible repeat (first | apply Kd.V_alloc | apply Kd.V_drewN | apply Kd.V_drew)); exact Kd.V_mono HL373_0.out (fun _ hk => ⟨⟨hk.1.1.1.1, ⟨hk.1.1.1.2, ⟨hk.1.1.2, hk.1.2⟩⟩⟩, hk.2⟩)) hg hat); have n4_ := Aside0.mk (Kd.N_afterv (ok := (fun k_ => (P2_ k_ ∨ w.heap.size ≤ k_) ∧ some k_ ≠ (.slice Ao48 t362.length co48 : Value).ownBlock ∧ some k_ ≠ (v379 : Value).ownBlock)) (by (with_reducible repeat (first | apply Kd.N_alloc | apply Kd.N_drewN | apply Kd.N_drew)); exact Kd.N_mono HO376.out (fun _ hk => ⟨⟨hk.1.1.1, ⟨hk.1.1.2, hk.1.2⟩⟩, hk.2⟩)) hg hat); have n5_ := Aside0.mk (Kd.R_after (ok := (fun k_ => (w.heap.size ≤ k_) ∧ some k_ ≠ (.slice Ao48 t362.length co48 : Value).ownBlock)) (by (with_reducible repeat (first | apply Kd.R_alloc | apply Kd.R_drewN | apply Kd.R_drew)); exact Kd.R_mono HO380.out (fun _ hk => ⟨⟨hk.1.1.1, hk.1.2⟩, hk.2⟩)) hg hat); have n6_ := Aside0.mk (Kd.V_afterv (ok := (fun k_ => (P2_ k_ ∨ w.heap.size ≤ k_) ∧ some k_ ≠ (.slice Ao48 t362.length co48 : Value).ownBlock ∧ some k_ ≠ (.slice Ao65 y374.length co65 : Value).ownBlock ∧ some k_ ≠ (v379 : Value).ownBlock)) (by (with_reducible repeat (first | apply Kd.V_alloc | apply Kd.V_drewN | apply Kd.V_drew)); exact Kd.V_mono HL381_0.out (fun _ hk => ⟨⟨hk.1.1.1.1, ⟨hk.1.1.1.2, ⟨hk.1.1.2, hk.1.2⟩⟩⟩, hk.2⟩)) hg hat); have n7_ := Aside0.mk (hb); have n8_ := Aside0.mk (ho); clear HO_2; clear HO_127; clear HL370_0; clear HL373_0; clear HO376; clear HO380; clear HL381_0; clear HB; clear HO385; have HO_2 := n0_; have HO_127 := n1_; have HL370_0 := n2_; have HR370_0 := Aside0.mk (Kd.V_reads' (e := 2) (base := w.heap.size) HL370_0.out).2.2; have HL373_0 := n3_; have HR373_0 := Aside0.mk (Kd.V_reads' (e := 2) (base := w.heap.size) HL373_0.out).2.2; have HO376 := n4_; have HO380 := n5_; have HL381_0 := n6_; have HR381_0 := Aside0.mk (Kd.V_reads' (e := 2) (base := w.heap.size) HL381_0.out).2.2; have HB := n7_; have HO388 := n8_; clear n0_ n1_ n2_ n3_ n4_ n5_ n6_ n7_ n8_; clear ho hb hg hat; obtain ⟨Ao69, co69, eo69⟩ := Kd.R_slice HO380.out; subst eo69; obtain ⟨Ao70, co70, eo70⟩ := Kd.R_slice HO388.out; subst eo70) | (go_at_call 44; (with_reducible refine (thrumref02_Same.calls _ _ t377 _ _ y386 t389 _ ?side1 ?side2 ?side3 ?side4 A61.out).mono ?_); (case side1 => repeat (first | exact (Kd.R_reads' HO380.out).2.2 | (with_reducible refine Kd.C_alloc ?_ _) | (with_reducible refine Kd.C_drewN ?_ _) | (with_reducible refine Kd.C_drew ?_))); (case side2 => exact (Kd.R_reads' HO380.out).2.1); (case side3 => repeat (first | exact (Kd.R_reads' HO388.out).2.2 | (with_reducible refine Kd.C_alloc ?_ _) | (with_reducible refine Kd.C_drewN ?_ _) | (with_reducible refine Kd.C_drew ?_))); (case side4 => exact (Kd.R_reads' HO388.out).2.1); rintro e w' ⟨rfl, ⟨nd, rfl⟩⟩))
                                            go_ret
                                            exact ⟨by first | rfl | (simp [errW_none, errW_some] <;> rfl) | (simp [*, errW_none, errW_some] <;> rfl), by repeat (first | (with_reducible first | exact HB.out | apply below_alloc | apply pw_below_drewN | apply below_drew1) | exact HB.out)⟩
                                          · rw [if_neg c60] at H
                                            exact absurd H (by simp)
                                        · rw [if_neg c59] at H
                                          have c59b0 : (t378 == 0) = false := beq_eq_false_iff_ne.mpr c59
                                          have c59b1 : (t378 != 0) = true := bne_iff_ne.mpr c59
                                          obtain rfl := Option.some.inj H
                                          have p370 : 0 ≤ (0 : Int) := (by omega)
                                          have q370 : 0 < (l2.length : Int) := of_decide_eq_true (by first | (with_reducible assumption) | assumption)
                                          obtain ⟨ad370, A370_0, c370_0, e370, hx370_0, hx370_1, hl370_0, hi370_0⟩ := at_T26 (Kd.V_reads' HO_2.out).2.2 0 p370 q370
                                          cases e370
                                          obtain ⟨ce370, hce370, hMe370, hcc370⟩ := Kd.V_get HO_2.out z26 0 p370 (by first | exact q370 | exact of_decide_eq_true (by first | (with_reducible assumption) | assumption) | (have e_ := (Kd.V_reads' HO_2.out).1; omega))
                                          obtain ⟨ua370_0, uc370_0, rfl, ul370_0, ge370_0⟩ := k26_openF hMe370
                                          have hv370_0 := hcc370 0 _ rfl
                                          rw [Nat.add_zero] at hv370_0
                                          replace hv370_0 := Option.some.inj (hv370_0.symm.trans hx370_0)
                                          injection hv370_0 with hva_ hvn_ hvc_
                                          rw [hva_] at ge370_0
                                          rw [hvc_] at ul370_0
                                          have HL370_0 := Aside0.mk (show Kd.V (Kd.int .i64) 2 _ w.heap.size _ _ ((rd_T26 l2 0).f0) from Kd.V_mk ul370_0 ge370_0)
                                          clear hva_ hvn_ hvc_ ge370_0 ul370_0
                                          clear hcc370 hce370
                                          have qi370 : (0 < l2.length) = True := eq_true (by omega)
                                          (try rw [show ((0 : Int)).toNat = 0 from rfl] at hx370_0)
                                          (try rw [show 0 * 2 = 0 from rfl] at hx370_0)
                                          (try rw [Addr.add_zero'] at hx370_0)
                                          (try rw [show ((0 : Int)).toNat = 0 from rfl] at hx370_1)
                                          (try rw [show 0 * 2 = 0 from rfl] at hx370_1)
                                          (try rw [Addr.add_zero'] at hx370_1)
                                          have HR370_0 := Aside0.mk hi370_0
                                          have HC370_0 := Aside0.mk hl370_0
                                          clear hi370_0 hl370_0
                                          replace p370 := eq_true p370
                                          replace q370 := eq_true q370
                                          go_wp2_with (first | ((with_reducible refine gate_callee (f := 63) rfl ?_); refine goesL_ (some 142) rfl rfl Try.func63 (by kernel_rfl) rfl #[.slice A0 l0.length c0, .agg #[.slice A370_0 ((rd_T26 l2 0).f0).length c370_0, .int .i64 ((rd_T26 l2 0).f1)], .int .i64 a1] rfl (by (try simp only [List.map_toArray, List.map_cons, List.map_nil]); first | done | rfl | (simp only [List.length_drop, List.length_take]; rfl)) ?_; (with_reducible refine (linear_Off.calls _ _ l0 _ _ ((rd_T26 l2 0).f0) ((rd_T26 l2 0).f1) a1 t371 t372 _ ?side1 ?side2 ?side3 ?side4 A54.out).mono ?_); (case side1 => repeat (first | exact (Kd.C_below HR0.out HB.out) | (with_reducible refine Kd.C_alloc ?_ _) | (with_reducible refine Kd.C_drewN ?_ _) | (with_reducible refine Kd.C_drew ?_))); (case side2 => exact HC0.out); (case side3 => repeat (first | exact (by repeat (first | (with_reducible exact HR370_0.out) | (with_reducible refine Kd.C_alloc ?_ _) | (with_reducible refine Kd.C_drewN ?_ _) | (with_reducible refine Kd.C_drew ?_) | exact HR370_0.out)) | (with_reducible refine Kd.C_alloc ?_ _) | (with_reducible refine Kd.C_drewN ?_ _) | (with_reducible refine Kd.C_drew ?_))); (case side4 => exact HC370_0.out); rintro e w71 ⟨rfl, hb⟩; refine ⟨_, rfl, ?_⟩; have n0_ := Aside0.mk (Kd.V_below (by (with_reducible repeat (first | apply Kd.V_alloc | apply Kd.V_drewN | apply Kd.V_drew)); exact HO_2.out) hb); have n1_ := Aside0.mk (Kd.R_below (by (with_reducible repeat (first | apply Kd.R_alloc | apply Kd.R_drewN | apply Kd.R_drew)); exact HO_127.out) hb); have n2_ := Aside0.mk (Kd.V_below (by (with_reducible repeat (first | apply Kd.V_alloc | apply Kd.V_drewN | apply Kd.V_drew)); exact HL370_0.out) hb); have n3_ := Aside0.mk (Kd.C_below (by repeat (first | (with_reducible exact HR370_0.out) | (with_reducible refine Kd.C_alloc ?_ _) | (with_reducible refine Kd.C_drewN ?_ _) | (with_reducible refine Kd.C_drew ?_) | exact HR370_0.out)) hb); have n4_ := Aside0.mk (below_step (by repeat (first | (with_reducible first | exact HB.out | apply below_alloc | apply pw_below_drewN | apply below_drew1) | exact HB.out)) hb); clear HO_2; clear HO_127; clear HL370_0; clear HR370_0; clear HB; have HO_2 := n0_; have HO_127 := n1_; have HL370_0 := n2_; have HR370_0 := Aside0.mk (Kd.V_reads' (e := 2) (base := w.heap.size) HL370_0.out).2.2; have HR370_0 := n3_; have HB := n4_; clear n0_ n1_ n2_ n3_ n4_; (try clear hb); (try clear hb2); (try clear hk); (try clear hi); have p373 : 0 ≤ (0 : Int) := (by omega); have q373 : 0 < (l2.length : Int) := of_decide_eq_true (by first | (with_reducible assumption) | assumption); obtain ⟨ad373, A373_0, c373_0, e373, hx373_0, hx373_1, hl373_0, hi373_0⟩ := at_T26 (Kd.V_reads' HO_2.out).2.2 0 p373 q373; obtain rfl : ad370 = ad373 := (by injection e373); obtain ⟨ce373, hce373, hMe373, hcc373⟩ := Kd.V_get HO_2.out z26 0 p373 (by first | exact q373 | exact of_decide_eq_true (by first | (with_reducible assumption) | assumption) | (have e_ := (Kd.V_reads' HO_2.out).1; omega)); obtain ⟨ua373_0, uc373_0, rfl, ul373_0, ge373_0⟩ := k26_openF hMe373; have hv373_0 := hcc373 0 _ rfl; rw [Nat.add_zero] at hv373_0; replace hv373_0 := Option.some.inj (hv373_0.symm.trans hx373_0); injection hv373_0 with hva_ hvn_ hvc_; rw [hva_] at ge373_0; rw [hvc_] at ul373_0; have HL373_0 := Aside0.mk (show Kd.V (Kd.int .i64) 2 _ w.heap.size _ _ ((rd_T26 l2 0).f0) from Kd.V_mk ul373_0 ge373_0); clear hva_ hvn_ hvc_ ge373_0 ul373_0; clear hcc373 hce373; have qi373 : (0 < l2.length) = True := eq_true (by omega); (try rw [show ((0 : Int)).toNat = 0 from rfl] at hx373_0); (try rw [show 0 * 2 = 0 from rfl] at hx373_0); (try rw [Addr.add_zero'] at hx373_0); (try rw [show ((0 : Int)).toNat = 0 from rfl] at hx373_1); (try rw [show 0 * 2 = 0 from rfl] at hx373_1); (try rw [Addr.add_zero'] at hx373_1); have HR373_0 := Aside0.mk hi373_0; have HC373_0 := Aside0.mk hl373_0; clear hi373_0 hl373_0; replace p373 := eq_true p373; replace q373 := eq_true q373) | ((with_reducible refine gate_dst (N := 151) rfl ?_); (try (refine gate_guard (by rfl) ?_; dsimp only)); refine Kd.N_lit k26 _ 26 ?hg (N' := 151) ?hd (xs := ([(⟨(rd_T26 l2 0).f0, (rd_T26 l2 0).f1⟩ : S26)] : List (S26))) (inner := [.slice A373_0 ((rd_T26 l2 0).f0).length c373_0, .int .i64 ((rd_T26 l2 0).f1)]) (ok := (fun k_ => (P2_ k_ ∨ w.heap.size ≤ k_) ∧ some k_ ≠ (.slice Ao48 t362.length co48 : Value).ownBlock)) (okp := (fun k_ => (P2_ k_ ∨ w.heap.size ≤ k_) ∧ some k_ ≠ (.slice Ao48 t362.length co48 : Value).ownBlock)) ?hr ?hp (fun _ hk => hk) ((show ∀ k_, w71.heap.size ≤ k_ → (fun k_ => (P2_ k_ ∨ w.heap.size ≤ k_) ∧ some k_ ≠ (.slice Ao48 t362.length co48 : Value).ownBlock) k_ from fun k_ hk => ⟨(.inr (Nat.le_trans (below_size (by repeat (first | (with_reducible first | exact HB.out | apply below_alloc | apply pw_below_drewN | apply below_drew1) | exact HB.out))) hk)), Kd.fresh' (Kd.R_lt (by (with_reducible repeat (first | apply Kd.R_alloc | apply Kd.R_drewN | apply Kd.R_drew)); exact HO_127.out)) k_ hk⟩) _ (Nat.le_refl _)) (Below.refl _ _) (Nat.le_refl _) (by simp) ?_; (case hd => rfl); (case hg => rfl); (case hr => first | (go_simp; done) | (go_simp; rfl)); (case hp => exact (Reps.c2 (show Kd.FK k26 _ _ (⟨(rd_T26 l2 0).f0, (rd_T26 l2 0).f1⟩ : S26) [.slice A373_0 ((rd_T26 l2 0).f0).length c373_0, .int .i64 ((rd_T26 l2 0).f1)] from (k26_mkF _ _ (⟨(rd_T26 l2 0).f0, (rd_T26 l2 0).f1⟩ : S26) (Kd.V_reads' (Kd.V_mono (ok' := (fun k_ => (P2_ k_ ∨ w.heap.size ≤ k_) ∧ some k_ ≠ (.slice Ao48 t362.length co48 : Value).ownBlock)) (HL373_0.out) (fun k_ hk => ⟨hk.1, hk.2⟩))).2.1 (Kd.V_F (Kd.V_mono (ok' := (fun k_ => (P2_ k_ ∨ w.heap.size ≤ k_) ∧ some k_ ≠ (.slice Ao48 t362.length co48 : Value).ownBlock)) (HL373_0.out) (fun k_ hk => ⟨hk.1, hk.2⟩))))) (Reps.none _ _))); intro v375 w72 ho73 hb hg_ hnew_; clear hg_ hnew_; (first | rw [← Ny374.out] at ho73 | (simp only [Int.reduceToNat] at ho73; rw [← Ny374.out] at ho73)); have n0_ := Aside0.mk (Kd.V_elder' (by (with_reducible repeat (first | apply Kd.V_alloc | apply Kd.V_drewN | apply Kd.V_drew)); exact HO_2.out) (Kd.N_base ho73) hb); have n1_ := Aside0.mk (Kd.R_below (by (with_reducible repeat (first | apply Kd.R_alloc | apply Kd.R_drewN | apply Kd.R_drew)); exact HO_127.out) hb); have n2_ := Aside0.mk (Kd.V_elder' (by (with_reducible repeat (first | apply Kd.V_alloc | apply Kd.V_drewN | apply Kd.V_drew)); exact HL370_0.out) (Kd.N_base ho73) hb); have n3_ := Aside0.mk (Kd.V_elder' (by (with_reducible repeat (first | apply Kd.V_alloc | apply Kd.V_drewN | apply Kd.V_drew)); exact HL373_0.out) (Kd.N_base ho73) hb); have n4_ := Aside0.mk (Kd.N_lower ho73 (below_size (by repeat (first | (with_reducible first | exact HB.out | apply below_alloc | apply pw_below_drewN | apply below_drew1) | exact HB.out)))); have n5_ := Aside0.mk (Kd.C_below (by repeat (first | (with_reducible exact HR370_0.out) | (with_reducible refine Kd.C_alloc ?_ _) | (with_reducible refine Kd.C_drewN ?_ _) | (with_reducible refine Kd.C_drew ?_) | exact HR370_0.out)) hb); have n6_ := Aside0.mk (Kd.C_below (by repeat (first | (with_reducible exact HR373_0.out) | (with_reducible refine Kd.C_alloc ?_ _) | (with_reducible refine Kd.C_drewN ?_ _) | (with_reducible refine Kd.C_drew ?_) | exact HR373_0.out)) hb); have n7_ := Aside0.mk (below_step (by repeat (first | (with_reducible first | exact HB.out | apply below_alloc | apply pw_below_drewN | apply below_drew1) | exact HB.out)) hb); clear HO_2; clear HO_127; clear HL370_0; clear HL373_0; clear HR370_0; clear HR373_0; clear HB; have HO_2 := n0_; have HO_127 := n1_; have HL370_0 := n2_; have HR370_0 := Aside0.mk (Kd.V_reads' (e := 2) (base := w.heap.size) HL370_0.out).2.2; have HL373_0 := n3_; have HR373_0 := Aside0.mk (Kd.V_reads' (e := 2) (base := w.heap.size) HL373_0.out).2.2; have HO376 := n4_; have HR370_0 := n5_; have HR373_0 := n6_; have HB := n7_; clear n0_ n1_ n2_ n3_ n4_ n5_ n6_ n7_; clear hb ho73; obtain ⟨Ao74, co74, eo74⟩ := Kd.N_slice HO376.out; subst eo74) | ((with_reducible refine gate_callee (f := 71) rfl ?_); refine goesL_ (some 152) rfl rfl Try.func71 (by kernel_rfl) rfl #[.slice A0 l0.length c0, .int .i64 a1, .slice Ao74 y374.length co74] rfl (by (try simp only [List.map_toArray, List.map_cons, List.map_nil]); first | done | rfl | (simp only [List.length_drop, List.length_take]; rfl)) ?_; (with_reducible refine (linear_Grad.calls _ _ l0 a1 _ _ y374 t377 t378 _ ?side1 ?side2 ?side3 ?side4 A55.out).mono ?_); (case side1 => repeat (first | exact (Kd.C_below HR0.out HB.out) | (with_reducible refine Kd.C_alloc ?_ _) | (with_reducible refine Kd.C_drewN ?_ _) | (with_reducible refine Kd.C_drew ?_))); (case side2 => exact HC0.out); (case side3 => repeat (first | exact (Kd.N_reads' HO376.out).2.2 | (with_reducible refine Kd.C_alloc ?_ _) | (with_reducible refine Kd.C_drewN ?_ _) | (with_reducible refine Kd.C_drew ?_))); (case side4 => exact (Kd.N_reads' HO376.out).2.1); rintro e w75 ⟨v379, rfl, ho0, hb⟩; refine ⟨_, rfl, ?_⟩; have n0_ := Aside0.mk (Kd.V_elder' (by (with_reducible repeat (first | apply Kd.V_alloc | apply Kd.V_drewN | apply Kd.V_drew)); exact HO_2.out) (Kd.R_base ho0) hb); have n1_ := Aside0.mk (Kd.R_elder' (by (with_reducible repeat (first | apply Kd.R_alloc | apply Kd.R_drewN | apply Kd.R_drew)); exact HO_127.out) (Kd.R_base ho0) hb); have n2_ := Aside0.mk (Kd.V_elder' (by (with_reducible repeat (first | apply Kd.V_alloc | apply Kd.V_drewN | apply Kd.V_drew)); exact HL370_0.out) (Kd.R_base ho0) hb); have n3_ := Aside0.mk (Kd.V_elder' (by (with_reducible repeat (first | apply Kd.V_alloc | apply Kd.V_drewN | apply Kd.V_drew)); exact HL373_0.out) (Kd.R_base ho0) hb); have n4_ := Aside0.mk (Kd.N_elder' (by (with_reducible repeat (first | apply Kd.N_alloc | apply Kd.N_drewN | apply Kd.N_drew)); exact HO376.out) (Kd.R_base ho0) hb); have n5_ := Aside0.mk (Kd.R_lower (Kd.R_new' (Kd.R_newM (M := fun k_ => (w.heap.size ≤ k_)) ho0 (below_size (by repeat (first | (with_reducible first | exact HB.out | apply below_alloc | apply pw_below_drewN | apply below_drew1) | exact HB.out))) (fun k_ h_ => h_)) (Kd.R_lt (by (with_reducible repeat (first | apply Kd.R_alloc | apply Kd.R_drewN | apply Kd.R_drew)); exact HO_127.out))) (below_size (by repeat (first | (with_reducible first | exact HB.out | apply below_alloc | apply pw_below_drewN | apply below_drew1) | exact HB.out)))); have n6_ := Aside0.mk (Kd.C_below (by repeat (first | (with_reducible exact HR370_0.out) | (with_reducible refine Kd.C_alloc ?_ _) | (with_reducible refine Kd.C_drewN ?_ _) | (with_reducible refine Kd.C_drew ?_) | exact HR370_0.out)) hb); have n7_ := Aside0.mk (Kd.C_below (by repeat (first | (with_reducible exact HR373_0.out) | (with_reducible refine Kd.C_alloc ?_ _) | (with_reducible refine Kd.C_drewN ?_ _) | (with_reducible refine Kd.C_drew ?_) | exact HR373_0.out)) hb); have n8_ := Aside0.mk (below_step (by repeat (first | (with_reducible first | exact HB.out | apply below_alloc | apply pw_below_drewN | apply below_drew1) | exact HB.out)) hb); clear HO_2; clear HO_127; clear HL370_0; clear HL373_0; clear HO376; clear HR370_0; clear HR373_0; clear HB; have HO_2 := n0_; have HO_127 := n1_; have HL370_0 := n2_; have HR370_0 := Aside0.mk (Kd.V_reads' (e := 2) (base := w.heap.size) HL370_0.out).2.2; have HL373_0 := n3_; have HR373_0 := Aside0.mk (Kd.V_reads' (e := 2) (base := w.heap.size) HL373_0.out).2.2; have HO376 := n4_; have HO380 := n5_; have HR370_0 := n6_; have HR373_0 := n7_; have HB := n8_; clear n0_ n1_ n2_ n3_ n4_ n5_ n6_ n7_ n8_; (try clear hb); (try clear hb2); (try clear hk); (try clear hi); (try clear ho0); have p381 : 0 ≤ (0 : Int) := (by omega); have q381 : 0 < (l2.length : Int) := of_decide_eq_true (by first | (with_reducible assumption) | assumption); obtain ⟨ad381, A381_0, c381_0, e381, hx381_0, hx381_1, hl381_0, hi381_0⟩ := at_T26 (Kd.V_reads' HO_2.out).2.2 0 p381 q381; obtain rfl : ad370 = ad381 := (by injection e381); obtain ⟨ce381, hce381, hMe381, hcc381⟩ := Kd.V_get HO_2.out z26 0 p381 (by first | exact q381 | exact of_decide_eq_true (by first | (with_reducible assumption) | assumption) | (have e_ := (Kd.V_reads' HO_2.out).1; omega)); obtain ⟨ua381_0, uc381_0, rfl, ul381_0, ge381_0⟩ := k26_openF hMe381; have hv381_0 := hcc381 0 _ rfl; rw [Nat.add_zero] at hv381_0; replace hv381_0 := Option.some.inj (hv381_0.symm.trans hx381_0); injection hv381_0 with hva_ hvn_ hvc_; rw [hva_] at ge381_0; rw [hvc_] at ul381_0; have HL381_0 := Aside0.mk (show Kd.V (Kd.int .i64) 2 _ w.heap.size _ _ ((rd_T26 l2 0).f0) from Kd.V_mk ul381_0 ge381_0); clear hva_ hvn_ hvc_ ge381_0 ul381_0; clear hcc381 hce381; have qi381 : (0 < l2.length) = True := eq_true (by omega); (try rw [show ((0 : Int)).toNat = 0 from rfl] at hx381_0); (try rw [show 0 * 2 = 0 from rfl] at hx381_0); (try rw [Addr.add_zero'] at hx381_0); (try rw [show ((0 : Int)).toNat = 0 from rfl] at hx381_1); (try rw [show 0 * 2 = 0 from rfl] at hx381_1); (try rw [Addr.add_zero'] at hx381_1); have HR381_0 := Aside0.mk hi381_0; have HC381_0 := Aside0.mk hl381_0; clear hi381_0 hl381_0; replace p381 := eq_true p381; replace q381 := eq_true q381) | ((with_reducible refine gate_callee (f := 75) rfl ?_); refine goesL_ (some 162) rfl rfl Try.func75 (by kernel_rfl) rfl #[.slice A381_0 ((rd_T26 l2 0).f0).length c381_0, .int .i64 t371, .int .i64 a1] rfl (by (try simp only [List.map_toArray, List.map_cons, List.map_nil]); first | done | rfl | (simp only [List.length_drop, List.length_take]; rfl)) ?_; (with_reducible refine (vec_Scale.calls _ _ ((rd_T26 l2 0).f0) t371 a1 t382 t383 _ ?side1 ?side2 A56.out).mono ?_); (case side1 => repeat (first | exact (by repeat (first | (with_reducible exact HR381_0.out) | (with_reducible refine Kd.C_alloc ?_ _) | (with_reducible refine Kd.C_drewN ?_ _) | (with_reducible refine Kd.C_drew ?_) | exact HR381_0.out)) | (with_reducible refine Kd.C_alloc ?_ _) | (with_reducible refine Kd.C_drewN ?_ _) | (with_reducible refine Kd.C_drew ?_))); (case side2 => exact HC381_0.out); rintro e w76 ⟨v384, rfl, ho0, hb⟩; refine ⟨_, rfl, ?_⟩; have n0_ := Aside0.mk (Kd.V_elder' (by (with_reducible repeat (first | apply Kd.V_alloc | apply Kd.V_drewN | apply Kd.V_drew)); exact HO_2.out) (Kd.R_base ho0) hb); have n1_ := Aside0.mk (Kd.R_elder' (by (with_reducible repeat (first | apply Kd.R_alloc | apply Kd.R_drewN | apply Kd.R_drew)); exact HO_127.out) (Kd.R_base ho0) hb); have n2_ := Aside0.mk (Kd.V_elder' (by (with_reducible repeat (first | apply Kd.V_alloc | apply Kd.V_drewN | apply Kd.V_drew)); exact HL370_0.out) (Kd.R_base ho0) hb); have n3_ := Aside0.mk (Kd.V_elder' (by (with_reducible repeat (first | apply Kd.V_alloc | apply Kd.V_drewN | apply Kd.V_drew)); exact HL373_0.out) (Kd.R_base ho0) hb); have n4_ := Aside0.mk (Kd.N_elder' (by (with_reducible repeat (first | apply Kd.N_alloc | apply Kd.N_drewN | apply Kd.N_drew)); exact HO376.out) (Kd.R_base ho0) hb); have n5_ := Aside0.mk (Kd.R_elder' (by (with_reducible repeat (first | apply Kd.R_alloc | apply Kd.R_drewN | apply Kd.R_drew)); exact HO380.out) (Kd.R_base ho0) hb); have n6_ := Aside0.mk (Kd.V_elder' (by (with_reducible repeat (first | apply Kd.V_alloc | apply Kd.V_drewN | apply Kd.V_drew)); exact HL381_0.out) (Kd.R_base ho0) hb); have n7_ := Aside0.mk (Kd.R_lower (Kd.R_new' (Kd.R_new' (Kd.R_newM (M := fun k_ => (w.heap.size ≤ k_)) ho0 (below_size (by repeat (first | (with_reducible first | exact HB.out | apply below_alloc | apply pw_below_drewN | apply below_drew1) | exact HB.out))) (fun k_ h_ => h_)) (Kd.R_lt (by (with_reducible repeat (first | apply Kd.R_alloc | apply Kd.R_drewN | apply Kd.R_drew)); exact HO_127.out))) (Kd.R_lt (by (with_reducible repeat (first | apply Kd.R_alloc | apply Kd.R_drewN | apply Kd.R_drew)); exact HO380.out))) (below_size (by repeat (first | (with_reducible first | exact HB.out | apply below_alloc | apply pw_below_drewN | apply below_drew1) | exact HB.out)))); have n8_ := Aside0.mk (Kd.C_below (by repeat (first | (with_reducible exact HR370_0.out) | (with_reducible refine Kd.C_alloc ?_ _) | (with_reducible refine Kd.C_drewN ?_ _) | (with_reducible refine Kd.C_drew ?_) | exact HR370_0.out)) hb); have n9_ := Aside0.mk (Kd.C_below (by repeat (first | (with_reducible exact HR373_0.out) | (with_reducible refine Kd.C_alloc ?_ _) | (with_reducible refine Kd.C_drewN ?_ _) | (with_reducible refine Kd.C_drew ?_) | exact HR373_0.out)) hb); have n10_ := Aside0.mk (Kd.C_below (by repeat (first | (with_reducible exact HR381_0.out) | (with_reducible refine Kd.C_alloc ?_ _) | (with_reducible refine Kd.C_drewN ?_ _) | (with_reducible refine Kd.C_drew ?_) | exact HR381_0.out)) hb); have n11_ := Aside0.mk (below_step (by repeat (first | (with_reducible first | exact HB.out | apply below_alloc | apply pw_below_drewN | apply below_drew1) | exact HB.out)) hb); clear HO_2; clear HO_127; clear HL370_0; clear HL373_0; clear HO376; clear HO380; clear HL381_0; clear HR370_0; clear HR373_0; clear HR381_0; clear HB; have HO_2 := n0_; have HO_127 := n1_; have HL370_0 := n2_; have HR370_0 := Aside0.mk (Kd.V_reads' (e := 2) (base := w.heap.size) HL370_0.out).2.2; have HL373_0 := n3_; have HR373_0 := Aside0.mk (Kd.V_reads' (e := 2) (base := w.heap.size) HL373_0.out).2.2; have HO376 := n4_; have HO380 := n5_; have HL381_0 := n6_; have HR381_0 := Aside0.mk (Kd.V_reads' (e := 2) (base := w.heap.size) HL381_0.out).2.2; have HO385 := n7_; have HR370_0 := n8_; have HR373_0 := n9_; have HR381_0 := n10_; have HB := n11_; clear n0_ n1_ n2_ n3_ n4_ n5_ n6_ n7_ n8_ n9_ n10_ n11_; (try clear hb); (try clear hb2); (try clear hk); (try clear hi); (try clear ho0)))
                                          go_ret
                                          exact ⟨by first | rfl | (simp [errW_none, errW_some] <;> rfl) | (simp [*, errW_none, errW_some] <;> rfl), by repeat (first | (with_reducible first | exact HB.out | apply below_alloc | apply pw_below_drewN | apply below_drew1) | exact HB.out)⟩
                                      · rw [if_neg c58] at H
                                        exact absurd (Option.some.inj H) (by rw [HR_.out]; decide)
                                    · rw [if_neg c57] at H
                                      have c57b0 : (t372 == 0) = false := beq_eq_false_iff_ne.mpr c57
                                      have c57b1 : (t372 != 0) = true := bne_iff_ne.mpr c57
                                      obtain rfl := Option.some.inj H
                                      have p370 : 0 ≤ (0 : Int) := (by omega)
                                      have q370 : 0 < (l2.length : Int) := of_decide_eq_true (by first | (with_reducible assumption) | assumption)
                                      obtain ⟨ad370, A370_0, c370_0, e370, hx370_0, hx370_1, hl370_0, hi370_0⟩ := at_T26 (Kd.V_reads' HO_2.out).2.2 0 p370 q370
                                      cases e370
                                      obtain ⟨ce370, hce370, hMe370, hcc370⟩ := Kd.V_get HO_2.out z26 0 p370 (by first | exact q370 | exact of_decide_eq_true (by first | (with_reducible assumption) | assumption) | (have e_ := (Kd.V_reads' HO_2.out).1; omega))
                                      obtain ⟨ua370_0, uc370_0, rfl, ul370_0, ge370_0⟩ := k26_openF hMe370
                                      have hv370_0 := hcc370 0 _ rfl
                                      rw [Nat.add_zero] at hv370_0
                                      replace hv370_0 := Option.some.inj (hv370_0.symm.trans hx370_0)
                                      injection hv370_0 with hva_ hvn_ hvc_
                                      rw [hva_] at ge370_0
                                      rw [hvc_] at ul370_0
                                      have HL370_0 := Aside0.mk (show Kd.V (Kd.int .i64) 2 _ w.heap.size _ _ ((rd_T26 l2 0).f0) from Kd.V_mk ul370_0 ge370_0)
                                      clear hva_ hvn_ hvc_ ge370_0 ul370_0
                                      clear hcc370 hce370
                                      have qi370 : (0 < l2.length) = True := eq_true (by omega)
                                      (try rw [show ((0 : Int)).toNat = 0 from rfl] at hx370_0)
                                      (try rw [show 0 * 2 = 0 from rfl] at hx370_0)
                                      (try rw [Addr.add_zero'] at hx370_0)
                                      (try rw [show ((0 : Int)).toNat = 0 from rfl] at hx370_1)
                                      (try rw [show 0 * 2 = 0 from rfl] at hx370_1)
                                      (try rw [Addr.add_zero'] at hx370_1)
                                      have HR370_0 := Aside0.mk hi370_0
                                      have HC370_0 := Aside0.mk hl370_0
                                      clear hi370_0 hl370_0
                                      replace p370 := eq_true p370
                                      replace q370 := eq_true q370
                                      go_wp2_with (first | ((with_reducible refine gate_callee (f := 63) rfl ?_); refine goesL_ (some 142) rfl rfl Try.func63 (by kernel_rfl) rfl #[.slice A0 l0.length c0, .agg #[.slice A370_0 ((rd_T26 l2 0).f0).length c370_0, .int .i64 ((rd_T26 l2 0).f1)], .int .i64 a1] rfl (by (try simp only [List.map_toArray, List.map_cons, List.map_nil]); first | done | rfl | (simp only [List.length_drop, List.length_take]; rfl)) ?_; (with_reducible refine (linear_Off.calls _ _ l0 _ _ ((rd_T26 l2 0).f0) ((rd_T26 l2 0).f1) a1 t371 t372 _ ?side1 ?side2 ?side3 ?side4 A54.out).mono ?_); (case side1 => repeat (first | exact (Kd.C_below HR0.out HB.out) | (with_reducible refine Kd.C_alloc ?_ _) | (with_reducible refine Kd.C_drewN ?_ _) | (with_reducible refine Kd.C_drew ?_))); (case side2 => exact HC0.out); (case side3 => repeat (first | exact (by repeat (first | (with_reducible exact HR370_0.out) | (with_reducible refine Kd.C_alloc ?_ _) | (with_reducible refine Kd.C_drewN ?_ _) | (with_reducible refine Kd.C_drew ?_) | exact HR370_0.out)) | (with_reducible refine Kd.C_alloc ?_ _) | (with_reducible refine Kd.C_drewN ?_ _) | (with_reducible refine Kd.C_drew ?_))); (case side4 => exact HC370_0.out); rintro e w83 ⟨rfl, hb⟩; refine ⟨_, rfl, ?_⟩; have n0_ := Aside0.mk (Kd.V_below (by (with_reducible repeat (first | apply Kd.V_alloc | apply Kd.V_drewN | apply Kd.V_drew)); exact HO_2.out) hb); have n1_ := Aside0.mk (Kd.R_below (by (with_reducible repeat (first | apply Kd.R_alloc | apply Kd.R_drewN | apply Kd.R_drew)); exact HO_127.out) hb); have n2_ := Aside0.mk (Kd.V_below (by (with_reducible repeat (first | apply Kd.V_alloc | apply Kd.V_drewN | apply Kd.V_drew)); exact HL370_0.out) hb); have n3_ := Aside0.mk (Kd.C_below (by repeat (first | (with_reducible exact HR370_0.out) | (with_reducible refine Kd.C_alloc ?_ _) | (with_reducible refine Kd.C_drewN ?_ _) | (with_reducible refine Kd.C_drew ?_) | exact HR370_0.out)) hb); have n4_ := Aside0.mk (below_step (by repeat (first | (with_reducible first | exact HB.out | apply below_alloc | apply pw_below_drewN | apply below_drew1) | exact HB.out)) hb); clear HO_2; clear HO_127; clear HL370_0; clear HR370_0; clear HB; have HO_2 := n0_; have HO_127 := n1_; have HL370_0 := n2_; have HR370_0 := Aside0.mk (Kd.V_reads' (e := 2) (base := w.heap.size) HL370_0.out).2.2; have HR370_0 := n3_; have HB := n4_; clear n0_ n1_ n2_ n3_ n4_; (try clear hb); (try clear hb2); (try clear hk); (try clear hi); have p373 : 0 ≤ (0 : Int) := (by omega); have q373 : 0 < (l2.length : Int) := of_decide_eq_true (by first | (with_reducible assumption) | assumption); obtain ⟨ad373, A373_0, c373_0, e373, hx373_0, hx373_1, hl373_0, hi373_0⟩ := at_T26 (Kd.V_reads' HO_2.out).2.2 0 p373 q373; obtain rfl : ad370 = ad373 := (by injection e373); obtain ⟨ce373, hce373, hMe373, hcc373⟩ := Kd.V_get HO_2.out z26 0 p373 (by first | exact q373 | exact of_decide_eq_true (by first | (with_reducible assumption) | assumption) | (have e_ := (Kd.V_reads' HO_2.out).1; omega)); obtain ⟨ua373_0, uc373_0, rfl, ul373_0, ge373_0⟩ := k26_openF hMe373; have hv373_0 := hcc373 0 _ rfl; rw [Nat.add_zero] at hv373_0; replace hv373_0 := Option.some.inj (hv373_0.symm.trans hx373_0); injection hv373_0 with hva_ hvn_ hvc_; rw [hva_] at ge373_0; rw [hvc_] at ul373_0; have HL373_0 := Aside0.mk (show Kd.V (Kd.int .i64) 2 _ w.heap.size _ _ ((rd_T26 l2 0).f0) from Kd.V_mk ul373_0 ge373_0); clear hva_ hvn_ hvc_ ge373_0 ul373_0; clear hcc373 hce373; have qi373 : (0 < l2.length) = True := eq_true (by omega); (try rw [show ((0 : Int)).toNat = 0 from rfl] at hx373_0); (try rw [show 0 * 2 = 0 from rfl] at hx373_0); (try rw [Addr.add_zero'] at hx373_0); (try rw [show ((0 : Int)).toNat = 0 from rfl] at hx373_1); (try rw [show 0 * 2 = 0 from rfl] at hx373_1); (try rw [Addr.add_zero'] at hx373_1); have HR373_0 := Aside0.mk hi373_0; have HC373_0 := Aside0.mk hl373_0; clear hi373_0 hl373_0; replace p373 := eq_true p373; replace q373 := eq_true q373) | ((with_reducible refine gate_dst (N := 151) rfl ?_); (try (refine gate_guard (by rfl) ?_; dsimp only)); refine Kd.N_lit k26 _ 26 ?hg (N' := 151) ?hd (xs := ([(⟨(rd_T26 l2 0).f0, (rd_T26 l2 0).f1⟩ : S26)] : List (S26))) (inner := [.slice A373_0 ((rd_T26 l2 0).f0).length c373_0, .int .i64 ((rd_T26 l2 0).f1)]) (ok := (fun k_ => (P2_ k_ ∨ w.heap.size ≤ k_) ∧ some k_ ≠ (.slice Ao48 t362.length co48 : Value).ownBlock)) (okp := (fun k_ => (P2_ k_ ∨ w.heap.size ≤ k_) ∧ some k_ ≠ (.slice Ao48 t362.length co48 : Value).ownBlock)) ?hr ?hp (fun _ hk => hk) ((show ∀ k_, w83.heap.size ≤ k_ → (fun k_ => (P2_ k_ ∨ w.heap.size ≤ k_) ∧ some k_ ≠ (.slice Ao48 t362.length co48 : Value).ownBlock) k_ from fun k_ hk => ⟨(.inr (Nat.le_trans (below_size (by repeat (first | (with_reducible first | exact HB.out | apply below_alloc | apply pw_below_drewN | apply below_drew1) | exact HB.out))) hk)), Kd.fresh' (Kd.R_lt (by (with_reducible repeat (first | apply Kd.R_alloc | apply Kd.R_drewN | apply Kd.R_drew)); exact HO_127.out)) k_ hk⟩) _ (Nat.le_refl _)) (Below.refl _ _) (Nat.le_refl _) (by simp) ?_; (case hd => rfl); (case hg => rfl); (case hr => first | (go_simp; done) | (go_simp; rfl)); (case hp => exact (Reps.c2 (show Kd.FK k26 _ _ (⟨(rd_T26 l2 0).f0, (rd_T26 l2 0).f1⟩ : S26) [.slice A373_0 ((rd_T26 l2 0).f0).length c373_0, .int .i64 ((rd_T26 l2 0).f1)] from (k26_mkF _ _ (⟨(rd_T26 l2 0).f0, (rd_T26 l2 0).f1⟩ : S26) (Kd.V_reads' (Kd.V_mono (ok' := (fun k_ => (P2_ k_ ∨ w.heap.size ≤ k_) ∧ some k_ ≠ (.slice Ao48 t362.length co48 : Value).ownBlock)) (HL373_0.out) (fun k_ hk => ⟨hk.1, hk.2⟩))).2.1 (Kd.V_F (Kd.V_mono (ok' := (fun k_ => (P2_ k_ ∨ w.heap.size ≤ k_) ∧ some k_ ≠ (.slice Ao48 t362.length co48 : Value).ownBlock)) (HL373_0.out) (fun k_ hk => ⟨hk.1, hk.2⟩))))) (Reps.none _ _))); intro v375 w84 ho85 hb hg_ hnew_; clear hg_ hnew_; (first | rw [← Ny374.out] at ho85 | (simp only [Int.reduceToNat] at ho85; rw [← Ny374.out] at ho85)); have n0_ := Aside0.mk (Kd.V_elder' (by (with_reducible repeat (first | apply Kd.V_alloc | apply Kd.V_drewN | apply Kd.V_drew)); exact HO_2.out) (Kd.N_base ho85) hb); have n1_ := Aside0.mk (Kd.R_below (by (with_reducible repeat (first | apply Kd.R_alloc | apply Kd.R_drewN | apply Kd.R_drew)); exact HO_127.out) hb); have n2_ := Aside0.mk (Kd.V_elder' (by (with_reducible repeat (first | apply Kd.V_alloc | apply Kd.V_drewN | apply Kd.V_drew)); exact HL370_0.out) (Kd.N_base ho85) hb); have n3_ := Aside0.mk (Kd.V_elder' (by (with_reducible repeat (first | apply Kd.V_alloc | apply Kd.V_drewN | apply Kd.V_drew)); exact HL373_0.out) (Kd.N_base ho85) hb); have n4_ := Aside0.mk (Kd.N_lower ho85 (below_size (by repeat (first | (with_reducible first | exact HB.out | apply below_alloc | apply pw_below_drewN | apply below_drew1) | exact HB.out)))); have n5_ := Aside0.mk (Kd.C_below (by repeat (first | (with_reducible exact HR370_0.out) | (with_reducible refine Kd.C_alloc ?_ _) | (with_reducible refine Kd.C_drewN ?_ _) | (with_reducible refine Kd.C_drew ?_) | exact HR370_0.out)) hb); have n6_ := Aside0.mk (Kd.C_below (by repeat (first | (with_reducible exact HR373_0.out) | (with_reducible refine Kd.C_alloc ?_ _) | (with_reducible refine Kd.C_drewN ?_ _) | (with_reducible refine Kd.C_drew ?_) | exact HR373_0.out)) hb); have n7_ := Aside0.mk (below_step (by repeat (first | (with_reducible first | exact HB.out | apply below_alloc | apply pw_below_drewN | apply below_drew1) | exact HB.out)) hb); clear HO_2; clear HO_127; clear HL370_0; clear HL373_0; clear HR370_0; clear HR373_0; clear HB; have HO_2 := n0_; have HO_127 := n1_; have HL370_0 := n2_; have HR370_0 := Aside0.mk (Kd.V_reads' (e := 2) (base := w.heap.size) HL370_0.out).2.2; have HL373_0 := n3_; have HR373_0 := Aside0.mk (Kd.V_reads' (e := 2) (base := w.heap.size) HL373_0.out).2.2; have HO376 := n4_; have HR370_0 := n5_; have HR373_0 := n6_; have HB := n7_; clear n0_ n1_ n2_ n3_ n4_ n5_ n6_ n7_; clear hb ho85; obtain ⟨Ao86, co86, eo86⟩ := Kd.N_slice HO376.out; subst eo86) | ((with_reducible refine gate_callee (f := 71) rfl ?_); refine goesL_ (some 152) rfl rfl Try.func71 (by kernel_rfl) rfl #[.slice A0 l0.length c0, .int .i64 a1, .slice Ao86 y374.length co86] rfl (by (try simp only [List.map_toArray, List.map_cons, List.map_nil]); first | done | rfl | (simp only [List.length_drop, List.length_take]; rfl)) ?_; (with_reducible refine (linear_Grad.calls _ _ l0 a1 _ _ y374 t377 t378 _ ?side1 ?side2 ?side3 ?side4 A55.out).mono ?_); (case side1 => repeat (first | exact (Kd.C_below HR0.out HB.out) | (with_reducible refine Kd.C_alloc ?_ _) | (with_reducible refine Kd.C_drewN ?_ _) | (with_reducible refine Kd.C_drew ?_))); (case side2 => exact HC0.out); (case side3 => repeat (first | exact (Kd.N_reads' HO376.out).2.2 | (with_reducible refine Kd.C_alloc ?_ _) | (with_reducible refine Kd.C_drewN ?_ _) | (with_reducible refine Kd.C_drew ?_))); (case side4 => exact (Kd.N_reads' HO376.out).2.1); rintro e w87 ⟨v379, rfl, ho0, hb⟩; refine ⟨_, rfl, ?_⟩; have n0_ := Aside0.mk (Kd.V_elder' (by (with_reducible repeat (first | apply Kd.V_alloc | apply Kd.V_drewN | apply Kd.V_drew)); exact HO_2.out) (Kd.R_base ho0) hb); have n1_ := Aside0.mk (Kd.R_elder' (by (with_reducible repeat (first | apply Kd.R_alloc | apply Kd.R_drewN | apply Kd.R_drew)); exact HO_127.out) (Kd.R_base ho0) hb); have n2_ := Aside0.mk (Kd.V_elder' (by (with_reducible repeat (first | apply Kd.V_alloc | apply Kd.V_drewN | apply Kd.V_drew)); exact HL370_0.out) (Kd.R_base ho0) hb); have n3_ := Aside0.mk (Kd.V_elder' (by (with_reducible repeat (first | apply Kd.V_alloc | apply Kd.V_drewN | apply Kd.V_drew)); exact HL373_0.out) (Kd.R_base ho0) hb); have n4_ := Aside0.mk (Kd.N_elder' (by (with_reducible repeat (first | apply Kd.N_alloc | apply Kd.N_drewN | apply Kd.N_drew)); exact HO376.out) (Kd.R_base ho0) hb); have n5_ := Aside0.mk (Kd.R_lower (Kd.R_new' (Kd.R_newM (M := fun k_ => (w.heap.size ≤ k_)) ho0 (below_size (by repeat (first | (with_reducible first | exact HB.out | apply below_alloc | apply pw_below_drewN | apply below_drew1) | exact HB.out))) (fun k_ h_ => h_)) (Kd.R_lt (by (with_reducible repeat (first | apply Kd.R_alloc | apply Kd.R_drewN | apply Kd.R_drew)); exact HO_127.out))) (below_size (by repeat (first | (with_reducible first | exact HB.out | apply below_alloc | apply pw_below_drewN | apply below_drew1) | exact HB.out)))); have n6_ := Aside0.mk (Kd.C_below (by repeat (first | (with_reducible exact HR370_0.out) | (with_reducible refine Kd.C_alloc ?_ _) | (with_reducible refine Kd.C_drewN ?_ _) | (with_reducible refine Kd.C_drew ?_) | exact HR370_0.out)) hb); have n7_ := Aside0.mk (Kd.C_below (by repeat (first | (with_reducible exact HR373_0.out) | (with_reducible refine Kd.C_alloc ?_ _) | (with_reducible refine Kd.C_drewN ?_ _) | (with_reducible refine Kd.C_drew ?_) | exact HR373_0.out)) hb); have n8_ := Aside0.mk (below_step (by repeat (first | (with_reducible first | exact HB.out | apply below_alloc | apply pw_below_drewN | apply below_drew1) | exact HB.out)) hb); clear HO_2; clear HO_127; clear HL370_0; clear HL373_0; clear HO376; clear HR370_0; clear HR373_0; clear HB; have HO_2 := n0_; have HO_127 := n1_; have HL370_0 := n2_; have HR370_0 := Aside0.mk (Kd.V_reads' (e := 2) (base := w.heap.size) HL370_0.out).2.2; have HL373_0 := n3_; have HR373_0 := Aside0.mk (Kd.V_reads' (e := 2) (base := w.heap.size) HL373_0.out).2.2; have HO376 := n4_; have HO380 := n5_; have HR370_0 := n6_; have HR373_0 := n7_; have HB := n8_; clear n0_ n1_ n2_ n3_ n4_ n5_ n6_ n7_ n8_; (try clear hb); (try clear hb2); (try clear hk); (try clear hi); (try clear ho0); have p381 : 0 ≤ (0 : Int) := (by omega); have q381 : 0 < (l2.length : Int) := of_decide_eq_true (by first | (with_reducible assumption) | assumption); obtain ⟨ad381, A381_0, c381_0, e381, hx381_0, hx381_1, hl381_0, hi381_0⟩ := at_T26 (Kd.V_reads' HO_2.out).2.2 0 p381 q381; obtain rfl : ad370 = ad381 := (by injection e381); obtain ⟨ce381, hce381, hMe381, hcc381⟩ := Kd.V_get HO_2.out z26 0 p381 (by first | exact q381 | exact of_decide_eq_true (by first | (with_reducible assumption) | assumption) | (have e_ := (Kd.V_reads' HO_2.out).1; omega)); obtain ⟨ua381_0, uc381_0, rfl, ul381_0, ge381_0⟩ := k26_openF hMe381; have hv381_0 := hcc381 0 _ rfl; rw [Nat.add_zero] at hv381_0; replace hv381_0 := Option.some.inj (hv381_0.symm.trans hx381_0); injection hv381_0 with hva_ hvn_ hvc_; rw [hva_] at ge381_0; rw [hvc_] at ul381_0; have HL381_0 := Aside0.mk (show Kd.V (Kd.int .i64) 2 _ w.heap.size _ _ ((rd_T26 l2 0).f0) from Kd.V_mk ul381_0 ge381_0); clear hva_ hvn_ hvc_ ge381_0 ul381_0; clear hcc381 hce381; have qi381 : (0 < l2.length) = True := eq_true (by omega); (try rw [show ((0 : Int)).toNat = 0 from rfl] at hx381_0); (try rw [show 0 * 2 = 0 from rfl] at hx381_0); (try rw [Addr.add_zero'] at hx381_0); (try rw [show ((0 : Int)).toNat = 0 from rfl] at hx381_1); (try rw [show 0 * 2 = 0 from rfl] at hx381_1); (try rw [Addr.add_zero'] at hx381_1); have HR381_0 := Aside0.mk hi381_0; have HC381_0 := Aside0.mk hl381_0; clear hi381_0 hl381_0; replace p381 := eq_true p381; replace q381 := eq_true q381) | ((with_reducible refine gate_callee (f := 75) rfl ?_); refine goesL_ (some 162) rfl rfl Try.func75 (by kernel_rfl) rfl #[.slice A381_0 ((rd_T26 l2 0).f0).length c381_0, .int .i64 t371, .int .i64 a1] rfl (by (try simp only [List.map_toArray, List.map_cons, List.map_nil]); first | done | rfl | (simp only [List.length_drop, List.length_take]; rfl)) ?_; (with_reducible refine (vec_Scale.calls _ _ ((rd_T26 l2 0).f0) t371 a1 t382 t383 _ ?side1 ?side2 A56.out).mono ?_); (case side1 => repeat (first | exact (by repeat (first | (with_reducible exact HR381_0.out) | (with_reducible refine Kd.C_alloc ?_ _) | (with_reducible refine Kd.C_drewN ?_ _) | (with_reducible refine Kd.C_drew ?_) | exact HR381_0.out)) | (with_reducible refine Kd.C_alloc ?_ _) | (with_reducible refine Kd.C_drewN ?_ _) | (with_reducible refine Kd.C_drew ?_))); (case side2 => exact HC381_0.out); rintro e w88 ⟨v384, rfl, ho0, hb⟩; refine ⟨_, rfl, ?_⟩; have n0_ := Aside0.mk (Kd.V_elder' (by (with_reducible repeat (first | apply Kd.V_alloc | apply Kd.V_drewN | apply Kd.V_drew)); exact HO_2.out) (Kd.R_base ho0) hb); have n1_ := Aside0.mk (Kd.R_elder' (by (with_reducible repeat (first | apply Kd.R_alloc | apply Kd.R_drewN | apply Kd.R_drew)); exact HO_127.out) (Kd.R_base ho0) hb); have n2_ := Aside0.mk (Kd.V_elder' (by (with_reducible repeat (first | apply Kd.V_alloc | apply Kd.V_drewN | apply Kd.V_drew)); exact HL370_0.out) (Kd.R_base ho0) hb); have n3_ := Aside0.mk (Kd.V_elder' (by (with_reducible repeat (first | apply Kd.V_alloc | apply Kd.V_drewN | apply Kd.V_drew)); exact HL373_0.out) (Kd.R_base ho0) hb); have n4_ := Aside0.mk (Kd.N_elder' (by (with_reducible repeat (first | apply Kd.N_alloc | apply Kd.N_drewN | apply Kd.N_drew)); exact HO376.out) (Kd.R_base ho0) hb); have n5_ := Aside0.mk (Kd.R_elder' (by (with_reducible repeat (first | apply Kd.R_alloc | apply Kd.R_drewN | apply Kd.R_drew)); exact HO380.out) (Kd.R_base ho0) hb); have n6_ := Aside0.mk (Kd.V_elder' (by (with_reducible repeat (first | apply Kd.V_alloc | apply Kd.V_drewN | apply Kd.V_drew)); exact HL381_0.out) (Kd.R_base ho0) hb); have n7_ := Aside0.mk (Kd.R_lower (Kd.R_new' (Kd.R_new' (Kd.R_newM (M := fun k_ => (w.heap.size ≤ k_)) ho0 (below_size (by repeat (first | (with_reducible first | exact HB.out | apply below_alloc | apply pw_below_drewN | apply below_drew1) | exact HB.out))) (fun k_ h_ => h_)) (Kd.R_lt (by (with_reducible repeat (first | apply Kd.R_alloc | apply Kd.R_drewN | apply Kd.R_drew)); exact HO_127.out))) (Kd.R_lt (by (with_reducible repeat (first | apply Kd.R_alloc | apply Kd.R_drewN | apply Kd.R_drew)); exact HO380.out))) (below_size (by repeat (first | (with_reducible first | exact HB.out | apply below_alloc | apply pw_below_drewN | apply below_drew1) | exact HB.out)))); have n8_ := Aside0.mk (Kd.C_below (by repeat (first | (with_reducible exact HR370_0.out) | (with_reducible refine Kd.C_alloc ?_ _) | (with_reducible refine Kd.C_drewN ?_ _) | (with_reducible refine Kd.C_drew ?_) | exact HR370_0.out)) hb); have n9_ := Aside0.mk (Kd.C_below (by repeat (first | (with_reducible exact HR373_0.out) | (with_reducible refine Kd.C_alloc ?_ _) | (with_reducible refine Kd.C_drewN ?_ _) | (with_reducible refine Kd.C_drew ?_) | exact HR373_0.out)) hb); have n10_ := Aside0.mk (Kd.C_below (by repeat (first | (with_reducible exact HR381_0.out) | (with_reducible refine Kd.C_alloc ?_ _) | (with_reducible refine Kd.C_drewN ?_ _) | (with_reducible refine Kd.C_drew ?_) | exact HR381_0.out)) hb); have n11_ := Aside0.mk (below_step (by repeat (first | (with_reducible first | exact HB.out | apply below_alloc | apply pw_below_drewN | apply below_drew1) | exact HB.out)) hb); clear HO_2; clear HO_127; clear HL370_0; clear HL373_0; clear HO376; clear HO380; clear HL381_0; clear HR370_0; clear HR373_0; clear HR381_0; clear HB; have HO_2 := n0_; have HO_127 := n1_; have HL370_0 := n2_; have HR370_0 := Aside0.mk (Kd.V_reads' (e := 2) (base := w.heap.size) HL370_0.out).2.2; have HL373_0 := n3_; have HR373_0 := Aside0.mk (Kd.V_reads' (e := 2) (base := w.heap.size) HL373_0.out).2.2; have HO376 := n4_; have HO380 := n5_; have HL381_0 := n6_; have HR381_0 := Aside0.mk (Kd.V_reads' (e := 2) (base := w.heap.size) HL381_0.out).2.2; have HO385 := n7_; have HR370_0 := n8_; have HR373_0 := n9_; have HR381_0 := n10_; have HB := n11_; clear n0_ n1_ n2_ n3_ n4_ n5_ n6_ n7_ n8_ n9_ n10_ n11_; (try clear hb); (try clear hb2); (try clear hk); (try clear hi); (try clear ho0)))
                                      go_ret
                                      exact ⟨by first | rfl | (simp [errW_none, errW_some] <;> rfl) | (simp [*, errW_none, errW_some] <;> rfl), by repeat (first | (with_reducible first | exact HB.out | apply below_alloc | apply pw_below_drewN | apply below_drew1) | exact HB.out)⟩
                                  · rw [if_neg c53] at H
                                    exact absurd H (by simp)
  · replace c5 := Bool.eq_false_iff.mpr c5
    subst c5
    have H1 : (some false) = some r := by rw [if_neg (show ¬ (false = true) by decide)] at H; exact H
    exact absurd (Option.some.inj H1) (by rw [HR_.out]; decide)

/-- THE ONE PURE STATEMENT of thrumlaw14_LinearRight: yours. -/
def thrumlaw14_LinearRight.Pure : Prop := ∀ (l0 : List Int) (a1 : Int) (l2 : List (S26)), l0.length ≤ maxLen → l0.length * 8 ≤ 140737488351232 → (∀ x ∈ l0, (Lit.int .i64 x).wf = true) → (Lit.int .i64 a1).wf = true → (l2.length ≤ maxLen ∧ ∀ x__ ∈ l2, ((x__.f0.length ≤ maxLen ∧ ∀ x2__ ∈ x__.f0, (Lit.int .i64 x2__).wf = true) ∧ (Lit.int .i64 x__.f1).wf = true ∧ True)) → ∃ k, thrumlaw14_LinearRight.f k l0 a1 l2 = some true
theorem thrumlaw14_LinearRight.walk (P : thrumlaw14_LinearRight.Pure) (a0 : Option Addr) (len0 cap0 : Nat) (z0 : List Int) (a1 : Int) (A2 : Option Addr) (c2 : Nat) (l2 : List (S26)) (w : World) (w0 : (a0 = none ∧ len0 = 0 ∧ cap0 = 0 ∧ z0 = []) ∨ ∃ x, a0 = some x ∧ len0 ≤ cap0 ∧ cap0 ≤ maxLen ∧ z0.length = cap0 ∧ (∀ i, i < z0.length → w.cell? (x.add i) = some (.int .i64 (z0.getD i 0))) ∧ ∀ n ∈ z0, (Lit.int .i64 n).wf = true) (y0 : len0 * 8 ≤ 140737488351232) (w1 : (Lit.int .i64 a1).wf = true) (hr2 : Kd.C k26 w A2 l2.length l2) (hc2 : l2.length ≤ c2) (hg2 : (l2.length ≤ maxLen ∧ ∀ x__ ∈ l2, ((x__.f0.length ≤ maxLen ∧ ∀ x2__ ∈ x__.f0, (Lit.int .i64 x2__).wf = true) ∧ (Lit.int .i64 x__.f1).wf = true ∧ True))) :
    Calls Try.prog 15 #[.slice a0 len0 cap0, .int .i64 a1, .slice A2 l2.length c2] w fun e w' => e = .returned (.bool true) ∧ Below w.heap.size w w' := by
  obtain ⟨l0, rfl, hr0, hm0, hw0, hc0⟩ := ReadsInt.ofRowC w0
  obtain ⟨k, h⟩ := P l0 a1 l2 hm0 y0 hw0 w1 hg2
  refine (thrumlaw14_LinearRight.calls k _ _ l0 a1 (fun k_ => k_ < w.heap.size) _ _ l2 true w (Kd.C_of_reads (d := (0 : Int)) (h1 := fun _ => rfl) hr0) hc0 (Kd.V_mk hc2 (Kd.C_F k26_heap hr2)) h rfl).mono ?_
  rintro e w' ⟨rfl, hd⟩
  exact ⟨rfl, hd⟩









































































































































































































































































































































































































































































































































































































































































































end Go.Proofs.Ytfbdalnjijdknaa.HL
