/- What Go functions do, each as a plain Lean function with the same answers, and the proof of it, in every world: printed by the session's driver over the kit's print, with texts by hand. -/
import Derived.Test.YtfbdalnjijdknaaHLx0
import Derived.Test.YtfbdalnjijdknaaHLx1
import Derived.Test.YtfbdalnjijdknaaHLx5
import Derived.Test.YtfbdalnjijdknaaHLx13
import Derived.Test.YtfbdalnjijdknaaHLx14
import Derived.Test.YtfbdalnjijdknaaHLx31
namespace Go.Proofs.Ytfbdalnjijdknaa.HL
open Go.RowKit Go.Proofs.YtfbdalnjijdknaaW.PrintWords Go.Proofs.YtfbdalnjijdknaaW.PrintLast Go.Proofs.YtfbdalnjijdknaaW.PrintMore
attribute [local go_sem] max2_int min2_int max_two min_two max_three min_three max_four min_four   -- for this text's walks alone
open Go.Proofs.Ytfbdalnjijdknaa.Sp
attribute [local go_sem] Go.Proofs.Ytfbdalnjijdknaa.Sp.u64_not
set_option linter.unusedVariables false
set_option linter.unusedSimpArgs false

/-! ### thrumlaw14_LinearBase: function 17 -/
mutual
def thrumlaw14_LinearBase.j0 : Nat → List Int → Int → List (S26) → Int → Bool → Bool → Option (Bool)
  | 0, _, _, _, _, _, _ => none
  | k + 1, x0, x1, x2, x3, x9, x39 => if x39 = true then (some x9) else (if ([] : List Int).length + x0.length < 17592186044416 then ((some (([] : List Int) ++ x0 : List Int)).bind fun y415 => (if 0 ≤ (wrap64 ((x0.length : Int) - 1)) then (if (wrap64 ((x0.length : Int) - 1)) < (y415.length : Int) then (thrumlaw14_LinearBase.l0 k x0 x1 x2 (Int.tmod x3 1099511627776) x9 (y415.set ((wrap64 ((x0.length : Int) - 1)) : Int).toNat (wrap64 ((rd y415 (wrap64 ((x0.length : Int) - 1))) + (Int.tmod x3 1099511627776)))) ([] : List (S26)) x2 (x2.length : Int) 0) else (none)) else (none))) else (none))
def thrumlaw14_LinearBase.l0 : Nat → List Int → Int → List (S26) → Int → Bool → List Int → List (S26) → List (S26) → Int → Int → Option (Bool)
  | 0, _, _, _, _, _, _, _, _, _, _ => none
  | k + 1, x0, x1, x2, x3, x9, x10, x11, x54, x55, x56 => if x56 < x55 then (if 0 ≤ x56 then (if x56 < (x54.length : Int) then (if ((rd_T26 x54 x56).f1) > 1152921504606846976 then (some x9) else (if ((rd_T26 x54 x56).f1) < (-1152921504606846976) then (some x9) else (if x11.length < 4398046511104 then (thrumlaw14_LinearBase.l0 k x0 x1 x2 x3 x9 x10 (x11 ++ [(⟨(rd_T26 x54 x56).f0, wrap64 (((rd_T26 x54 x56).f1) + x3)⟩ : S26)]) x54 x55 (wrap64 (x56 + 1))) else (none)))) else (none)) else (none)) else (thrumlaw14_LinearBase.l1 k x0 x1 x2 x9 x10 x11 x0 (x0.length : Int) 0)
def thrumlaw14_LinearBase.l1 : Nat → List Int → Int → List (S26) → Bool → List Int → List (S26) → List Int → Int → Int → Option (Bool)
  | 0, _, _, _, _, _, _, _, _, _ => none
  | k + 1, x0, x1, x2, x9, x10, x11, x80, x81, x82 => if x82 < x81 then (if 0 ≤ x82 then (if x82 < (x80.length : Int) then (if (rd x80 x82) > 1099511627776 then (some x9) else (if (rd x80 x82) < (-1099511627776) then (some x9) else (thrumlaw14_LinearBase.l1 k x0 x1 x2 x9 x10 x11 x80 x81 (wrap64 (x82 + 1))))) else (none)) else (none)) else (thrumlaw14_LinearBase.l2 k x0 x1 x2 x9 x10 x11 x2 (x2.length : Int) 0)
def thrumlaw14_LinearBase.l2 : Nat → List Int → Int → List (S26) → Bool → List Int → List (S26) → List (S26) → Int → Int → Option (Bool)
  | 0, _, _, _, _, _, _, _, _, _ => none
  | k + 1, x0, x1, x2, x9, x10, x11, x94, x95, x96 => if x96 < x95 then (if 0 ≤ x96 then (if x96 < (x94.length : Int) then (thrumlaw14_LinearBase.l3 k x0 x1 x2 x9 x10 x11 x94 x95 x96 ((rd_T26 x94 x96).f0) (((rd_T26 x94 x96).f0).length : Int) 0) else (none)) else (none)) else ((linear_Grad.f x0 x1 x2).bind fun bt429 => ((linear_Grad.f x10 x1 x11).bind fun bt433 => ((linear_Loss.f x0 x1 x2).bind fun bt437 => ((linear_Loss.f x10 x1 x11).bind fun bt439 => (if x9 = true then (if bt429.2 = bt433.2 then ((thrumref02_Same.f bt429.1 bt433.1).bind fun t441 => (if t441 = true then (if bt437.1 = bt439.1 then (some (bt437.2 == bt439.2)) else (some false)) else (some false))) else (some false)) else (some false))))))
def thrumlaw14_LinearBase.l3 : Nat → List Int → Int → List (S26) → Bool → List Int → List (S26) → List (S26) → Int → Int → List Int → Int → Int → Option (Bool)
  | 0, _, _, _, _, _, _, _, _, _, _, _, _ => none
  | k + 1, x0, x1, x2, x9, x10, x11, x94, x95, x96, x101, x102, x103 => if x103 < x102 then (if 0 ≤ x103 then (if x103 < (x101.length : Int) then (if (rd x101 x103) > 32768 then (some x9) else (if (rd x101 x103) < (-32768) then (some x9) else (thrumlaw14_LinearBase.l3 k x0 x1 x2 x9 x10 x11 x94 x95 x96 x101 x102 (wrap64 (x103 + 1))))) else (none)) else (none)) else (thrumlaw14_LinearBase.l2 k x0 x1 x2 x9 x10 x11 x94 x95 (wrap64 (x96 + 1)))
end
def thrumlaw14_LinearBase.f (k : Nat) (l0 : List Int) (a1 : Int) (l2 : List (S26)) (a3 : Int) : Option (Bool) := (thrumlaw14_live.f).bind fun t413 => (if t413 = true then ((thrumref14_Few.f l0 l2).bind fun t414 => (if t414 = true then (thrumlaw14_LinearBase.j0 k l0 a1 l2 a3 t413 ((l0.length : Int) == 0)) else (thrumlaw14_LinearBase.j0 k l0 a1 l2 a3 t413 true))) else (some false))
theorem thrumlaw14_LinearBase.mono_l : ∀ k, (∀ y0 y1 y2 y3 y4 y5, LeO (thrumlaw14_LinearBase.j0 k y0 y1 y2 y3 y4 y5) (thrumlaw14_LinearBase.j0 (k + 1) y0 y1 y2 y3 y4 y5)) ∧ (∀ y0 y1 y2 y3 y4 y5 y6 y7 y8 y9, LeO (thrumlaw14_LinearBase.l0 k y0 y1 y2 y3 y4 y5 y6 y7 y8 y9) (thrumlaw14_LinearBase.l0 (k + 1) y0 y1 y2 y3 y4 y5 y6 y7 y8 y9)) ∧ (∀ y0 y1 y2 y3 y4 y5 y6 y7 y8, LeO (thrumlaw14_LinearBase.l1 k y0 y1 y2 y3 y4 y5 y6 y7 y8) (thrumlaw14_LinearBase.l1 (k + 1) y0 y1 y2 y3 y4 y5 y6 y7 y8)) ∧ (∀ y0 y1 y2 y3 y4 y5 y6 y7 y8, LeO (thrumlaw14_LinearBase.l2 k y0 y1 y2 y3 y4 y5 y6 y7 y8) (thrumlaw14_LinearBase.l2 (k + 1) y0 y1 y2 y3 y4 y5 y6 y7 y8)) ∧ (∀ y0 y1 y2 y3 y4 y5 y6 y7 y8 y9 y10 y11, LeO (thrumlaw14_LinearBase.l3 k y0 y1 y2 y3 y4 y5 y6 y7 y8 y9 y10 y11) (thrumlaw14_LinearBase.l3 (k + 1) y0 y1 y2 y3 y4 y5 y6 y7 y8 y9 y10 y11))
  | 0 => ⟨fun _ _ _ _ _ _ r h => by simp [thrumlaw14_LinearBase.j0] at h, fun _ _ _ _ _ _ _ _ _ _ r h => by simp [thrumlaw14_LinearBase.l0] at h, fun _ _ _ _ _ _ _ _ _ r h => by simp [thrumlaw14_LinearBase.l1] at h, fun _ _ _ _ _ _ _ _ _ r h => by simp [thrumlaw14_LinearBase.l2] at h, fun _ _ _ _ _ _ _ _ _ _ _ _ r h => by simp [thrumlaw14_LinearBase.l3] at h⟩
  | k + 1 => by
    obtain ⟨ih0, ih1, ih2, ih3, ih4⟩ := thrumlaw14_LinearBase.mono_l k
    refine ⟨?_, ?_, ?_, ?_, ?_⟩
    · intro y0 y1 y2 y3 y4 y5
      unfold thrumlaw14_LinearBase.j0
      repeat' first
      | (with_reducible exact ih0 _ _ _ _ _ _)
      | (with_reducible exact ih1 _ _ _ _ _ _ _ _ _ _)
      | (with_reducible exact ih2 _ _ _ _ _ _ _ _ _)
      | (with_reducible exact ih3 _ _ _ _ _ _ _ _ _)
      | (with_reducible exact ih4 _ _ _ _ _ _ _ _ _ _ _ _)
      | (with_reducible exact LeO.refl _)
      | (with_reducible exact LeO.none _)
      | (with_reducible refine LeO.ite ?_ ?_)
      | (with_reducible refine LeO.bind ?_ (fun _ => ?_))
      | exact ih0 _ _ _ _ _ _
      | exact ih1 _ _ _ _ _ _ _ _ _ _
      | exact ih2 _ _ _ _ _ _ _ _ _
      | exact ih3 _ _ _ _ _ _ _ _ _
      | exact ih4 _ _ _ _ _ _ _ _ _ _ _ _
      | exact LeO.none _
      | refine LeO.ite ?_ ?_
      | refine LeO.bind ?_ (fun _ => ?_)
    · intro y0 y1 y2 y3 y4 y5 y6 y7 y8 y9
      unfold thrumlaw14_LinearBase.l0
      repeat' first
      | (with_reducible exact ih0 _ _ _ _ _ _)
      | (with_reducible exact ih1 _ _ _ _ _ _ _ _ _ _)
      | (with_reducible exact ih2 _ _ _ _ _ _ _ _ _)
      | (with_reducible exact ih3 _ _ _ _ _ _ _ _ _)
      | (with_reducible exact ih4 _ _ _ _ _ _ _ _ _ _ _ _)
      | (with_reducible exact LeO.refl _)
      | (with_reducible exact LeO.none _)
      | (with_reducible refine LeO.ite ?_ ?_)
      | (with_reducible refine LeO.bind ?_ (fun _ => ?_))
      | exact ih0 _ _ _ _ _ _
      | exact ih1 _ _ _ _ _ _ _ _ _ _
      | exact ih2 _ _ _ _ _ _ _ _ _
      | exact ih3 _ _ _ _ _ _ _ _ _
      | exact ih4 _ _ _ _ _ _ _ _ _ _ _ _
      | exact LeO.none _
      | refine LeO.ite ?_ ?_
      | refine LeO.bind ?_ (fun _ => ?_)
    · intro y0 y1 y2 y3 y4 y5 y6 y7 y8
      unfold thrumlaw14_LinearBase.l1
      repeat' first
      | (with_reducible exact ih0 _ _ _ _ _ _)
      | (with_reducible exact ih1 _ _ _ _ _ _ _ _ _ _)
      | (with_reducible exact ih2 _ _ _ _ _ _ _ _ _)
      | (with_reducible exact ih3 _ _ _ _ _ _ _ _ _)
      | (with_reducible exact ih4 _ _ _ _ _ _ _ _ _ _ _ _)
      | (with_reducible exact LeO.refl _)
      | (with_reducible exact LeO.none _)
      | (with_reducible refine LeO.ite ?_ ?_)
      | (with_reducible refine LeO.bind ?_ (fun _ => ?_))
      | exact ih0 _ _ _ _ _ _
      | exact ih1 _ _ _ _ _ _ _ _ _ _
      | exact ih2 _ _ _ _ _ _ _ _ _
      | exact ih3 _ _ _ _ _ _ _ _ _
      | exact ih4 _ _ _ _ _ _ _ _ _ _ _ _
      | exact LeO.none _
      | refine LeO.ite ?_ ?_
      | refine LeO.bind ?_ (fun _ => ?_)
    · intro y0 y1 y2 y3 y4 y5 y6 y7 y8
      unfold thrumlaw14_LinearBase.l2
      repeat' first
      | (with_reducible exact ih0 _ _ _ _ _ _)
      | (with_reducible exact ih1 _ _ _ _ _ _ _ _ _ _)
      | (with_reducible exact ih2 _ _ _ _ _ _ _ _ _)
      | (with_reducible exact ih3 _ _ _ _ _ _ _ _ _)
      | (with_reducible exact ih4 _ _ _ _ _ _ _ _ _ _ _ _)
      | (with_reducible exact LeO.refl _)
      | (with_reducible exact LeO.none _)
      | (with_reducible refine LeO.ite ?_ ?_)
      | (with_reducible refine LeO.bind ?_ (fun _ => ?_))
      | exact ih0 _ _ _ _ _ _
      | exact ih1 _ _ _ _ _ _ _ _ _ _
      | exact ih2 _ _ _ _ _ _ _ _ _
      | exact ih3 _ _ _ _ _ _ _ _ _
      | exact ih4 _ _ _ _ _ _ _ _ _ _ _ _
      | exact LeO.none _
      | refine LeO.ite ?_ ?_
      | refine LeO.bind ?_ (fun _ => ?_)
    · intro y0 y1 y2 y3 y4 y5 y6 y7 y8 y9 y10 y11
      unfold thrumlaw14_LinearBase.l3
      repeat' first
      | (with_reducible exact ih0 _ _ _ _ _ _)
      | (with_reducible exact ih1 _ _ _ _ _ _ _ _ _ _)
      | (with_reducible exact ih2 _ _ _ _ _ _ _ _ _)
      | (with_reducible exact ih3 _ _ _ _ _ _ _ _ _)
      | (with_reducible exact ih4 _ _ _ _ _ _ _ _ _ _ _ _)
      | (with_reducible exact LeO.refl _)
      | (with_reducible exact LeO.none _)
      | (with_reducible refine LeO.ite ?_ ?_)
      | (with_reducible refine LeO.bind ?_ (fun _ => ?_))
      | exact ih0 _ _ _ _ _ _
      | exact ih1 _ _ _ _ _ _ _ _ _ _
      | exact ih2 _ _ _ _ _ _ _ _ _
      | exact ih3 _ _ _ _ _ _ _ _ _
      | exact ih4 _ _ _ _ _ _ _ _ _ _ _ _
      | exact LeO.none _
      | refine LeO.ite ?_ ?_
      | refine LeO.bind ?_ (fun _ => ?_)
theorem thrumlaw14_LinearBase.mono : ∀ a0 a1 a2 a3 k, LeO (thrumlaw14_LinearBase.f k a0 a1 a2 a3) (thrumlaw14_LinearBase.f (k + 1) a0 a1 a2 a3) := by
  intro a0 a1 a2 a3 k
  obtain ⟨ih0, ih1, ih2, ih3, ih4⟩ := thrumlaw14_LinearBase.mono_l k
  unfold thrumlaw14_LinearBase.f
  repeat' first
      | (with_reducible exact ih0 _ _ _ _ _ _)
      | (with_reducible exact ih1 _ _ _ _ _ _ _ _ _ _)
      | (with_reducible exact ih2 _ _ _ _ _ _ _ _ _)
      | (with_reducible exact ih3 _ _ _ _ _ _ _ _ _)
      | (with_reducible exact ih4 _ _ _ _ _ _ _ _ _ _ _ _)
      | (with_reducible exact LeO.refl _)
      | (with_reducible exact LeO.none _)
      | (with_reducible refine LeO.ite ?_ ?_)
      | (with_reducible refine LeO.bind ?_ (fun _ => ?_))
      | exact ih0 _ _ _ _ _ _
      | exact ih1 _ _ _ _ _ _ _ _ _ _
      | exact ih2 _ _ _ _ _ _ _ _ _
      | exact ih3 _ _ _ _ _ _ _ _ _
      | exact ih4 _ _ _ _ _ _ _ _ _ _ _ _
      | exact LeO.none _
      | refine LeO.ite ?_ ?_
      | refine LeO.bind ?_ (fun _ => ?_)
set_option maxHeartbeats 80000000 in
set_option maxRecDepth 100000 in
theorem thrumlaw14_LinearBase.calls (k : Nat) (A0 : Option Addr) (c0 : Nat) (l0 : List Int) (a1 : Int) (P2_ : Nat → Prop) (A2 : Option Addr) (c2 : Nat) (l2 : List (S26)) (a3 : Int) (r : Bool) (w : World) (hr0 : Kd.C (Kd.int .i64) w A0 l0.length l0) (hc0 : l0.length ≤ c0) (hs2 : Kd.V k26 26 w w.heap.size (fun k_ => P2_ k_) (.slice A2 l2.length c2) l2) (h : thrumlaw14_LinearBase.f k l0 a1 l2 a3 = some r) (hr_ : r = true) :
    Calls Try.prog 17 #[.slice A0 l0.length c0, .int .i64 a1, .slice A2 l2.length c2, .int .i64 a3] w fun e w' => e = .returned (.bool r) ∧ Below w.heap.size w w' := by
  have HR_ := Aside0.mk hr_
  clear hr_
  have hu26 := Try.underlying26
  have HR0 := Aside0.mk hr0
  have HC0 := Aside0.mk hc0
  clear hr0 hc0
  have HO2 := Aside0.mk (show Kd.V k26 26 w w.heap.size (fun k_ => (P2_ k_ ∨ w.heap.size ≤ k_)) (.slice A2 l2.length c2) l2 from Kd.V_mono hs2 (fun k_ hk => .inl hk))
  have HB := Aside0.mk (Below.refl w.heap.size w)
  have H : ((thrumlaw14_live.f).bind fun t413 => (if t413 = true then ((thrumref14_Few.f l0 l2).bind fun t414 => (if t414 = true then (thrumlaw14_LinearBase.j0 k l0 a1 l2 a3 t413 ((l0.length : Int) == 0)) else (thrumlaw14_LinearBase.j0 k l0 a1 l2 a3 t413 true))) else (some false))) = some r := h
  clear h
  replace H := Option.bind_eq_some_iff.mp H
  obtain ⟨t413, A50, H⟩ := H
  replace H : (if t413 = true then ((thrumref14_Few.f l0 l2).bind fun t414 => (if t414 = true then (thrumlaw14_LinearBase.j0 k l0 a1 l2 a3 t413 ((l0.length : Int) == 0)) else (thrumlaw14_LinearBase.j0 k l0 a1 l2 a3 t413 true))) else (some false)) = some r := H
  have A5 := Aside0.mk A50
  clear A50
  by_cases c6 : t413 = true
  · subst c6
    have H1 : ((thrumref14_Few.f l0 l2).bind fun t414 => (if t414 = true then (thrumlaw14_LinearBase.j0 k l0 a1 l2 a3 true ((l0.length : Int) == 0)) else (thrumlaw14_LinearBase.j0 k l0 a1 l2 a3 true true))) = some r := by rw [if_pos rfl] at H; exact H
    clear H
    have H := H1
    clear H1
    have HC7 := Aside0.mk H
    clear H
    go_enter Try.func17, Try.ntmps17
    go_upto_region 4 with (first | ((with_reducible refine gate_callee (f := 61) rfl ?_); refine goesL_ (some 28) rfl rfl Try.func61 (by kernel_rfl) rfl #[] rfl (by (try simp only [List.map_toArray, List.map_cons, List.map_nil]); first | done | rfl | (simp only [List.length_drop, List.length_take]; rfl)) ?_; (with_reducible refine (thrumlaw14_live.calls  true _ A5.out).mono ?_); rintro e w8 ⟨rfl, hb⟩; refine ⟨_, rfl, ?_⟩; have n0_ := Aside0.mk (Kd.V_below (by (with_reducible repeat (first | apply Kd.V_alloc | apply Kd.V_drewN | apply Kd.V_drew)); exact HO2.out) hb); have n1_ := Aside0.mk (below_step (by repeat (first | (with_reducible first | exact HB.out | apply below_alloc | apply pw_below_drewN | apply below_drew1) | exact HB.out)) hb); clear HO2; clear HB; have HO2 := n0_; have HB := n1_; clear n0_ n1_; (try clear hb); (try clear hb2); (try clear hk); (try clear hi)))
    (try simp only [Act.put, List.setIfInBounds_toArray, List.set_cons_zero, List.set_cons_succ])
    go_cut [39] (fun v39 wc => ∃ (kq : Nat) (x39_6 : Bool), v39 = .bool x39_6 ∧ Aside0 (thrumlaw14_LinearBase.j0 kq l0 a1 l2 a3 true x39_6 = some r) ∧ Aside0 (kq ≤ k) ∧ Aside0 (Kd.V k26 26 wc w.heap.size (fun k_ => (P2_ k_ ∨ w.heap.size ≤ k_)) (.slice A2 l2.length c2) l2) ∧ Aside0 (Below w.heap.size w wc))
    case first =>
      have H := HC7.out
      clear HC7
      replace H := Option.bind_eq_some_iff.mp H
      obtain ⟨t414, A90, H⟩ := H
      replace H : (if t414 = true then (thrumlaw14_LinearBase.j0 k l0 a1 l2 a3 true ((l0.length : Int) == 0)) else (thrumlaw14_LinearBase.j0 k l0 a1 l2 a3 true true)) = some r := H
      have A9 := Aside0.mk A90
      clear A90
      by_cases c10 : t414 = true
      · subst c10
        have H1 : (thrumlaw14_LinearBase.j0 k l0 a1 l2 a3 true ((l0.length : Int) == 0)) = some r := by rw [if_pos rfl] at H; exact H
        clear H
        have H := H1
        clear H1
        have H' := Aside0.mk H
        clear H
        go_wp2_with (first | ((with_reducible refine gate_callee (f := 30) rfl ?_); refine goesL_ (some 33) rfl rfl Try.func30 (by kernel_rfl) rfl #[.slice A0 l0.length c0, .slice A2 l2.length c2] rfl (by (try simp only [List.map_toArray, List.map_cons, List.map_nil]); first | done | rfl | (simp only [List.length_drop, List.length_take]; rfl)) ?_; (with_reducible refine (thrumref14_Few.calls _ _ l0 _ _ l2 true _ ?side1 ?side2 ?side3 ?side4 A9.out).mono ?_); (case side1 => repeat (first | exact (Kd.C_below HR0.out HB.out) | (with_reducible refine Kd.C_alloc ?_ _) | (with_reducible refine Kd.C_drewN ?_ _) | (with_reducible refine Kd.C_drew ?_))); (case side2 => exact HC0.out); (case side3 => repeat (first | exact (Kd.V_reads' HO2.out).2.2 | (with_reducible refine Kd.C_alloc ?_ _) | (with_reducible refine Kd.C_drewN ?_ _) | (with_reducible refine Kd.C_drew ?_))); (case side4 => exact (Kd.V_reads' HO2.out).2.1); rintro e w11 ⟨rfl, hb⟩; refine ⟨_, rfl, ?_⟩; have n0_ := Aside0.mk (Kd.V_below (by (with_reducible repeat (first | apply Kd.V_alloc | apply Kd.V_drewN | apply Kd.V_drew)); exact HO2.out) hb); have n1_ := Aside0.mk (below_step (by repeat (first | (with_reducible first | exact HB.out | apply below_alloc | apply pw_below_drewN | apply below_drew1) | exact HB.out)) hb); clear HO2; clear HB; have HO2 := n0_; have HB := n1_; clear n0_ n1_; (try clear hb); (try clear hb2); (try clear hk); (try clear hi)))
        go_meet
        case rel => exact ⟨_, (((l0.length : Int) == 0)), (by first | rfl | (simp; done) | (simp [*]; done)), H', ⟨by first | omega | exact Nat.le_refl _⟩, ⟨by (with_reducible repeat (first | apply Kd.V_alloc | apply Kd.V_drewN | apply Kd.V_drew)); exact HO2.out⟩, ⟨by repeat (first | (with_reducible first | exact HB.out | apply below_alloc | apply pw_below_drewN | apply below_drew1) | exact HB.out)⟩⟩
      · replace c10 := Bool.eq_false_iff.mpr c10
        subst c10
        have H1 : (thrumlaw14_LinearBase.j0 k l0 a1 l2 a3 true true) = some r := by rw [if_neg (show ¬ (false = true) by decide)] at H; exact H
        clear H
        have H := H1
        clear H1
        have H' := Aside0.mk H
        clear H
        go_wp2_with (first | ((with_reducible refine gate_callee (f := 30) rfl ?_); refine goesL_ (some 33) rfl rfl Try.func30 (by kernel_rfl) rfl #[.slice A0 l0.length c0, .slice A2 l2.length c2] rfl (by (try simp only [List.map_toArray, List.map_cons, List.map_nil]); first | done | rfl | (simp only [List.length_drop, List.length_take]; rfl)) ?_; (with_reducible refine (thrumref14_Few.calls _ _ l0 _ _ l2 false _ ?side1 ?side2 ?side3 ?side4 A9.out).mono ?_); (case side1 => repeat (first | exact (Kd.C_below HR0.out HB.out) | (with_reducible refine Kd.C_alloc ?_ _) | (with_reducible refine Kd.C_drewN ?_ _) | (with_reducible refine Kd.C_drew ?_))); (case side2 => exact HC0.out); (case side3 => repeat (first | exact (Kd.V_reads' HO2.out).2.2 | (with_reducible refine Kd.C_alloc ?_ _) | (with_reducible refine Kd.C_drewN ?_ _) | (with_reducible refine Kd.C_drew ?_))); (case side4 => exact (Kd.V_reads' HO2.out).2.1); rintro e w12 ⟨rfl, hb⟩; refine ⟨_, rfl, ?_⟩; have n0_ := Aside0.mk (Kd.V_below (by (with_reducible repeat (first | apply Kd.V_alloc | apply Kd.V_drewN | apply Kd.V_drew)); exact HO2.out) hb); have n1_ := Aside0.mk (below_step (by repeat (first | (with_reducible first | exact HB.out | apply below_alloc | apply pw_below_drewN | apply below_drew1) | exact HB.out)) hb); clear HO2; clear HB; have HO2 := n0_; have HB := n1_; clear n0_ n1_; (try clear hb); (try clear hb2); (try clear hk); (try clear hi)))
        go_meet
        case rel => exact ⟨_, (true), (by first | rfl | (simp; done) | (simp [*]; done)), H', ⟨by first | omega | exact Nat.le_refl _⟩, ⟨by (with_reducible repeat (first | apply Kd.V_alloc | apply Kd.V_drewN | apply Kd.V_drew)); exact HO2.out⟩, ⟨by repeat (first | (with_reducible first | exact HB.out | apply below_alloc | apply pw_below_drewN | apply below_drew1) | exact HB.out)⟩⟩
    case rest =>
      clear HC7
      try clear c1
      try clear c2
      try clear p2
      try clear c3
      try clear c6
      try clear c10
      obtain ⟨kq, x39_6, rfl, HA, HJ6, HO_2, HB⟩ := hcut
      cases kq with
      | zero => exact absurd HA.out (by simp [thrumlaw14_LinearBase.j0])
      | succ kj6 =>
        have H := HA.out
        clear HA
        simp only [thrumlaw14_LinearBase.j0] at H
        by_cases c13 : x39_6 = true
        · subst c13
          have H1 : (some true) = some r := by rw [if_pos rfl] at H; exact H
          clear H
          have H := H1
          clear H1
          obtain rfl := Option.some.inj H
          go_wp2
          go_ret
          exact ⟨by first | rfl | (simp [errW_none, errW_some] <;> rfl) | (simp [*, errW_none, errW_some] <;> rfl), by repeat (first | (with_reducible first | exact HB.out | apply below_alloc | apply pw_below_drewN | apply below_drew1) | exact HB.out)⟩
        · replace c13 := Bool.eq_false_iff.mpr c13
          subst c13
          have H1 : (if ([] : List Int).length + l0.length < 17592186044416 then ((some (([] : List Int) ++ l0 : List Int)).bind fun y415 => (if 0 ≤ (wrap64 ((l0.length : Int) - 1)) then (if (wrap64 ((l0.length : Int) - 1)) < (y415.length : Int) then (thrumlaw14_LinearBase.l0 kj6 l0 a1 l2 (Int.tmod a3 1099511627776) true (y415.set ((wrap64 ((l0.length : Int) - 1)) : Int).toNat (wrap64 ((rd y415 (wrap64 ((l0.length : Int) - 1))) + (Int.tmod a3 1099511627776)))) ([] : List (S26)) l2 (l2.length : Int) 0) else (none)) else (none))) else (none)) = some r := by rw [if_neg (show ¬ (false = true) by decide)] at H; exact H
          clear H
          have H := H1
          clear H1
          by_cases c14 : ([] : List Int).length + l0.length < 17592186044416
          · rw [if_pos c14] at H
            have LMc14 := Aside0.mk c14
            clear c14
            obtain ⟨y415, hy415⟩ : ∃ y_ : List Int, y_ = (([] : List Int) ++ l0) := ⟨_, rfl⟩
            replace H : (if 0 ≤ (wrap64 ((l0.length : Int) - 1)) then (if (wrap64 ((l0.length : Int) - 1)) < (y415.length : Int) then (thrumlaw14_LinearBase.l0 kj6 l0 a1 l2 (Int.tmod a3 1099511627776) true (y415.set ((wrap64 ((l0.length : Int) - 1)) : Int).toNat (wrap64 ((rd y415 (wrap64 ((l0.length : Int) - 1))) + (Int.tmod a3 1099511627776)))) ([] : List (S26)) l2 (l2.length : Int) 0) else (none)) else (none)) = some r := by first | (rw [hy415]; with_reducible exact H) | (have H2_ := (Option.bind_some _ _).symm.trans H; rw [hy415]; with_reducible exact H2_) | (have H2_ := (Option.bind_some _ _).symm.trans H; with_reducible exact H2_) | with_reducible exact H | (rw [hy415]; exact H) | exact H
            have Ny415 := Aside0.mk hy415
            clear hy415
            obtain ⟨ji15, hji15⟩ : ∃ j_ : Int, (wrap64 ((l0.length : Int) - 1)) = j_ := ⟨_, rfl⟩
            replace H : (if 0 ≤ (ji15) then (if (ji15) < (y415.length : Int) then (thrumlaw14_LinearBase.l0 kj6 l0 a1 l2 (Int.tmod a3 1099511627776) true (y415.set ((ji15) : Int).toNat (wrap64 ((rd y415 (ji15)) + (Int.tmod a3 1099511627776)))) ([] : List (S26)) l2 (l2.length : Int) 0) else (none)) else (none)) = some r := by first | (rw [hji15] at H; exact H) | (simp only [hji15] at H ⊢; exact H)
            have hji15w : (IntKind.i64.wrap ((l0.length : Int) - 1)) = ji15 := (i64_w _).trans hji15
            by_cases c16 : 0 ≤ (ji15)
            · rw [if_pos c16] at H
              have c16b0 : decide (0 ≤ (ji15)) = true := decide_eq_true c16
              clear c16
              by_cases c17 : (ji15) < (y415.length : Int)
              · rw [if_pos c17] at H
                have c17b0 : decide ((ji15) < (y415.length : Int)) = true := decide_eq_true c17
                clear c17
                obtain ⟨y419, hy419⟩ : ∃ y_ : List Int, y_ = (y415.set ((ji15) : Int).toNat (wrap64 ((rd y415 (ji15)) + (Int.tmod a3 1099511627776)))) := ⟨_, rfl⟩
                replace H : (thrumlaw14_LinearBase.l0 kj6 l0 a1 l2 (Int.tmod a3 1099511627776) true y419 ([] : List (S26)) l2 (l2.length : Int) 0) = some r := by first | (rw [hy419]; with_reducible exact H) | (have H2_ := (Option.bind_some _ _).symm.trans H; rw [hy419]; with_reducible exact H2_) | (have H2_ := (Option.bind_some _ _).symm.trans H; with_reducible exact H2_) | with_reducible exact H | (rw [hy419]; exact H) | exact H
                have Ny419 := Aside0.mk hy419
                clear hy419
                have H' := Aside0.mk H
                clear H
                go_wp2_with (first | ((with_reducible refine gate_builtin (b := .append) (xs := #[.const (.slice none 0 0), .tmp 43]) rfl ?_); (try (refine gate_guard (by rfl) ?_; dsimp only)); at_builtin; refine Kd.R_append_rows (Kd.int .i64) (w0 := w) w.heap.size rfl (.const (.slice none 0 0)) (.tmp 43) 22 2 (.int .i64 0) 8 rfl Try.underlying22 info2 rfl (by decide) (by omega) (.slice none 0 0) ([] : List Int) l0 _ _ _ (fun k_ => (w.heap.size ≤ k_)) (fun _ => False) rfl rfl ?aO ?aR (fun _ _ h => h) (fun _ h => h.elim) ?aF ?aB ?aS ?aL ?_; (case aR => repeat (first | exact (Kd.C_below HR0.out HB.out) | (with_reducible refine Kd.C_alloc ?_ _) | (with_reducible refine Kd.C_drewN ?_ _) | (with_reducible refine Kd.C_drew ?_))); (case aB => exact (by repeat (first | (with_reducible first | exact HB.out | apply below_alloc | apply pw_below_drewN | apply below_drew1) | exact HB.out))); (case aF => exact (fun k_ hk => (Nat.le_trans (below_size (by repeat (first | (with_reducible first | exact HB.out | apply below_alloc | apply pw_below_drewN | apply below_drew1) | exact HB.out))) hk))); (case aO => exact ((Kd.R_nil _ _ _ _ (fun k_ => (w.heap.size ≤ k_))))); (case aS => exact (below_size (by repeat (first | (with_reducible first | exact HB.out | apply below_alloc | apply pw_below_drewN | apply below_drew1) | exact HB.out)))); (case aL => have := LMc14.out; omega); intro v416 w19 ho hb hg hat; rw [← Ny415.out] at ho; have n0_ := Aside0.mk (Kd.V_afterv (Kd.V_apart_nil (by (with_reducible repeat (first | apply Kd.V_alloc | apply Kd.V_drewN | apply Kd.V_drew)); exact HO_2.out)) hg hat); have n1_ := Aside0.mk (hb); have n2_ := Aside0.mk (ho); clear HO_2; clear HB; have HO_2 := n0_; have HB := n1_; have HO417 := n2_; clear n0_ n1_ n2_; clear ho hb hg hat; obtain ⟨Ao20, co20, eo20⟩ := Kd.R_slice HO417.out; subst eo20; have p418 : 0 ≤ ((ji15) : Int) := of_decide_eq_true (by first | (with_reducible assumption) | assumption); have q418 : (ji15) < (y415.length : Int) := of_decide_eq_true (by first | (with_reducible assumption) | assumption); obtain ⟨ad418, e418, hx418_0⟩ := Kd.at_int (Kd.R_reads' HO417.out).2.2 (ji15) p418 q418; cases e418; replace p418 := eq_true p418; replace q418 := eq_true q418; have p18 : 0 ≤ ((ji15) : Int) := of_decide_eq_true (by first | (with_reducible assumption) | assumption); have q18 : ((ji15) : Int) < ((y415.length : Int) : Int) := of_decide_eq_true (by first | (with_reducible assumption) | assumption); obtain ⟨go18, co18, eo18, gb18, gl18, cl18, HG18⟩ := Kd.R_form HO417.out (by omega); (first | cases eo18 | (injection eo18 with ea_ en_ ec_; (first | subst ea_ | (injection ea_ with ea_; subst ea_)); subst ec_; clear en_)); have GB18 := Aside0.mk gb18; have GG18 := Aside0.mk HG18; clear gb18 gl18 HG18; (first | simp only [add_plain] at hx418_0 | skip); obtain ⟨hx18_0, hf18_0⟩ := Kd.R_celln 0 HO417.out ((ji15) : Int) p18 q18; replace p18 := eq_true p18; replace q18 := eq_true q18; obtain ⟨hy21_, hz21_⟩ := Kd.R_celln 0 HO417.out ((ji15) : Int) (of_decide_eq_true (by first | (with_reducible assumption) | assumption)) (of_decide_eq_true (by first | (with_reducible assumption) | assumption)); have HP21 := Kd.R_putg HO417.out ((ji15) : Int) (wrap64 ((rd y415 (ji15)) + (Int.tmod a3 1099511627776)))) | ((with_reducible refine gate_store (t := 2) (p := 53) rfl ?_); refine store_event (t := 2) (p := 53) (v := ?vo_w22) (w1 := (w19.setCell ⟨go18, ((ji15) : Int).toNat, none⟩ (.int .i64 (wrap64 ((rd y415 (ji15)) + (Int.tmod a3 1099511627776)))))) ?hg ?ho ?hn ?hr ?_; (case ho => rfl); (case hg => rfl); (case hn => rfl); (case hr => first | (go_simp; done) | (go_simp; rfl)); intro w22 hw; have hg : w19.grownBy w22 (some go18) := (by rw [hw]; exact HP21.2); have hp_ : Kd.R (Kd.int .i64) 2 w22 w.heap.size (fun k_ => (w.heap.size ≤ k_)) (.slice (some ⟨go18, 0, none⟩) y415.length co20) y419 := (by rw [hw, Ny419.out]; exact HP21.1); clear HP21; have n0_ := Aside0.mk (Kd.V_afterv (v := (.slice (some ⟨go18, 0, none⟩) y415.length co20)) (v1 := (.slice (some ⟨go18, 0, none⟩) y415.length co20)) (ok := (fun k_ => (P2_ k_ ∨ w.heap.size ≤ k_))) (by (with_reducible repeat (first | apply Kd.V_alloc | apply Kd.V_drewN | apply Kd.V_drew)); exact HO_2.out) hg (.inl rfl)); have n1_ := Aside0.mk (hp_); have n2_ := Aside0.mk ((by rw [hw]; exact below_set (HB.out) GB18.out : Below w.heap.size w w22)); clear HO_2; clear HO417; clear HB; have HO_2 := n0_; have HO417 := n1_; have HB := n2_; clear n0_ n1_ n2_; clear hg hw hp_))
                go_loopg [11, 56] kj6 (fun kq v11 v56 w' => ∃ (x11_2 : List (S26)) (x56_2 : Int), v56 = .int .i64 x56_2 ∧ Aside0 (thrumlaw14_LinearBase.l0 kq l0 a1 l2 (Int.tmod a3 1099511627776) true y419 x11_2 l2 (l2.length : Int) x56_2 = some r) ∧ Aside0 (kq ≤ kj6) ∧ Aside0 (Kd.V k26 26 w' w.heap.size (fun k_ => (P2_ k_ ∨ w.heap.size ≤ k_) ∧ some k_ ≠ ((.slice (some ⟨go18, 0, none⟩) y415.length co20) : Value).ownBlock ∧ some k_ ≠ (v11 : Value).ownBlock) (.slice A2 l2.length c2) l2) ∧ Aside0 (Kd.R (Kd.int .i64) 2 w' w.heap.size (fun k_ => (w.heap.size ≤ k_)) (.slice (some ⟨go18, 0, none⟩) y415.length co20) y419) ∧ Aside0 (Kd.N k26 26 w' w.heap.size (fun k_ => (P2_ k_ ∨ w.heap.size ≤ k_) ∧ some k_ ≠ ((.slice (some ⟨go18, 0, none⟩) y415.length co20) : Value).ownBlock) v11 x11_2) ∧ Aside0 (Kd.V k26 26 w' w.heap.size (fun k_ => (P2_ k_ ∨ w.heap.size ≤ k_) ∧ some k_ ≠ ((.slice (some ⟨go18, 0, none⟩) y415.length co20) : Value).ownBlock ∧ some k_ ≠ (v11 : Value).ownBlock) (.slice A2 l2.length c2) l2) ∧ Aside0 (Below w.heap.size w w'))
                case atStart => exact ⟨(([] : List (S26))), (0), (by first | rfl | (simp; done) | (simp [*]; done)), H', ⟨Nat.le_refl _⟩, ⟨by (with_reducible repeat (first | apply Kd.V_alloc | apply Kd.V_drewN | apply Kd.V_drew)); exact Kd.V_mono HO_2.out (fun _ hk => ⟨hk.1, ⟨hk.2, (by simp [Value.ownBlock])⟩⟩)⟩, ⟨by (with_reducible repeat (first | apply Kd.R_alloc | apply Kd.R_drewN | apply Kd.R_drew)); exact HO417.out⟩, ⟨by first | exact Kd.S_nil _ _ _ _ _ | exact Kd.N_nil _ _ _ _ _ | exact Kd.V_nil _ _ _ _ _ | exact Kd.Q_nil _ _ _ _ _ | exact Kd.R_nil _ _ _ _ _⟩, ⟨by (with_reducible repeat (first | apply Kd.V_alloc | apply Kd.V_drewN | apply Kd.V_drew)); exact Kd.V_mono HO_2.out (fun _ hk => ⟨hk.1, ⟨hk.2, (by simp [Value.ownBlock])⟩⟩)⟩, ⟨by repeat (first | (with_reducible first | exact HB.out | apply below_alloc | apply pw_below_drewN | apply below_drew1) | exact HB.out)⟩⟩
                case round =>
                  clear H'
                  try clear c1
                  try clear p1
                  try clear q1
                  try clear hx1
                  try clear c2
                  try clear p2
                  try clear c3
                  try clear p4
                  try clear q4
                  try clear hx4
                  try clear c6
                  try clear p6
                  try clear c10
                  try clear c13
                  try clear c14
                  try clear c16
                  try clear c16b0
                  try clear c17
                  try clear c17b0
                  try clear p18
                  try clear q18
                  try clear hx18
                  try clear hf18
                  try clear hx18_0
                  try clear hx418_0
                  try clear p18
                  try clear p2
                  try clear p418
                  try clear q18
                  try clear q418
                  obtain ⟨x11_2, x56_2, rfl, HA, HK2, HO_2, HO_10, HO_11, HO_54, HB⟩ := hrel
                  have hl10_2 := (Kd.R_reads' HO_10.out).1
                  rw [hl10_2] at HO_10
                  (try simp only [hl10_2])
                  (try simp only [hl10_2] at HO_2)
                  (try simp only [hl10_2] at HO_11)
                  (try simp only [hl10_2] at HO_54)
                  cases gk with
                  | zero => exact absurd HA.out (by simp [thrumlaw14_LinearBase.l0])
                  | succ k2 =>
                    have H := HA.out
                    clear HA
                    simp only [thrumlaw14_LinearBase.l0] at H
                    by_cases c23 : x56_2 < (l2.length : Int)
                    · rw [if_pos c23] at H
                      have c23b0 : decide (x56_2 < (l2.length : Int)) = true := decide_eq_true c23
                      clear c23
                      by_cases c24 : 0 ≤ x56_2
                      · rw [if_pos c24] at H
                        have c24b0 : decide (0 ≤ x56_2) = true := decide_eq_true c24
                        clear c24
                        by_cases c25 : x56_2 < (l2.length : Int)
                        · rw [if_pos c25] at H
                          have c25b0 : decide (x56_2 < (l2.length : Int)) = true := decide_eq_true c25
                          clear c25
                          by_cases c26 : ((rd_T26 l2 x56_2).f1) > 1152921504606846976
                          · rw [if_pos c26] at H
                            have c26b0 : decide (1152921504606846976 < ((rd_T26 l2 x56_2).f1)) = true := decide_eq_true c26
                            clear c26
                            obtain rfl := Option.some.inj H
                            have p420 : 0 ≤ (x56_2 : Int) := of_decide_eq_true (by first | (with_reducible assumption) | assumption)
                            have q420 : x56_2 < (l2.length : Int) := of_decide_eq_true (by first | (with_reducible assumption) | assumption)
                            obtain ⟨ad420, A420_0, c420_0, e420, hx420_0, hx420_1, hl420_0, hi420_0⟩ := at_T26 (Kd.V_reads' HO_54.out).2.2 x56_2 p420 q420
                            cases e420
                            obtain ⟨ce420, hce420, hMe420, hcc420⟩ := Kd.V_get HO_54.out z26 x56_2 p420 (by first | exact q420 | exact of_decide_eq_true (by first | (with_reducible assumption) | assumption) | (have e_ := (Kd.V_reads' HO_54.out).1; omega))
                            obtain ⟨ua420_0, uc420_0, rfl, ul420_0, ge420_0⟩ := k26_openF hMe420
                            have hv420_0 := hcc420 0 _ rfl
                            rw [Nat.add_zero] at hv420_0
                            replace hv420_0 := Option.some.inj (hv420_0.symm.trans hx420_0)
                            injection hv420_0 with hva_ hvn_ hvc_
                            rw [hva_] at ge420_0
                            rw [hvc_] at ul420_0
                            have HL420_0 := Aside0.mk (show Kd.V (Kd.int .i64) 2 _ w.heap.size _ _ ((rd_T26 l2 x56_2).f0) from Kd.V_mk ul420_0 ge420_0)
                            clear hva_ hvn_ hvc_ ge420_0 ul420_0
                            clear hcc420 hce420
                            have HR420_0 := Aside0.mk hi420_0
                            have HC420_0 := Aside0.mk hl420_0
                            clear hi420_0 hl420_0
                            replace p420 := eq_true p420
                            replace q420 := eq_true q420
                            go_wp2_with (first | ((with_reducible refine gate_dst (N := 13) rfl ?_); (try (refine gate_guard (by rfl) ?_; dsimp only)); refine box_event ?hg (N := 13) ?hd (cs := #[.slice none 0 0, .int .i64 0]) (t := 26) ?hr ?_; (case hd => rfl); (case hg => rfl); (case hr => first | (go_simp; done) | (go_simp; rfl)); intro gb421 hg w27 hbox hb; have n0_ := Aside0.mk (Kd.V_below (Kd.V_elderB (by (with_reducible repeat (first | apply Kd.V_alloc | apply Kd.V_drewN | apply Kd.V_drew)); exact HO_2.out) gb421 (Nat.le_of_eq hg.symm)) hb); have n1_ := Aside0.mk (Kd.R_below (by (with_reducible repeat (first | apply Kd.R_alloc | apply Kd.R_drewN | apply Kd.R_drew)); exact HO_10.out) hb); have n2_ := Aside0.mk (Kd.N_below (Kd.N_elderB (by (with_reducible repeat (first | apply Kd.N_alloc | apply Kd.N_drewN | apply Kd.N_drew)); exact HO_11.out) gb421 (Nat.le_of_eq hg.symm)) hb); have n3_ := Aside0.mk (Kd.V_below (Kd.V_elderB (by (with_reducible repeat (first | apply Kd.V_alloc | apply Kd.V_drewN | apply Kd.V_drew)); exact HO_54.out) gb421 (Nat.le_of_eq hg.symm)) hb); have n4_ := Aside0.mk (Kd.V_below (Kd.V_elderB (by (with_reducible repeat (first | apply Kd.V_alloc | apply Kd.V_drewN | apply Kd.V_drew)); exact HL420_0.out) gb421 (Nat.le_of_eq hg.symm)) hb); have n5_ := Aside0.mk (Kd.C_below (by repeat (first | (with_reducible exact HR420_0.out) | (with_reducible refine Kd.C_alloc ?_ _) | (with_reducible refine Kd.C_drewN ?_ _) | (with_reducible refine Kd.C_drew ?_) | exact HR420_0.out)) hb); have n6_ := Aside0.mk (below_step (by repeat (first | (with_reducible first | exact HB.out | apply below_alloc | apply pw_below_drewN | apply below_drew1) | exact HB.out)) hb); have n7_ := Aside0.mk (hbox); have n8_ := Aside0.mk ((by rw [hg]; exact (below_size (by repeat (first | (with_reducible first | exact HB.out | apply below_alloc | apply pw_below_drewN | apply below_drew1) | exact HB.out))) : w.heap.size ≤ gb421)); have n9_ := Aside0.mk ((by rw [hg]; exact (below_size (by repeat (first | (with_reducible first | exact HB.out | apply below_alloc | apply pw_below_drewN | apply below_drew1) | exact HB.out))) : w.heap.size ≤ gb421)); clear HO_2; clear HO_10; clear HO_11; clear HO_54; clear HL420_0; clear HR420_0; clear HB; have HO_2 := n0_; have HO_10 := n1_; have HO_11 := n2_; have HO_54 := n3_; have HL420_0 := n4_; have HR420_0 := Aside0.mk (Kd.V_reads' (e := 2) (base := w.heap.size) HL420_0.out).2.2; have HR420_0 := n5_; have HB := n6_; have BK421 := n7_; have GW421 := n8_; have GE421 := n9_; clear n0_ n1_ n2_ n3_ n4_ n5_ n6_ n7_ n8_ n9_; clear hb hbox hg; have hcz28_0 : w27.cell? ⟨gb421, 0, none⟩ = some (.slice none 0 0) := (blk_cell BK421.out 0).trans rfl; have hcz28_1 : w27.cell? ⟨gb421, 1, none⟩ = some (.int .i64 0) := (blk_cell BK421.out 1).trans rfl; have hfz28_0 := blk_frozen BK421.out 0; have hfz28_1 := blk_frozen BK421.out 1))
                            go_ret
                            exact ⟨by first | rfl | (simp [errW_none, errW_some] <;> rfl) | (simp only [← hji15]; first | rfl | (simp [errW_none, errW_some] <;> rfl)) | (simp [*, errW_none, errW_some] <;> rfl), by repeat (first | (with_reducible first | exact HB.out | apply below_alloc | apply pw_below_drewN | apply below_drew1 | refine below_set ?_ GE421.out) | exact HB.out)⟩
                          · rw [if_neg c26] at H
                            have c26b0 : decide (1152921504606846976 < ((rd_T26 l2 x56_2).f1)) = false := decide_eq_false c26
                            clear c26
                            by_cases c29 : ((rd_T26 l2 x56_2).f1) < (-1152921504606846976)
                            · rw [if_pos c29] at H
                              have c29b0 : decide (((rd_T26 l2 x56_2).f1) < (-1152921504606846976)) = true := decide_eq_true c29
                              clear c29
                              obtain rfl := Option.some.inj H
                              have p420 : 0 ≤ (x56_2 : Int) := of_decide_eq_true (by first | (with_reducible assumption) | assumption)
                              have q420 : x56_2 < (l2.length : Int) := of_decide_eq_true (by first | (with_reducible assumption) | assumption)
                              obtain ⟨ad420, A420_0, c420_0, e420, hx420_0, hx420_1, hl420_0, hi420_0⟩ := at_T26 (Kd.V_reads' HO_54.out).2.2 x56_2 p420 q420
                              cases e420
                              obtain ⟨ce420, hce420, hMe420, hcc420⟩ := Kd.V_get HO_54.out z26 x56_2 p420 (by first | exact q420 | exact of_decide_eq_true (by first | (with_reducible assumption) | assumption) | (have e_ := (Kd.V_reads' HO_54.out).1; omega))
                              obtain ⟨ua420_0, uc420_0, rfl, ul420_0, ge420_0⟩ := k26_openF hMe420
                              have hv420_0 := hcc420 0 _ rfl
                              rw [Nat.add_zero] at hv420_0
                              replace hv420_0 := Option.some.inj (hv420_0.symm.trans hx420_0)
                              injection hv420_0 with hva_ hvn_ hvc_
                              rw [hva_] at ge420_0
                              rw [hvc_] at ul420_0
                              have HL420_0 := Aside0.mk (show Kd.V (Kd.int .i64) 2 _ w.heap.size _ _ ((rd_T26 l2 x56_2).f0) from Kd.V_mk ul420_0 ge420_0)
                              clear hva_ hvn_ hvc_ ge420_0 ul420_0
                              clear hcc420 hce420
                              have HR420_0 := Aside0.mk hi420_0
                              have HC420_0 := Aside0.mk hl420_0
                              clear hi420_0 hl420_0
                              replace p420 := eq_true p420
                              replace q420 := eq_true q420
                              go_wp2_with (first | ((with_reducible refine gate_dst (N := 13) rfl ?_); (try (refine gate_guard (by rfl) ?_; dsimp only)); refine box_event ?hg (N := 13) ?hd (cs := #[.slice none 0 0, .int .i64 0]) (t := 26) ?hr ?_; (case hd => rfl); (case hg => rfl); (case hr => first | (go_simp; done) | (go_simp; rfl)); intro gb421 hg w30 hbox hb; have n0_ := Aside0.mk (Kd.V_below (Kd.V_elderB (by (with_reducible repeat (first | apply Kd.V_alloc | apply Kd.V_drewN | apply Kd.V_drew)); exact HO_2.out) gb421 (Nat.le_of_eq hg.symm)) hb); have n1_ := Aside0.mk (Kd.R_below (by (with_reducible repeat (first | apply Kd.R_alloc | apply Kd.R_drewN | apply Kd.R_drew)); exact HO_10.out) hb); have n2_ := Aside0.mk (Kd.N_below (Kd.N_elderB (by (with_reducible repeat (first | apply Kd.N_alloc | apply Kd.N_drewN | apply Kd.N_drew)); exact HO_11.out) gb421 (Nat.le_of_eq hg.symm)) hb); have n3_ := Aside0.mk (Kd.V_below (Kd.V_elderB (by (with_reducible repeat (first | apply Kd.V_alloc | apply Kd.V_drewN | apply Kd.V_drew)); exact HO_54.out) gb421 (Nat.le_of_eq hg.symm)) hb); have n4_ := Aside0.mk (Kd.V_below (Kd.V_elderB (by (with_reducible repeat (first | apply Kd.V_alloc | apply Kd.V_drewN | apply Kd.V_drew)); exact HL420_0.out) gb421 (Nat.le_of_eq hg.symm)) hb); have n5_ := Aside0.mk (Kd.C_below (by repeat (first | (with_reducible exact HR420_0.out) | (with_reducible refine Kd.C_alloc ?_ _) | (with_reducible refine Kd.C_drewN ?_ _) | (with_reducible refine Kd.C_drew ?_) | exact HR420_0.out)) hb); have n6_ := Aside0.mk (below_step (by repeat (first | (with_reducible first | exact HB.out | apply below_alloc | apply pw_below_drewN | apply below_drew1) | exact HB.out)) hb); have n7_ := Aside0.mk (hbox); have n8_ := Aside0.mk ((by rw [hg]; exact (below_size (by repeat (first | (with_reducible first | exact HB.out | apply below_alloc | apply pw_below_drewN | apply below_drew1) | exact HB.out))) : w.heap.size ≤ gb421)); have n9_ := Aside0.mk ((by rw [hg]; exact (below_size (by repeat (first | (with_reducible first | exact HB.out | apply below_alloc | apply pw_below_drewN | apply below_drew1) | exact HB.out))) : w.heap.size ≤ gb421)); clear HO_2; clear HO_10; clear HO_11; clear HO_54; clear HL420_0; clear HR420_0; clear HB; have HO_2 := n0_; have HO_10 := n1_; have HO_11 := n2_; have HO_54 := n3_; have HL420_0 := n4_; have HR420_0 := Aside0.mk (Kd.V_reads' (e := 2) (base := w.heap.size) HL420_0.out).2.2; have HR420_0 := n5_; have HB := n6_; have BK421 := n7_; have GW421 := n8_; have GE421 := n9_; clear n0_ n1_ n2_ n3_ n4_ n5_ n6_ n7_ n8_ n9_; clear hb hbox hg; have hcz31_0 : w30.cell? ⟨gb421, 0, none⟩ = some (.slice none 0 0) := (blk_cell BK421.out 0).trans rfl; have hcz31_1 : w30.cell? ⟨gb421, 1, none⟩ = some (.int .i64 0) := (blk_cell BK421.out 1).trans rfl; have hfz31_0 := blk_frozen BK421.out 0; have hfz31_1 := blk_frozen BK421.out 1))
                              go_ret
                              exact ⟨by first | rfl | (simp [errW_none, errW_some] <;> rfl) | (simp only [← hji15]; first | rfl | (simp [errW_none, errW_some] <;> rfl)) | (simp [*, errW_none, errW_some] <;> rfl), by repeat (first | (with_reducible first | exact HB.out | apply below_alloc | apply pw_below_drewN | apply below_drew1 | refine below_set ?_ GE421.out) | exact HB.out)⟩
                            · rw [if_neg c29] at H
                              have c29b0 : decide (((rd_T26 l2 x56_2).f1) < (-1152921504606846976)) = false := decide_eq_false c29
                              clear c29
                              by_cases c32 : x11_2.length < 4398046511104
                              · rw [if_pos c32] at H
                                have LMc32 := Aside0.mk c32
                                clear c32
                                obtain ⟨y422, hy422⟩ : ∃ y_ : List (S26), y_ = (x11_2 ++ [(⟨(rd_T26 l2 x56_2).f0, wrap64 (((rd_T26 l2 x56_2).f1) + (Int.tmod a3 1099511627776))⟩ : S26)]) := ⟨_, rfl⟩
                                replace H : (thrumlaw14_LinearBase.l0 k2 l0 a1 l2 (Int.tmod a3 1099511627776) true y419 y422 l2 (l2.length : Int) (wrap64 (x56_2 + 1))) = some r := by first | (rw [hy422]; with_reducible exact H) | (have H2_ := (Option.bind_some _ _).symm.trans H; rw [hy422]; with_reducible exact H2_) | (have H2_ := (Option.bind_some _ _).symm.trans H; with_reducible exact H2_) | with_reducible exact H | (rw [hy422]; exact H) | exact H
                                have Ny422 := Aside0.mk hy422
                                clear hy422
                                have H' := Aside0.mk H
                                clear H
                                have p420 : 0 ≤ (x56_2 : Int) := of_decide_eq_true (by first | (with_reducible assumption) | assumption)
                                have q420 : x56_2 < (l2.length : Int) := of_decide_eq_true (by first | (with_reducible assumption) | assumption)
                                obtain ⟨ad420, A420_0, c420_0, e420, hx420_0, hx420_1, hl420_0, hi420_0⟩ := at_T26 (Kd.V_reads' HO_54.out).2.2 x56_2 p420 q420
                                cases e420
                                obtain ⟨ce420, hce420, hMe420, hcc420⟩ := Kd.V_get HO_54.out z26 x56_2 p420 (by first | exact q420 | exact of_decide_eq_true (by first | (with_reducible assumption) | assumption) | (have e_ := (Kd.V_reads' HO_54.out).1; omega))
                                obtain ⟨ua420_0, uc420_0, rfl, ul420_0, ge420_0⟩ := k26_openF hMe420
                                have hv420_0 := hcc420 0 _ rfl
                                rw [Nat.add_zero] at hv420_0
                                replace hv420_0 := Option.some.inj (hv420_0.symm.trans hx420_0)
                                injection hv420_0 with hva_ hvn_ hvc_
                                rw [hva_] at ge420_0
                                rw [hvc_] at ul420_0
                                have HL420_0 := Aside0.mk (show Kd.V (Kd.int .i64) 2 _ w.heap.size _ _ ((rd_T26 l2 x56_2).f0) from Kd.V_mk ul420_0 ge420_0)
                                clear hva_ hvn_ hvc_ ge420_0 ul420_0
                                clear hcc420 hce420
                                have HR420_0 := Aside0.mk hi420_0
                                have HC420_0 := Aside0.mk hl420_0
                                clear hi420_0 hl420_0
                                replace p420 := eq_true p420
                                replace q420 := eq_true q420
                                go_wp2_with (first | ((with_reducible refine gate_dst (N := 13) rfl ?_); (try (refine gate_guard (by rfl) ?_; dsimp only)); refine box_event ?hg (N := 13) ?hd (cs := #[.slice none 0 0, .int .i64 0]) (t := 26) ?hr ?_; (case hd => rfl); (case hg => rfl); (case hr => first | (go_simp; done) | (go_simp; rfl)); intro gb421 hg w33 hbox hb; have n0_ := Aside0.mk (Kd.V_below (Kd.V_elderB (by (with_reducible repeat (first | apply Kd.V_alloc | apply Kd.V_drewN | apply Kd.V_drew)); exact HO_2.out) gb421 (Nat.le_of_eq hg.symm)) hb); have n1_ := Aside0.mk (Kd.R_below (by (with_reducible repeat (first | apply Kd.R_alloc | apply Kd.R_drewN | apply Kd.R_drew)); exact HO_10.out) hb); have n2_ := Aside0.mk (Kd.N_below (Kd.N_elderB (by (with_reducible repeat (first | apply Kd.N_alloc | apply Kd.N_drewN | apply Kd.N_drew)); exact HO_11.out) gb421 (Nat.le_of_eq hg.symm)) hb); have n3_ := Aside0.mk (Kd.V_below (Kd.V_elderB (by (with_reducible repeat (first | apply Kd.V_alloc | apply Kd.V_drewN | apply Kd.V_drew)); exact HO_54.out) gb421 (Nat.le_of_eq hg.symm)) hb); have n4_ := Aside0.mk (Kd.V_below (Kd.V_elderB (by (with_reducible repeat (first | apply Kd.V_alloc | apply Kd.V_drewN | apply Kd.V_drew)); exact HL420_0.out) gb421 (Nat.le_of_eq hg.symm)) hb); have n5_ := Aside0.mk (Kd.C_below (by repeat (first | (with_reducible exact HR420_0.out) | (with_reducible refine Kd.C_alloc ?_ _) | (with_reducible refine Kd.C_drewN ?_ _) | (with_reducible refine Kd.C_drew ?_) | exact HR420_0.out)) hb); have n6_ := Aside0.mk (below_step (by repeat (first | (with_reducible first | exact HB.out | apply below_alloc | apply pw_below_drewN | apply below_drew1) | exact HB.out)) hb); have n7_ := Aside0.mk (hbox); have n8_ := Aside0.mk ((by rw [hg]; exact (below_size (by repeat (first | (with_reducible first | exact HB.out | apply below_alloc | apply pw_below_drewN | apply below_drew1) | exact HB.out))) : w.heap.size ≤ gb421)); have n9_ := Aside0.mk ((by rw [hg]; exact (below_size (by repeat (first | (with_reducible first | exact HB.out | apply below_alloc | apply pw_below_drewN | apply below_drew1) | exact HB.out))) : w.heap.size ≤ gb421)); clear HO_2; clear HO_10; clear HO_11; clear HO_54; clear HL420_0; clear HR420_0; clear HB; have HO_2 := n0_; have HO_10 := n1_; have HO_11 := n2_; have HO_54 := n3_; have HL420_0 := n4_; have HR420_0 := Aside0.mk (Kd.V_reads' (e := 2) (base := w.heap.size) HL420_0.out).2.2; have HR420_0 := n5_; have HB := n6_; have BK421 := n7_; have GW421 := n8_; have GE421 := n9_; clear n0_ n1_ n2_ n3_ n4_ n5_ n6_ n7_ n8_ n9_; clear hb hbox hg; have hcz34_0 : w33.cell? ⟨gb421, 0, none⟩ = some (.slice none 0 0) := (blk_cell BK421.out 0).trans rfl; have hcz34_1 : w33.cell? ⟨gb421, 1, none⟩ = some (.int .i64 0) := (blk_cell BK421.out 1).trans rfl; have hfz34_0 := blk_frozen BK421.out 0; have hfz34_1 := blk_frozen BK421.out 1) | ((with_reducible refine gate_store (t := 26) (p := 13) rfl ?_); refine store_event (t := 26) (p := 13) (v := ?vo_w35) (w1 := ((w33.setCell ⟨gb421, 0, none⟩ (.slice A420_0 ((rd_T26 l2 x56_2).f0).length c420_0)).setCell ⟨gb421, 1, none⟩ (.int .i64 ((rd_T26 l2 x56_2).f1)))) ?hg ?ho ?hn ?hr ?_; (case ho => rfl); (case hg => rfl); (case hn => rfl); (case hr => first | (go_simp; done) | (go_simp; rfl)); intro w35 hw; have n0_ : Aside0 (Kd.V k26 26 w35 w.heap.size (fun k_ => (P2_ k_ ∨ w.heap.size ≤ k_) ∧ some k_ ≠ (.slice (some ⟨go18, 0, none⟩) y419.length co20 : Value).ownBlock ∧ some k_ ≠ (u11 : Value).ownBlock ∧ k_ ≠ gb421) (.slice (some ad420) l2.length c2) l2) := ⟨(by rw [hw]; exact (by (with_reducible repeat (first | apply Kd.V_alloc | apply Kd.V_drewN | apply Kd.V_drew)); exact Kd.V_mono (Kd.V_far (p := ⟨gb421, 1, none⟩) (Kd.V_far (p := ⟨gb421, 0, none⟩) (Kd.V_mono HO_2.out (fun k_ hk => (⟨hk, hk.2⟩ : _ ∧ k_ ≠ gb421))) (fun _ hk => hk.2) (.slice A420_0 ((rd_T26 l2 x56_2).f0).length c420_0)) (fun _ hk => hk.2) (.int .i64 ((rd_T26 l2 x56_2).f1))) (fun _ hk => ⟨hk.1.1.1, ⟨hk.1.1.2.1, ⟨hk.1.1.2.2, hk.1.2⟩⟩⟩)))⟩; have n1_ : Aside0 (Kd.R (Kd.int .i64) 2 w35 w.heap.size (fun k_ => (w.heap.size ≤ k_)) (.slice (some ⟨go18, 0, none⟩) y419.length co20) y419) := ⟨(by rw [hw]; exact (by (with_reducible repeat (first | apply Kd.R_alloc | apply Kd.R_drewN | apply Kd.R_drew)); exact Kd.R_mono (Kd.R_far (p := ⟨gb421, 1, none⟩) (Kd.R_far (p := ⟨gb421, 0, none⟩) (Kd.R_types HO_10.out BK421.out (by decide)) (fun _ hk => hk.2) (.slice A420_0 ((rd_T26 l2 x56_2).f0).length c420_0)) (fun _ hk => hk.2) (.int .i64 ((rd_T26 l2 x56_2).f1))) (fun _ hk => hk.1)))⟩; have n2_ : Aside0 (Kd.N k26 26 w35 w.heap.size (fun k_ => (P2_ k_ ∨ w.heap.size ≤ k_) ∧ some k_ ≠ (.slice (some ⟨go18, 0, none⟩) y419.length co20 : Value).ownBlock ∧ k_ ≠ gb421) u11 x11_2) := ⟨(by rw [hw]; exact (by (with_reducible repeat (first | apply Kd.N_alloc | apply Kd.N_drewN | apply Kd.N_drew)); exact Kd.N_mono (Kd.N_far (p := ⟨gb421, 1, none⟩) (Kd.N_far (p := ⟨gb421, 0, none⟩) (Kd.N_mono HO_11.out (fun k_ hk => (⟨hk, hk.2⟩ : _ ∧ k_ ≠ gb421))) (fun _ hk => hk.2) (.slice A420_0 ((rd_T26 l2 x56_2).f0).length c420_0)) (fun _ hk => hk.2) (.int .i64 ((rd_T26 l2 x56_2).f1))) (fun _ hk => ⟨hk.1.1.1, ⟨hk.1.1.2, hk.1.2⟩⟩)))⟩; have n3_ : Aside0 (Kd.V k26 26 w35 w.heap.size (fun k_ => (P2_ k_ ∨ w.heap.size ≤ k_) ∧ some k_ ≠ (.slice (some ⟨go18, 0, none⟩) y419.length co20 : Value).ownBlock ∧ some k_ ≠ (u11 : Value).ownBlock ∧ k_ ≠ gb421) (.slice (some ad420) l2.length c2) l2) := ⟨(by rw [hw]; exact (by (with_reducible repeat (first | apply Kd.V_alloc | apply Kd.V_drewN | apply Kd.V_drew)); exact Kd.V_mono (Kd.V_far (p := ⟨gb421, 1, none⟩) (Kd.V_far (p := ⟨gb421, 0, none⟩) (Kd.V_mono HO_54.out (fun k_ hk => (⟨hk, hk.2⟩ : _ ∧ k_ ≠ gb421))) (fun _ hk => hk.2) (.slice A420_0 ((rd_T26 l2 x56_2).f0).length c420_0)) (fun _ hk => hk.2) (.int .i64 ((rd_T26 l2 x56_2).f1))) (fun _ hk => ⟨hk.1.1.1, ⟨hk.1.1.2.1, ⟨hk.1.1.2.2, hk.1.2⟩⟩⟩)))⟩; have n4_ : Aside0 (Kd.V (Kd.int .i64) 2 w35 w.heap.size (fun k_ => (P2_ k_ ∨ w.heap.size ≤ k_) ∧ some k_ ≠ (.slice (some ⟨go18, 0, none⟩) y419.length co20 : Value).ownBlock ∧ some k_ ≠ (u11 : Value).ownBlock ∧ k_ ≠ gb421) (.slice A420_0 ((rd_T26 l2 x56_2).f0).length c420_0) ((rd_T26 l2 x56_2).f0)) := ⟨(by rw [hw]; exact (by (with_reducible repeat (first | apply Kd.V_alloc | apply Kd.V_drewN | apply Kd.V_drew)); exact Kd.V_mono (Kd.V_far (p := ⟨gb421, 1, none⟩) (Kd.V_far (p := ⟨gb421, 0, none⟩) (Kd.V_mono HL420_0.out (fun k_ hk => (⟨hk, hk.2⟩ : _ ∧ k_ ≠ gb421))) (fun _ hk => hk.2) (.slice A420_0 ((rd_T26 l2 x56_2).f0).length c420_0)) (fun _ hk => hk.2) (.int .i64 ((rd_T26 l2 x56_2).f1))) (fun _ hk => ⟨hk.1.1.1, ⟨hk.1.1.2.1, ⟨hk.1.1.2.2, hk.1.2⟩⟩⟩)))⟩; have n5_ : Aside0 (w35.heap[gb421]? = some (.cells #[.slice A420_0 ((rd_T26 l2 x56_2).f0).length c420_0, .int .i64 ((rd_T26 l2 x56_2).f1)] 26 (0, 0))) := ⟨(by rw [hw]; exact (by (with_reducible repeat (first | refine blk_drewN ?_ _ | refine blk_drew ?_ | refine blk_alloc ?_ _)); refine blk_put (cs := #[.slice A420_0 ((rd_T26 l2 x56_2).f0).length c420_0, .int .i64 0]) ?_ 1 _ rfl; (with_reducible repeat (first | refine blk_drewN ?_ _ | refine blk_drew ?_ | refine blk_alloc ?_ _)); refine blk_put (cs := #[.slice none 0 0, .int .i64 0]) ?_ 0 _ rfl; (with_reducible repeat (first | refine blk_drewN ?_ _ | refine blk_drew ?_ | refine blk_alloc ?_ _)); exact BK421.out))⟩; have n6_ : Aside0 (Below w.heap.size w w35) := ⟨(by rw [hw]; exact (by repeat (first | (with_reducible first | exact HB.out | apply below_alloc | apply pw_below_drewN | apply below_drew1 | refine below_set ?_ GE421.out) | exact HB.out)))⟩; clear hw; clear HO_2; clear HO_10; clear HO_11; clear HO_54; clear HL420_0; clear BK421; clear HB; have HO_2 := n0_; have HO_10 := n1_; have HO_11 := n2_; have HO_54 := n3_; have HL420_0 := n4_; have HR420_0 := Aside0.mk (Kd.V_reads' (e := 2) (base := w.heap.size) HL420_0.out).2.2; have BK421 := n5_; have HB := n6_; clear n0_ n1_ n2_ n3_ n4_ n5_ n6_; have hcz36_0 : w35.cell? ⟨gb421, 0, none⟩ = some (.slice A420_0 ((rd_T26 l2 x56_2).f0).length c420_0) := (blk_cell BK421.out 0).trans rfl; have hcz36_1 : w35.cell? ⟨gb421, 1, none⟩ = some (.int .i64 ((rd_T26 l2 x56_2).f1)) := (blk_cell BK421.out 1).trans rfl; have hfz36_0 := blk_frozen BK421.out 0; have hfz36_1 := blk_frozen BK421.out 1) | ((with_reducible refine gate_builtin (b := .append) (xs := #[.tmp 69, .tmp 77]) rfl ?_); (try (refine gate_guard (by rfl) ?_; dsimp only)); at_builtin; refine Kd.N_append k26 (w0 := w) w.heap.size rfl (.tmp 69) (.tmp 77) 66 26 (.agg #[(.slice none 0 0), (.int .i64 0)]) 32 rfl Try.underlying66 info26 rfl (by decide) (by omega) u11 x11_2 (⟨(rd_T26 l2 x56_2).f0, wrap64 (((rd_T26 l2 x56_2).f1) + (Int.tmod a3 1099511627776))⟩ : S26) [.slice A420_0 ((rd_T26 l2 x56_2).f0).length c420_0, .int .i64 (wrap64 (((rd_T26 l2 x56_2).f1) + (Int.tmod a3 1099511627776)))] (fun k_ => (P2_ k_ ∨ w.heap.size ≤ k_) ∧ some k_ ≠ (.slice (some ⟨go18, 0, none⟩) y419.length co20 : Value).ownBlock ∧ k_ ≠ gb421) (fun k_ => ((fun k_ => (P2_ k_ ∨ w.heap.size ≤ k_) ∧ some k_ ≠ (.slice (some ⟨go18, 0, none⟩) y419.length co20 : Value).ownBlock ∧ k_ ≠ gb421)) k_ ∧ some k_ ≠ (u11 : Value).ownBlock) rfl rfl ?aP (fun _ hk => hk) ?aF ?aO ?aB ?aS ?aL ?_; (case aP => exact (k26_mkF _ _ (⟨(rd_T26 l2 x56_2).f0, wrap64 (((rd_T26 l2 x56_2).f1) + (Int.tmod a3 1099511627776))⟩ : S26) (Kd.V_reads' (Kd.V_mono (ok' := (fun k_ => ((fun k_ => (P2_ k_ ∨ w.heap.size ≤ k_) ∧ some k_ ≠ (.slice (some ⟨go18, 0, none⟩) y419.length co20 : Value).ownBlock ∧ k_ ≠ gb421)) k_ ∧ some k_ ≠ (u11 : Value).ownBlock)) (HL420_0.out) (fun k_ hk => ⟨⟨hk.1, ⟨hk.2.1, hk.2.2.2⟩⟩, hk.2.2.1⟩))).2.1 (Kd.V_F (Kd.V_mono (ok' := (fun k_ => ((fun k_ => (P2_ k_ ∨ w.heap.size ≤ k_) ∧ some k_ ≠ (.slice (some ⟨go18, 0, none⟩) y419.length co20 : Value).ownBlock ∧ k_ ≠ gb421)) k_ ∧ some k_ ≠ (u11 : Value).ownBlock)) (HL420_0.out) (fun k_ hk => ⟨⟨hk.1, ⟨hk.2.1, hk.2.2.2⟩⟩, hk.2.2.1⟩))))); (case aB => exact (by repeat (first | (with_reducible first | exact HB.out | apply below_alloc | apply pw_below_drewN | apply below_drew1 | refine below_set ?_ GE421.out) | exact HB.out))); (case aF => exact (fun k_ hk => ⟨(.inr (Nat.le_trans (below_size (by repeat (first | (with_reducible first | exact HB.out | apply below_alloc | apply pw_below_drewN | apply below_drew1 | refine below_set ?_ GE421.out) | exact HB.out))) hk)), Kd.fresh' (Kd.R_lt (by (with_reducible repeat (first | apply Kd.R_alloc | apply Kd.R_drewN | apply Kd.R_drew)); exact HO_10.out)) k_ hk, Kd.freshB (g := gb421) (o := .cells #[.slice A420_0 ((rd_T26 l2 x56_2).f0).length c420_0, .int .i64 ((rd_T26 l2 x56_2).f1)] 26 (0, 0)) (by (with_reducible repeat (first | refine blk_drewN ?_ _ | refine blk_drew ?_ | refine blk_alloc ?_ _)); exact BK421.out) k_ hk⟩)); (case aO => exact (by (with_reducible repeat (first | apply Kd.N_alloc | apply Kd.N_drewN | apply Kd.N_drew)); exact HO_11.out)); (case aS => exact (below_size (by repeat (first | (with_reducible first | exact HB.out | apply below_alloc | apply pw_below_drewN | apply below_drew1 | refine below_set ?_ GE421.out) | exact HB.out)))); (case aL => have := LMc32.out; omega); intro v423 w37 ho hb hg hat; rw [← Ny422.out] at ho; have n0_ := Aside0.mk (Kd.V_afterv (ok := (fun k_ => (P2_ k_ ∨ w.heap.size ≤ k_) ∧ some k_ ≠ (.slice (some ⟨go18, 0, none⟩) y419.length co20 : Value).ownBlock ∧ k_ ≠ gb421)) (by (with_reducible repeat (first | apply Kd.V_alloc | apply Kd.V_drewN | apply Kd.V_drew)); exact Kd.V_mono HO_2.out (fun _ hk => ⟨⟨hk.1, ⟨hk.2.1, hk.2.2.2⟩⟩, hk.2.2.1⟩)) hg hat); have n1_ := Aside0.mk (Kd.R_over' (by (with_reducible repeat (first | apply Kd.R_alloc | apply Kd.R_drewN | apply Kd.R_drew)); exact HO_10.out) (Kd.N_typed (by (with_reducible repeat (first | apply Kd.N_alloc | apply Kd.N_drewN | apply Kd.N_drew)); exact HO_11.out)) (by decide) hg); have n2_ := Aside0.mk (Kd.V_afterv (ok := (fun k_ => (P2_ k_ ∨ w.heap.size ≤ k_) ∧ some k_ ≠ (.slice (some ⟨go18, 0, none⟩) y419.length co20 : Value).ownBlock ∧ k_ ≠ gb421)) (by (with_reducible repeat (first | apply Kd.V_alloc | apply Kd.V_drewN | apply Kd.V_drew)); exact Kd.V_mono HO_54.out (fun _ hk => ⟨⟨hk.1, ⟨hk.2.1, hk.2.2.2⟩⟩, hk.2.2.1⟩)) hg hat); have n3_ := Aside0.mk (Kd.V_afterv (ok := (fun k_ => (P2_ k_ ∨ w.heap.size ≤ k_) ∧ some k_ ≠ (.slice (some ⟨go18, 0, none⟩) y419.length co20 : Value).ownBlock ∧ k_ ≠ gb421)) (by (with_reducible repeat (first | apply Kd.V_alloc | apply Kd.V_drewN | apply Kd.V_drew)); exact Kd.V_mono HL420_0.out (fun _ hk => ⟨⟨hk.1, ⟨hk.2.1, hk.2.2.2⟩⟩, hk.2.2.1⟩)) hg hat); have n4_ := Aside0.mk (blk_grown (g := gb421) (o := .cells #[.slice A420_0 ((rd_T26 l2 x56_2).f0).length c420_0, .int .i64 ((rd_T26 l2 x56_2).f1)] 26 (0, 0)) (by (with_reducible repeat (first | refine blk_drewN ?_ _ | refine blk_drew ?_ | refine blk_alloc ?_ _)); exact BK421.out) hg (Kd.N_away HO_11.out (fun _ hk => hk.2.2))); have n5_ := Aside0.mk (hb); have n6_ := Aside0.mk (ho); clear HO_2; clear HO_10; clear HO_54; clear HL420_0; clear BK421; clear HB; clear HO_11; have HO_2 := n0_; have HO_10 := n1_; have HO_54 := n2_; have HL420_0 := n3_; have HR420_0 := Aside0.mk (Kd.V_reads' (e := 2) (base := w.heap.size) HL420_0.out).2.2; have BK421 := n4_; have HB := n5_; have HO424 := n6_; clear n0_ n1_ n2_ n3_ n4_ n5_ n6_; clear ho hb hg hat))
                                (try simp only [← hl10_2])
                                go_roundg k2
                                case measure => have := HJ6.out; have := HK2.out; omega
                                case rel => exact ⟨(y422), (wrap64 (x56_2 + 1)), (by first | rfl | (simp; done) | (simp [*]; done)), H', ⟨by have := HJ6.out; have := HK2.out; omega⟩, ⟨by (try simp only [hl10_2]); (with_reducible repeat (first | apply Kd.V_alloc | apply Kd.V_drewN | apply Kd.V_drew)); exact Kd.V_mono HO_2.out (fun _ hk => ⟨hk.1.1, ⟨hk.1.2.1, hk.2⟩⟩)⟩, ⟨by (try simp only [hl10_2]); (with_reducible repeat (first | apply Kd.R_alloc | apply Kd.R_drewN | apply Kd.R_drew)); exact HO_10.out⟩, ⟨by (try simp only [hl10_2]); (with_reducible repeat (first | apply Kd.N_alloc | apply Kd.N_drewN | apply Kd.N_drew)); exact Kd.N_mono HO424.out (fun _ hk => ⟨hk.1, hk.2.1⟩)⟩, ⟨by (try simp only [hl10_2]); (with_reducible repeat (first | apply Kd.V_alloc | apply Kd.V_drewN | apply Kd.V_drew)); exact Kd.V_mono HO_54.out (fun _ hk => ⟨hk.1.1, ⟨hk.1.2.1, hk.2⟩⟩)⟩, ⟨by repeat (first | (with_reducible first | exact HB.out | apply below_alloc | apply pw_below_drewN | apply below_drew1 | refine below_set ?_ GE421.out) | exact HB.out)⟩⟩
                              · rw [if_neg c32] at H
                                exact absurd H (by simp)
                        · rw [if_neg c25] at H
                          exact absurd H (by simp)
                      · rw [if_neg c24] at H
                        exact absurd H (by simp)
                    · rw [if_neg c23] at H
                      have c23b0 : decide (x56_2 < (l2.length : Int)) = false := decide_eq_false c23
                      clear c23
                      have H' := Aside0.mk H
                      clear H
                      go_wp2
                      go_loopg [82] k2 (fun kq v82 w' => ∃ (x82_3 : Int), v82 = .int .i64 x82_3 ∧ Aside0 (thrumlaw14_LinearBase.l1 kq l0 a1 l2 true y419 x11_2 l0 (l0.length : Int) x82_3 = some r) ∧ Aside0 (kq ≤ k2) ∧ Aside0 (Kd.V k26 26 w' w.heap.size (fun k_ => (P2_ k_ ∨ w.heap.size ≤ k_) ∧ some k_ ≠ ((.slice (some ⟨go18, 0, none⟩) y419.length co20) : Value).ownBlock ∧ some k_ ≠ (u11 : Value).ownBlock) (.slice A2 l2.length c2) l2) ∧ Aside0 (Kd.R (Kd.int .i64) 2 w' w.heap.size (fun k_ => (w.heap.size ≤ k_)) (.slice (some ⟨go18, 0, none⟩) y419.length co20) y419) ∧ Aside0 (Kd.N k26 26 w' w.heap.size (fun k_ => (P2_ k_ ∨ w.heap.size ≤ k_) ∧ some k_ ≠ ((.slice (some ⟨go18, 0, none⟩) y419.length co20) : Value).ownBlock) u11 x11_2) ∧ Aside0 (Below w.heap.size w w'))
                      case atStart => exact ⟨(0), (by first | rfl | (simp; done) | (simp [*]; done)), H', ⟨Nat.le_refl _⟩, ⟨by (try simp only [hl10_2]); (with_reducible repeat (first | apply Kd.V_alloc | apply Kd.V_drewN | apply Kd.V_drew)); exact HO_2.out⟩, ⟨by (try simp only [hl10_2]); (with_reducible repeat (first | apply Kd.R_alloc | apply Kd.R_drewN | apply Kd.R_drew)); exact HO_10.out⟩, ⟨by (try simp only [hl10_2]); (with_reducible repeat (first | apply Kd.N_alloc | apply Kd.N_drewN | apply Kd.N_drew)); exact HO_11.out⟩, ⟨by repeat (first | (with_reducible first | exact HB.out | apply below_alloc | apply pw_below_drewN | apply below_drew1) | exact HB.out)⟩⟩
                      case round =>
                        clear H'
                        try clear c1
                        try clear p1
                        try clear q1
                        try clear hx1
                        try clear c2
                        try clear p2
                        try clear c3
                        try clear c4
                        try clear p4
                        try clear q4
                        try clear hx4
                        try clear c6
                        try clear p6
                        try clear c10
                        try clear c13
                        try clear c14
                        try clear c16
                        try clear c16b0
                        try clear c17
                        try clear c17b0
                        try clear p18
                        try clear q18
                        try clear hx18
                        try clear hf18
                        try clear c23
                        try clear c23b0
                        try clear c24
                        try clear c24b0
                        try clear c25
                        try clear c25b0
                        try clear c26
                        try clear c26b0
                        try clear c29
                        try clear c29b0
                        try clear c30
                        try clear c32
                        try clear hcz28_0
                        try clear hcz28_1
                        try clear hcz31_0
                        try clear hcz31_1
                        try clear hcz34_0
                        try clear hcz34_1
                        try clear hcz36_0
                        try clear hcz36_1
                        try clear hfz28_0
                        try clear hfz28_1
                        try clear hfz31_0
                        try clear hfz31_1
                        try clear hfz34_0
                        try clear hfz34_1
                        try clear hfz36_0
                        try clear hfz36_1
                        try clear hx18_0
                        try clear hx418_0
                        try clear hx420_0
                        try clear hx420_1
                        try clear p1
                        try clear p18
                        try clear p2
                        try clear p4
                        try clear p418
                        try clear p420
                        try clear p6
                        try clear q1
                        try clear q18
                        try clear q4
                        try clear q418
                        try clear q420
                        obtain ⟨x82_3, rfl, HA, HK3, HO_2, HO_10, HO_11, HB⟩ := hrel
                        cases gk with
                        | zero => exact absurd HA.out (by simp [thrumlaw14_LinearBase.l1])
                        | succ k3 =>
                          have H := HA.out
                          clear HA
                          simp only [thrumlaw14_LinearBase.l1] at H
                          by_cases c38 : x82_3 < (l0.length : Int)
                          · rw [if_pos c38] at H
                            have c38b0 : decide (x82_3 < (l0.length : Int)) = true := decide_eq_true c38
                            clear c38
                            by_cases c39 : 0 ≤ x82_3
                            · rw [if_pos c39] at H
                              have c39b0 : decide (0 ≤ x82_3) = true := decide_eq_true c39
                              clear c39
                              by_cases c40 : x82_3 < (l0.length : Int)
                              · rw [if_pos c40] at H
                                have c40b0 : decide (x82_3 < (l0.length : Int)) = true := decide_eq_true c40
                                clear c40
                                by_cases c41 : (rd l0 x82_3) > 1099511627776
                                · rw [if_pos c41] at H
                                  have c41b0 : decide (1099511627776 < (rd l0 x82_3)) = true := decide_eq_true c41
                                  clear c41
                                  obtain rfl := Option.some.inj H
                                  have p425 : 0 ≤ (x82_3 : Int) := of_decide_eq_true (by first | (with_reducible assumption) | assumption)
                                  have q425 : x82_3 < (l0.length : Int) := of_decide_eq_true (by first | (with_reducible assumption) | assumption)
                                  obtain ⟨ad425, e425, hx425_0⟩ := Kd.at_int HR0.out x82_3 p425 q425
                                  cases e425
                                  (try (replace hx425_0 := (HB.out.cell (World.block_lt_of_cell? w _ hx425_0)).trans hx425_0))
                                  replace p425 := eq_true p425
                                  replace q425 := eq_true q425
                                  go_wp2
                                  go_ret
                                  exact ⟨by first | rfl | (simp [errW_none, errW_some] <;> rfl) | (simp only [← hji15]; first | rfl | (simp [errW_none, errW_some] <;> rfl)) | (simp [*, errW_none, errW_some] <;> rfl), by repeat (first | (with_reducible first | exact HB.out | apply below_alloc | apply pw_below_drewN | apply below_drew1) | exact HB.out)⟩
                                · rw [if_neg c41] at H
                                  have c41b0 : decide (1099511627776 < (rd l0 x82_3)) = false := decide_eq_false c41
                                  clear c41
                                  by_cases c42 : (rd l0 x82_3) < (-1099511627776)
                                  · rw [if_pos c42] at H
                                    have c42b0 : decide ((rd l0 x82_3) < (-1099511627776)) = true := decide_eq_true c42
                                    clear c42
                                    obtain rfl := Option.some.inj H
                                    have p425 : 0 ≤ (x82_3 : Int) := of_decide_eq_true (by first | (with_reducible assumption) | assumption)
                                    have q425 : x82_3 < (l0.length : Int) := of_decide_eq_true (by first | (with_reducible assumption) | assumption)
                                    obtain ⟨ad425, e425, hx425_0⟩ := Kd.at_int HR0.out x82_3 p425 q425
                                    cases e425
                                    (try (replace hx425_0 := (HB.out.cell (World.block_lt_of_cell? w _ hx425_0)).trans hx425_0))
                                    replace p425 := eq_true p425
                                    replace q425 := eq_true q425
                                    go_wp2
                                    go_ret
                                    exact ⟨by first | rfl | (simp [errW_none, errW_some] <;> rfl) | (simp only [← hji15]; first | rfl | (simp [errW_none, errW_some] <;> rfl)) | (simp [*, errW_none, errW_some] <;> rfl), by repeat (first | (with_reducible first | exact HB.out | apply below_alloc | apply pw_below_drewN | apply below_drew1) | exact HB.out)⟩
                                  · rw [if_neg c42] at H
                                    have c42b0 : decide ((rd l0 x82_3) < (-1099511627776)) = false := decide_eq_false c42
                                    clear c42
                                    have H' := Aside0.mk H
                                    clear H
                                    have p425 : 0 ≤ (x82_3 : Int) := of_decide_eq_true (by first | (with_reducible assumption) | assumption)
                                    have q425 : x82_3 < (l0.length : Int) := of_decide_eq_true (by first | (with_reducible assumption) | assumption)
                                    obtain ⟨ad425, e425, hx425_0⟩ := Kd.at_int HR0.out x82_3 p425 q425
                                    cases e425
                                    (try (replace hx425_0 := (HB.out.cell (World.block_lt_of_cell? w _ hx425_0)).trans hx425_0))
                                    replace p425 := eq_true p425
                                    replace q425 := eq_true q425
                                    go_wp2
                                    go_roundg k3
                                    case measure => have := HJ6.out; have := HK2.out; have := HK3.out; omega
                                    case rel => exact ⟨(wrap64 (x82_3 + 1)), (by first | rfl | (simp; done) | (simp [*]; done)), H', ⟨by have := HJ6.out; have := HK2.out; have := HK3.out; omega⟩, ⟨by (try simp only [hl10_2]); (with_reducible repeat (first | apply Kd.V_alloc | apply Kd.V_drewN | apply Kd.V_drew)); exact HO_2.out⟩, ⟨by (try simp only [hl10_2]); (with_reducible repeat (first | apply Kd.R_alloc | apply Kd.R_drewN | apply Kd.R_drew)); exact HO_10.out⟩, ⟨by (try simp only [hl10_2]); (with_reducible repeat (first | apply Kd.N_alloc | apply Kd.N_drewN | apply Kd.N_drew)); exact HO_11.out⟩, ⟨by repeat (first | (with_reducible first | exact HB.out | apply below_alloc | apply pw_below_drewN | apply below_drew1) | exact HB.out)⟩⟩
                              · rw [if_neg c40] at H
                                exact absurd H (by simp)
                            · rw [if_neg c39] at H
                              exact absurd H (by simp)
                          · rw [if_neg c38] at H
                            have c38b0 : decide (x82_3 < (l0.length : Int)) = false := decide_eq_false c38
                            clear c38
                            have H' := Aside0.mk H
                            clear H
                            go_wp2
                            go_loopg [96] k3 (fun kq v96 w' => ∃ (x96_4 : Int), v96 = .int .i64 x96_4 ∧ Aside0 (thrumlaw14_LinearBase.l2 kq l0 a1 l2 true y419 x11_2 l2 (l2.length : Int) x96_4 = some r) ∧ Aside0 (kq ≤ k3) ∧ Aside0 (Kd.V k26 26 w' w.heap.size (fun k_ => (P2_ k_ ∨ w.heap.size ≤ k_) ∧ some k_ ≠ ((.slice (some ⟨go18, 0, none⟩) y419.length co20) : Value).ownBlock ∧ some k_ ≠ (u11 : Value).ownBlock) (.slice A2 l2.length c2) l2) ∧ Aside0 (Kd.R (Kd.int .i64) 2 w' w.heap.size (fun k_ => (w.heap.size ≤ k_)) (.slice (some ⟨go18, 0, none⟩) y419.length co20) y419) ∧ Aside0 (Kd.N k26 26 w' w.heap.size (fun k_ => (P2_ k_ ∨ w.heap.size ≤ k_) ∧ some k_ ≠ ((.slice (some ⟨go18, 0, none⟩) y419.length co20) : Value).ownBlock) u11 x11_2) ∧ Aside0 (Kd.V k26 26 w' w.heap.size (fun k_ => (P2_ k_ ∨ w.heap.size ≤ k_) ∧ some k_ ≠ ((.slice (some ⟨go18, 0, none⟩) y419.length co20) : Value).ownBlock ∧ some k_ ≠ (u11 : Value).ownBlock) (.slice A2 l2.length c2) l2) ∧ Aside0 (Below w.heap.size w w'))
                            case atStart => exact ⟨(0), (by first | rfl | (simp; done) | (simp [*]; done)), H', ⟨Nat.le_refl _⟩, ⟨by (try simp only [hl10_2]); (with_reducible repeat (first | apply Kd.V_alloc | apply Kd.V_drewN | apply Kd.V_drew)); exact HO_2.out⟩, ⟨by (try simp only [hl10_2]); (with_reducible repeat (first | apply Kd.R_alloc | apply Kd.R_drewN | apply Kd.R_drew)); exact HO_10.out⟩, ⟨by (try simp only [hl10_2]); (with_reducible repeat (first | apply Kd.N_alloc | apply Kd.N_drewN | apply Kd.N_drew)); exact HO_11.out⟩, ⟨by (try simp only [hl10_2]); (with_reducible repeat (first | apply Kd.V_alloc | apply Kd.V_drewN | apply Kd.V_drew)); exact HO_2.out⟩, ⟨by repeat (first | (with_reducible first | exact HB.out | apply below_alloc | apply pw_below_drewN | apply below_drew1) | exact HB.out)⟩⟩
                            case round =>
                              clear H'
                              try clear c1
                              try clear p1
                              try clear q1
                              try clear hx1
                              try clear c2
                              try clear p2
                              try clear c3
                              try clear c4
                              try clear p4
                              try clear q4
                              try clear hx4
                              try clear c6
                              try clear p6
                              try clear c10
                              try clear c13
                              try clear c14
                              try clear c16
                              try clear c16b0
                              try clear c17
                              try clear c17b0
                              try clear p18
                              try clear q18
                              try clear hx18
                              try clear hf18
                              try clear c23
                              try clear c23b0
                              try clear c24
                              try clear c24b0
                              try clear c25
                              try clear c25b0
                              try clear c26
                              try clear c26b0
                              try clear c29
                              try clear c29b0
                              try clear c30
                              try clear c32
                              try clear c38
                              try clear c38b0
                              try clear c39
                              try clear c39b0
                              try clear c40
                              try clear c40b0
                              try clear c41
                              try clear c41b0
                              try clear p41
                              try clear q41
                              try clear hx41
                              try clear c42
                              try clear c42b0
                              try clear p42
                              try clear q42
                              try clear hx42
                              try clear hcz28_0
                              try clear hcz28_1
                              try clear hcz31_0
                              try clear hcz31_1
                              try clear hcz34_0
                              try clear hcz34_1
                              try clear hcz36_0
                              try clear hcz36_1
                              try clear hfz28_0
                              try clear hfz28_1
                              try clear hfz31_0
                              try clear hfz31_1
                              try clear hfz34_0
                              try clear hfz34_1
                              try clear hfz36_0
                              try clear hfz36_1
                              try clear hx18_0
                              try clear hx418_0
                              try clear hx420_0
                              try clear hx420_1
                              try clear hx425_0
                              try clear p1
                              try clear p18
                              try clear p2
                              try clear p4
                              try clear p418
                              try clear p420
                              try clear p425
                              try clear p6
                              try clear q1
                              try clear q18
                              try clear q4
                              try clear q418
                              try clear q420
                              try clear q425
                              obtain ⟨x96_4, rfl, HA, HK4, HO_2, HO_10, HO_11, HO_94, HB⟩ := hrel
                              cases gk with
                              | zero => exact absurd HA.out (by simp [thrumlaw14_LinearBase.l2])
                              | succ k4 =>
                                have H := HA.out
                                clear HA
                                simp only [thrumlaw14_LinearBase.l2] at H
                                by_cases c43 : x96_4 < (l2.length : Int)
                                · rw [if_pos c43] at H
                                  have c43b0 : decide (x96_4 < (l2.length : Int)) = true := decide_eq_true c43
                                  clear c43
                                  by_cases c44 : 0 ≤ x96_4
                                  · rw [if_pos c44] at H
                                    have c44b0 : decide (0 ≤ x96_4) = true := decide_eq_true c44
                                    clear c44
                                    by_cases c45 : x96_4 < (l2.length : Int)
                                    · rw [if_pos c45] at H
                                      have c45b0 : decide (x96_4 < (l2.length : Int)) = true := decide_eq_true c45
                                      clear c45
                                      have H' := Aside0.mk H
                                      clear H
                                      have p426 : 0 ≤ (x96_4 : Int) := of_decide_eq_true (by first | (with_reducible assumption) | assumption)
                                      have q426 : x96_4 < (l2.length : Int) := of_decide_eq_true (by first | (with_reducible assumption) | assumption)
                                      obtain ⟨ad426, A426_0, c426_0, e426, hx426_0, hx426_1, hl426_0, hi426_0⟩ := at_T26 (Kd.V_reads' HO_94.out).2.2 x96_4 p426 q426
                                      cases e426
                                      obtain ⟨ce426, hce426, hMe426, hcc426⟩ := Kd.V_get HO_94.out z26 x96_4 p426 (by first | exact q426 | exact of_decide_eq_true (by first | (with_reducible assumption) | assumption) | (have e_ := (Kd.V_reads' HO_94.out).1; omega))
                                      obtain ⟨ua426_0, uc426_0, rfl, ul426_0, ge426_0⟩ := k26_openF hMe426
                                      have hv426_0 := hcc426 0 _ rfl
                                      rw [Nat.add_zero] at hv426_0
                                      replace hv426_0 := Option.some.inj (hv426_0.symm.trans hx426_0)
                                      injection hv426_0 with hva_ hvn_ hvc_
                                      rw [hva_] at ge426_0
                                      rw [hvc_] at ul426_0
                                      have HL426_0 := Aside0.mk (show Kd.V (Kd.int .i64) 2 _ w.heap.size _ _ ((rd_T26 l2 x96_4).f0) from Kd.V_mk ul426_0 ge426_0)
                                      clear hva_ hvn_ hvc_ ge426_0 ul426_0
                                      clear hcc426 hce426
                                      have HR426_0 := Aside0.mk hi426_0
                                      have HC426_0 := Aside0.mk hl426_0
                                      clear hi426_0 hl426_0
                                      replace p426 := eq_true p426
                                      replace q426 := eq_true q426
                                      go_wp2_with (first | ((with_reducible refine gate_dst (N := 17) rfl ?_); (try (refine gate_guard (by rfl) ?_; dsimp only)); refine box_event ?hg (N := 17) ?hd (cs := #[.slice none 0 0, .int .i64 0]) (t := 26) ?hr ?_; (case hd => rfl); (case hg => rfl); (case hr => first | (go_simp; done) | (go_simp; rfl)); intro gb427 hg w46 hbox hb; have n0_ := Aside0.mk (Kd.V_below (Kd.V_elderB (by (with_reducible repeat (first | apply Kd.V_alloc | apply Kd.V_drewN | apply Kd.V_drew)); exact HO_2.out) gb427 (Nat.le_of_eq hg.symm)) hb); have n1_ := Aside0.mk (Kd.R_below (by (with_reducible repeat (first | apply Kd.R_alloc | apply Kd.R_drewN | apply Kd.R_drew)); exact HO_10.out) hb); have n2_ := Aside0.mk (Kd.N_below (Kd.N_elderB (by (with_reducible repeat (first | apply Kd.N_alloc | apply Kd.N_drewN | apply Kd.N_drew)); exact HO_11.out) gb427 (Nat.le_of_eq hg.symm)) hb); have n3_ := Aside0.mk (Kd.V_below (Kd.V_elderB (by (with_reducible repeat (first | apply Kd.V_alloc | apply Kd.V_drewN | apply Kd.V_drew)); exact HO_94.out) gb427 (Nat.le_of_eq hg.symm)) hb); have n4_ := Aside0.mk (Kd.V_below (Kd.V_elderB (by (with_reducible repeat (first | apply Kd.V_alloc | apply Kd.V_drewN | apply Kd.V_drew)); exact HL426_0.out) gb427 (Nat.le_of_eq hg.symm)) hb); have n5_ := Aside0.mk (Kd.C_below (by repeat (first | (with_reducible exact HR426_0.out) | (with_reducible refine Kd.C_alloc ?_ _) | (with_reducible refine Kd.C_drewN ?_ _) | (with_reducible refine Kd.C_drew ?_) | exact HR426_0.out)) hb); have n6_ := Aside0.mk (below_step (by repeat (first | (with_reducible first | exact HB.out | apply below_alloc | apply pw_below_drewN | apply below_drew1) | exact HB.out)) hb); have n7_ := Aside0.mk (hbox); have n8_ := Aside0.mk ((by rw [hg]; exact (below_size (by repeat (first | (with_reducible first | exact HB.out | apply below_alloc | apply pw_below_drewN | apply below_drew1) | exact HB.out))) : w.heap.size ≤ gb427)); have n9_ := Aside0.mk ((by rw [hg]; exact (below_size (by repeat (first | (with_reducible first | exact HB.out | apply below_alloc | apply pw_below_drewN | apply below_drew1) | exact HB.out))) : w.heap.size ≤ gb427)); clear HO_2; clear HO_10; clear HO_11; clear HO_94; clear HL426_0; clear HR426_0; clear HB; have HO_2 := n0_; have HO_10 := n1_; have HO_11 := n2_; have HO_94 := n3_; have HL426_0 := n4_; have HR426_0 := Aside0.mk (Kd.V_reads' (e := 2) (base := w.heap.size) HL426_0.out).2.2; have HR426_0 := n5_; have HB := n6_; have BK427 := n7_; have GW427 := n8_; have GE427 := n9_; clear n0_ n1_ n2_ n3_ n4_ n5_ n6_ n7_ n8_ n9_; clear hb hbox hg; have hcz47_0 : w46.cell? ⟨gb427, 0, none⟩ = some (.slice none 0 0) := (blk_cell BK427.out 0).trans rfl; have hcz47_1 : w46.cell? ⟨gb427, 1, none⟩ = some (.int .i64 0) := (blk_cell BK427.out 1).trans rfl; have hfz47_0 := blk_frozen BK427.out 0; have hfz47_1 := blk_frozen BK427.out 1))
                                      go_loopg [103] k4 (fun kq v103 w' => ∃ (x103_5 : Int), v103 = .int .i64 x103_5 ∧ Aside0 (thrumlaw14_LinearBase.l3 kq l0 a1 l2 true y419 x11_2 l2 (l2.length : Int) x96_4 ((rd_T26 l2 x96_4).f0) (((rd_T26 l2 x96_4).f0).length : Int) x103_5 = some r) ∧ Aside0 (kq ≤ k4) ∧ Aside0 (Kd.V k26 26 w' w.heap.size (fun k_ => (P2_ k_ ∨ w.heap.size ≤ k_) ∧ some k_ ≠ ((.slice (some ⟨go18, 0, none⟩) y419.length co20) : Value).ownBlock ∧ some k_ ≠ (u11 : Value).ownBlock ∧ k_ ≠ gb427) (.slice (some ad426) l2.length c2) l2) ∧ Aside0 (Kd.R (Kd.int .i64) 2 w' w.heap.size (fun k_ => (w.heap.size ≤ k_)) (.slice (some ⟨go18, 0, none⟩) y419.length co20) y419) ∧ Aside0 (Kd.N k26 26 w' w.heap.size (fun k_ => (P2_ k_ ∨ w.heap.size ≤ k_) ∧ some k_ ≠ ((.slice (some ⟨go18, 0, none⟩) y419.length co20) : Value).ownBlock ∧ k_ ≠ gb427) u11 x11_2) ∧ Aside0 (Kd.V k26 26 w' w.heap.size (fun k_ => (P2_ k_ ∨ w.heap.size ≤ k_) ∧ some k_ ≠ ((.slice (some ⟨go18, 0, none⟩) y419.length co20) : Value).ownBlock ∧ some k_ ≠ (u11 : Value).ownBlock ∧ k_ ≠ gb427) (.slice (some ad426) l2.length c2) l2) ∧ Aside0 (w'.heap[gb427]? = some (.cells #[(.slice A426_0 ((rd_T26 l2 x96_4).f0).length c426_0), .int .i64 ((rd_T26 l2 x96_4).f1)] 26 (0, 0))) ∧ Aside0 (Kd.C (Kd.int .i64) w' A426_0 ((rd_T26 l2 x96_4).f0).length ((rd_T26 l2 x96_4).f0)) ∧ Aside0 (Below w.heap.size w w'))
                                      case atStart => exact ⟨(0), (by first | rfl | (simp; done) | (simp [*]; done)), H', ⟨Nat.le_refl _⟩, ⟨by (try simp only [hl10_2]); (with_reducible repeat (first | apply Kd.V_alloc | apply Kd.V_drewN | apply Kd.V_drew)); exact Kd.V_mono (Kd.V_far (p := ⟨gb427, 1, none⟩) (Kd.V_far (p := ⟨gb427, 0, none⟩) (Kd.V_mono HO_2.out (fun k_ hk => (⟨hk, hk.2⟩ : _ ∧ k_ ≠ gb427))) (fun _ hk => hk.2) (.slice A426_0 ((rd_T26 l2 x96_4).f0).length c426_0)) (fun _ hk => hk.2) (.int .i64 ((rd_T26 l2 x96_4).f1))) (fun _ hk => ⟨hk.1.1.1, ⟨hk.1.1.2.1, ⟨hk.1.1.2.2, hk.1.2⟩⟩⟩)⟩, ⟨by (try simp only [hl10_2]); (with_reducible repeat (first | apply Kd.R_alloc | apply Kd.R_drewN | apply Kd.R_drew)); exact Kd.R_mono (Kd.R_far (p := ⟨gb427, 1, none⟩) (Kd.R_far (p := ⟨gb427, 0, none⟩) (Kd.R_types HO_10.out BK427.out (by decide)) (fun _ hk => hk.2) (.slice A426_0 ((rd_T26 l2 x96_4).f0).length c426_0)) (fun _ hk => hk.2) (.int .i64 ((rd_T26 l2 x96_4).f1))) (fun _ hk => hk.1)⟩, ⟨by (try simp only [hl10_2]); (with_reducible repeat (first | apply Kd.N_alloc | apply Kd.N_drewN | apply Kd.N_drew)); exact Kd.N_mono (Kd.N_far (p := ⟨gb427, 1, none⟩) (Kd.N_far (p := ⟨gb427, 0, none⟩) (Kd.N_mono HO_11.out (fun k_ hk => (⟨hk, hk.2⟩ : _ ∧ k_ ≠ gb427))) (fun _ hk => hk.2) (.slice A426_0 ((rd_T26 l2 x96_4).f0).length c426_0)) (fun _ hk => hk.2) (.int .i64 ((rd_T26 l2 x96_4).f1))) (fun _ hk => ⟨hk.1.1.1, ⟨hk.1.1.2, hk.1.2⟩⟩)⟩, ⟨by (try simp only [hl10_2]); (with_reducible repeat (first | apply Kd.V_alloc | apply Kd.V_drewN | apply Kd.V_drew)); exact Kd.V_mono (Kd.V_far (p := ⟨gb427, 1, none⟩) (Kd.V_far (p := ⟨gb427, 0, none⟩) (Kd.V_mono HO_94.out (fun k_ hk => (⟨hk, hk.2⟩ : _ ∧ k_ ≠ gb427))) (fun _ hk => hk.2) (.slice A426_0 ((rd_T26 l2 x96_4).f0).length c426_0)) (fun _ hk => hk.2) (.int .i64 ((rd_T26 l2 x96_4).f1))) (fun _ hk => ⟨hk.1.1.1, ⟨hk.1.1.2.1, ⟨hk.1.1.2.2, hk.1.2⟩⟩⟩)⟩, ⟨by (try simp only [hl10_2]); (with_reducible repeat (first | refine blk_drewN ?_ _ | refine blk_drew ?_ | refine blk_alloc ?_ _)); refine blk_put (cs := #[.slice A426_0 ((rd_T26 l2 x96_4).f0).length c426_0, .int .i64 0]) ?_ 1 _ rfl; (with_reducible repeat (first | refine blk_drewN ?_ _ | refine blk_drew ?_ | refine blk_alloc ?_ _)); refine blk_put (cs := #[.slice none 0 0, .int .i64 0]) ?_ 0 _ rfl; (with_reducible repeat (first | refine blk_drewN ?_ _ | refine blk_drew ?_ | refine blk_alloc ?_ _)); exact BK427.out⟩, ⟨(Kd.V_reads' (by (with_reducible repeat (first | apply Kd.V_alloc | apply Kd.V_drewN | apply Kd.V_drew)); exact (Kd.V_mono (Kd.V_far (p := ⟨gb427, 1, none⟩) (Kd.V_far (p := ⟨gb427, 0, none⟩) (Kd.V_mono HL426_0.out (fun k_ hk => (⟨hk, hk.2⟩ : _ ∧ k_ ≠ gb427))) (fun _ hk => hk.2) (.slice A426_0 ((rd_T26 l2 x96_4).f0).length c426_0)) (fun _ hk => hk.2) (.int .i64 ((rd_T26 l2 x96_4).f1))) (fun _ h_ => h_.1)))).2.2⟩, ⟨by repeat (first | (with_reducible first | exact HB.out | apply below_alloc | apply pw_below_drewN | apply below_drew1 | refine below_set ?_ GE427.out) | exact HB.out)⟩⟩
                                      case round =>
                                        clear H'
                                        try clear c1
                                        try clear p1
                                        try clear q1
                                        try clear hx1
                                        try clear c2
                                        try clear p2
                                        try clear c3
                                        try clear c4
                                        try clear p4
                                        try clear q4
                                        try clear hx4
                                        try clear c6
                                        try clear p6
                                        try clear c10
                                        try clear c13
                                        try clear c14
                                        try clear c16
                                        try clear c16b0
                                        try clear c17
                                        try clear c17b0
                                        try clear p18
                                        try clear q18
                                        try clear hx18
                                        try clear hf18
                                        try clear c23
                                        try clear c23b0
                                        try clear c24
                                        try clear c24b0
                                        try clear c25
                                        try clear c25b0
                                        try clear c26
                                        try clear c26b0
                                        try clear c29
                                        try clear c29b0
                                        try clear c30
                                        try clear c32
                                        try clear c38
                                        try clear c38b0
                                        try clear c39
                                        try clear c39b0
                                        try clear c40
                                        try clear c40b0
                                        try clear c41
                                        try clear c41b0
                                        try clear p41
                                        try clear q41
                                        try clear hx41
                                        try clear c42
                                        try clear c42b0
                                        try clear p42
                                        try clear q42
                                        try clear hx42
                                        try clear c43
                                        try clear c43b0
                                        try clear c44
                                        try clear c44b0
                                        try clear c45
                                        try clear c45b0
                                        try clear hcz28_0
                                        try clear hcz28_1
                                        try clear hcz31_0
                                        try clear hcz31_1
                                        try clear hcz34_0
                                        try clear hcz34_1
                                        try clear hcz36_0
                                        try clear hcz36_1
                                        try clear hcz47_0
                                        try clear hcz47_1
                                        try clear hfz28_0
                                        try clear hfz28_1
                                        try clear hfz31_0
                                        try clear hfz31_1
                                        try clear hfz34_0
                                        try clear hfz34_1
                                        try clear hfz36_0
                                        try clear hfz36_1
                                        try clear hfz47_0
                                        try clear hfz47_1
                                        try clear hx18_0
                                        try clear hx418_0
                                        try clear hx420_0
                                        try clear hx420_1
                                        try clear hx425_0
                                        try clear hx426_0
                                        try clear hx426_1
                                        try clear p1
                                        try clear p18
                                        try clear p2
                                        try clear p4
                                        try clear p41
                                        try clear p418
                                        try clear p42
                                        try clear p420
                                        try clear p425
                                        try clear p426
                                        try clear p6
                                        try clear q1
                                        try clear q18
                                        try clear q4
                                        try clear q41
                                        try clear q418
                                        try clear q42
                                        try clear q420
                                        try clear q425
                                        try clear q426
                                        obtain ⟨x103_5, rfl, HA, HK5, HO_2, HO_10, HO_11, HO_94, BK427, HR426_0, HB⟩ := hrel
                                        cases gk with
                                        | zero => exact absurd HA.out (by simp [thrumlaw14_LinearBase.l3])
                                        | succ k5 =>
                                          have H := HA.out
                                          clear HA
                                          simp only [thrumlaw14_LinearBase.l3] at H
                                          by_cases c48 : x103_5 < (((rd_T26 l2 x96_4).f0).length : Int)
                                          · rw [if_pos c48] at H
                                            have c48b0 : decide (x103_5 < (((rd_T26 l2 x96_4).f0).length : Int)) = true := decide_eq_true c48
                                            clear c48
                                            by_cases c49 : 0 ≤ x103_5
                                            · rw [if_pos c49] at H
                                              have c49b0 : decide (0 ≤ x103_5) = true := decide_eq_true c49
                                              clear c49
                                              by_cases c50 : x103_5 < (((rd_T26 l2 x96_4).f0).length : Int)
                                              · rw [if_pos c50] at H
                                                have c50b0 : decide (x103_5 < (((rd_T26 l2 x96_4).f0).length : Int)) = true := decide_eq_true c50
                                                clear c50
                                                by_cases c51 : (rd ((rd_T26 l2 x96_4).f0) x103_5) > 32768
                                                · rw [if_pos c51] at H
                                                  have c51b0 : decide (32768 < (rd ((rd_T26 l2 x96_4).f0) x103_5)) = true := decide_eq_true c51
                                                  clear c51
                                                  obtain rfl := Option.some.inj H
                                                  have p428 : 0 ≤ (x103_5 : Int) := of_decide_eq_true (by first | (with_reducible assumption) | assumption)
                                                  have q428 : x103_5 < (((rd_T26 l2 x96_4).f0).length : Int) := of_decide_eq_true (by first | (with_reducible assumption) | assumption)
                                                  obtain ⟨ad428, e428, hx428_0⟩ := Kd.at_int HR426_0.out x103_5 p428 q428
                                                  cases e428
                                                  (try (replace hx428_0 := (HB.out.cell (World.block_lt_of_cell? w _ hx428_0)).trans hx428_0))
                                                  replace p428 := eq_true p428
                                                  replace q428 := eq_true q428
                                                  go_wp2
                                                  go_ret
                                                  exact ⟨by first | rfl | (simp [errW_none, errW_some] <;> rfl) | (simp only [← hji15]; first | rfl | (simp [errW_none, errW_some] <;> rfl)) | (simp [*, errW_none, errW_some] <;> rfl), by repeat (first | (with_reducible first | exact HB.out | apply below_alloc | apply pw_below_drewN | apply below_drew1 | refine below_set ?_ GE427.out) | exact HB.out)⟩
                                                · rw [if_neg c51] at H
                                                  have c51b0 : decide (32768 < (rd ((rd_T26 l2 x96_4).f0) x103_5)) = false := decide_eq_false c51
                                                  clear c51
                                                  by_cases c52 : (rd ((rd_T26 l2 x96_4).f0) x103_5) < (-32768)
                                                  · rw [if_pos c52] at H
                                                    have c52b0 : decide ((rd ((rd_T26 l2 x96_4).f0) x103_5) < (-32768)) = true := decide_eq_true c52
                                                    clear c52
                                                    obtain rfl := Option.some.inj H
                                                    have p428 : 0 ≤ (x103_5 : Int) := of_decide_eq_true (by first | (with_reducible assumption) | assumption)
                                                    have q428 : x103_5 < (((rd_T26 l2 x96_4).f0).length : Int) := of_decide_eq_true (by first | (with_reducible assumption) | assumption)
                                                    obtain ⟨ad428, e428, hx428_0⟩ := Kd.at_int HR426_0.out x103_5 p428 q428
                                                    cases e428
                                                    (try (replace hx428_0 := (HB.out.cell (World.block_lt_of_cell? w _ hx428_0)).trans hx428_0))
                                                    replace p428 := eq_true p428
                                                    replace q428 := eq_true q428
                                                    go_wp2
                                                    go_ret
                                                    exact ⟨by first | rfl | (simp [errW_none, errW_some] <;> rfl) | (simp only [← hji15]; first | rfl | (simp [errW_none, errW_some] <;> rfl)) | (simp [*, errW_none, errW_some] <;> rfl), by repeat (first | (with_reducible first | exact HB.out | apply below_alloc | apply pw_below_drewN | apply below_drew1 | refine below_set ?_ GE427.out) | exact HB.out)⟩
                                                  · rw [if_neg c52] at H
                                                    have c52b0 : decide ((rd ((rd_T26 l2 x96_4).f0) x103_5) < (-32768)) = false := decide_eq_false c52
                                                    clear c52
                                                    have H' := Aside0.mk H
                                                    clear H
                                                    have p428 : 0 ≤ (x103_5 : Int) := of_decide_eq_true (by first | (with_reducible assumption) | assumption)
                                                    have q428 : x103_5 < (((rd_T26 l2 x96_4).f0).length : Int) := of_decide_eq_true (by first | (with_reducible assumption) | assumption)
                                                    obtain ⟨ad428, e428, hx428_0⟩ := Kd.at_int HR426_0.out x103_5 p428 q428
                                                    cases e428
                                                    (try (replace hx428_0 := (HB.out.cell (World.block_lt_of_cell? w _ hx428_0)).trans hx428_0))
                                                    replace p428 := eq_true p428
                                                    replace q428 := eq_true q428
                                                    go_wp2
                                                    go_roundg k5
                                                    case measure => have := HJ6.out; have := HK2.out; have := HK3.out; have := HK4.out; have := HK5.out; omega
                                                    case rel => exact ⟨(wrap64 (x103_5 + 1)), (by first | rfl | (simp; done) | (simp [*]; done)), H', ⟨by have := HJ6.out; have := HK2.out; have := HK3.out; have := HK4.out; have := HK5.out; omega⟩, ⟨by (try simp only [hl10_2]); (with_reducible repeat (first | apply Kd.V_alloc | apply Kd.V_drewN | apply Kd.V_drew)); exact HO_2.out⟩, ⟨by (try simp only [hl10_2]); (with_reducible repeat (first | apply Kd.R_alloc | apply Kd.R_drewN | apply Kd.R_drew)); exact HO_10.out⟩, ⟨by (try simp only [hl10_2]); (with_reducible repeat (first | apply Kd.N_alloc | apply Kd.N_drewN | apply Kd.N_drew)); exact HO_11.out⟩, ⟨by (try simp only [hl10_2]); (with_reducible repeat (first | apply Kd.V_alloc | apply Kd.V_drewN | apply Kd.V_drew)); exact HO_94.out⟩, ⟨by (try simp only [hl10_2]); (with_reducible repeat (first | refine blk_drewN ?_ _ | refine blk_drew ?_ | refine blk_alloc ?_ _)); exact BK427.out⟩, ⟨by repeat (first | (with_reducible exact HR426_0.out) | (with_reducible refine Kd.C_alloc ?_ _) | (with_reducible refine Kd.C_drewN ?_ _) | (with_reducible refine Kd.C_drew ?_) | exact HR426_0.out)⟩, ⟨by repeat (first | (with_reducible first | exact HB.out | apply below_alloc | apply pw_below_drewN | apply below_drew1 | refine below_set ?_ GE427.out) | exact HB.out)⟩⟩
                                              · rw [if_neg c50] at H
                                                exact absurd H (by simp)
                                            · rw [if_neg c49] at H
                                              exact absurd H (by simp)
                                          · rw [if_neg c48] at H
                                            have c48b0 : decide (x103_5 < (((rd_T26 l2 x96_4).f0).length : Int)) = false := decide_eq_false c48
                                            clear c48
                                            have H' := Aside0.mk H
                                            clear H
                                            go_wp2
                                            go_roundg k5
                                            case measure => have := HJ6.out; have := HK2.out; have := HK3.out; have := HK4.out; have := HK5.out; omega
                                            case rel => exact ⟨(wrap64 (x96_4 + 1)), (by first | rfl | (simp; done) | (simp [*]; done)), H', ⟨by have := HJ6.out; have := HK2.out; have := HK3.out; have := HK4.out; have := HK5.out; omega⟩, ⟨by (try simp only [hl10_2]); (with_reducible repeat (first | apply Kd.V_alloc | apply Kd.V_drewN | apply Kd.V_drew)); exact Kd.V_mono HO_2.out (fun _ hk => ⟨hk.1, ⟨hk.2.1, hk.2.2.1⟩⟩)⟩, ⟨by (try simp only [hl10_2]); (with_reducible repeat (first | apply Kd.R_alloc | apply Kd.R_drewN | apply Kd.R_drew)); exact HO_10.out⟩, ⟨by (try simp only [hl10_2]); (with_reducible repeat (first | apply Kd.N_alloc | apply Kd.N_drewN | apply Kd.N_drew)); exact Kd.N_mono HO_11.out (fun _ hk => ⟨hk.1, hk.2.1⟩)⟩, ⟨by (try simp only [hl10_2]); (with_reducible repeat (first | apply Kd.V_alloc | apply Kd.V_drewN | apply Kd.V_drew)); exact Kd.V_mono HO_94.out (fun _ hk => ⟨hk.1, ⟨hk.2.1, hk.2.2.1⟩⟩)⟩, ⟨by repeat (first | (with_reducible first | exact HB.out | apply below_alloc | apply pw_below_drewN | apply below_drew1 | refine below_set ?_ GE427.out) | exact HB.out)⟩⟩
                                    · rw [if_neg c45] at H
                                      exact absurd H (by simp)
                                  · rw [if_neg c44] at H
                                    exact absurd H (by simp)
                                · rw [if_neg c43] at H
                                  have c43b0 : decide (x96_4 < (l2.length : Int)) = false := decide_eq_false c43
                                  clear c43
                                  replace H := Option.bind_eq_some_iff.mp H
                                  obtain ⟨⟨t429, t430⟩, A530, H⟩ := H
                                  replace H : ((linear_Grad.f y419 a1 x11_2).bind fun bt433 => ((linear_Loss.f l0 a1 l2).bind fun bt437 => ((linear_Loss.f y419 a1 x11_2).bind fun bt439 => (if true = true then (if t430 = bt433.2 then ((thrumref02_Same.f t429 bt433.1).bind fun t441 => (if t441 = true then (if bt437.1 = bt439.1 then (some (bt437.2 == bt439.2)) else (some false)) else (some false))) else (some false)) else (some false))))) = some r := H
                                  have A53 := Aside0.mk A530
                                  clear A530
                                  replace H := Option.bind_eq_some_iff.mp H
                                  obtain ⟨⟨t433, t434⟩, A540, H⟩ := H
                                  replace H : ((linear_Loss.f l0 a1 l2).bind fun bt437 => ((linear_Loss.f y419 a1 x11_2).bind fun bt439 => (if true = true then (if t430 = t434 then ((thrumref02_Same.f t429 t433).bind fun t441 => (if t441 = true then (if bt437.1 = bt439.1 then (some (bt437.2 == bt439.2)) else (some false)) else (some false))) else (some false)) else (some false)))) = some r := H
                                  have A54 := Aside0.mk A540
                                  clear A540
                                  replace H := Option.bind_eq_some_iff.mp H
                                  obtain ⟨⟨t437, t438⟩, A550, H⟩ := H
                                  replace H : ((linear_Loss.f y419 a1 x11_2).bind fun bt439 => (if true = true then (if t430 = t434 then ((thrumref02_Same.f t429 t433).bind fun t441 => (if t441 = true then (if t437 = bt439.1 then (some (t438 == bt439.2)) else (some false)) else (some false))) else (some false)) else (some false))) = some r := H
                                  have A55 := Aside0.mk A550
                                  clear A550
                                  replace H := Option.bind_eq_some_iff.mp H
                                  obtain ⟨⟨t439, t440⟩, A560, H⟩ := H
                                  replace H : (if true = true then (if t430 = t434 then ((thrumref02_Same.f t429 t433).bind fun t441 => (if t441 = true then (if t437 = t439 then (some (t438 == t440)) else (some false)) else (some false))) else (some false)) else (some false)) = some r := H
                                  have A56 := Aside0.mk A560
                                  clear A560
                                  first | rw [if_pos rfl] at H | rw [if_pos trivial] at H
                                  by_cases c57 : t430 = t434
                                  · rw [if_pos c57] at H
                                    have c57b0 : (t430 == t434) = true := beq_iff_eq.mpr c57
                                    have c57b1 : (t430 != t434) = false := bne_eq_false_iff_eq.mpr c57
                                    clear c57
                                    replace H := Option.bind_eq_some_iff.mp H
                                    obtain ⟨t441, A580, H⟩ := H
                                    replace H : (if t441 = true then (if t437 = t439 then (some (t438 == t440)) else (some false)) else (some false)) = some r := H
                                    have A58 := Aside0.mk A580
                                    clear A580
                                    by_cases c59 : t441 = true
                                    · subst c59
                                      have H1 : (if t437 = t439 then (some (t438 == t440)) else (some false)) = some r := by rw [if_pos rfl] at H; exact H
                                      clear H
                                      have H := H1
                                      clear H1
                                      by_cases c60 : t437 = t439
                                      · rw [if_pos c60] at H
                                        have c60b0 : (t437 == t439) = true := beq_iff_eq.mpr c60
                                        have c60b1 : (t437 != t439) = false := bne_eq_false_iff_eq.mpr c60
                                        clear c60
                                        obtain rfl := Option.some.inj H
                                        go_wp2_with (first | ((with_reducible refine gate_callee (f := 71) rfl ?_); refine goesL_ (some 120) rfl rfl Try.func71 (by kernel_rfl) rfl #[.slice A0 l0.length c0, .int .i64 a1, .slice A2 l2.length c2] rfl (by (try simp only [List.map_toArray, List.map_cons, List.map_nil]); first | done | rfl | (simp only [List.length_drop, List.length_take]; rfl)) ?_; (with_reducible refine (linear_Grad.calls _ _ l0 a1 _ _ l2 t429 t430 _ ?side1 ?side2 ?side3 ?side4 A53.out).mono ?_); (case side1 => repeat (first | exact (Kd.C_below HR0.out HB.out) | (with_reducible refine Kd.C_alloc ?_ _) | (with_reducible refine Kd.C_drewN ?_ _) | (with_reducible refine Kd.C_drew ?_))); (case side2 => exact HC0.out); (case side3 => repeat (first | exact (Kd.V_reads' HO_2.out).2.2 | (with_reducible refine Kd.C_alloc ?_ _) | (with_reducible refine Kd.C_drewN ?_ _) | (with_reducible refine Kd.C_drew ?_))); (case side4 => exact (Kd.V_reads' HO_2.out).2.1); rintro e w61 ⟨v431, rfl, ho0, hb⟩; refine ⟨_, rfl, ?_⟩; have n0_ := Aside0.mk (Kd.V_elder' (by (with_reducible repeat (first | apply Kd.V_alloc | apply Kd.V_drewN | apply Kd.V_drew)); exact HO_2.out) (Kd.R_base ho0) hb); have n1_ := Aside0.mk (Kd.R_elder' (by (with_reducible repeat (first | apply Kd.R_alloc | apply Kd.R_drewN | apply Kd.R_drew)); exact HO_10.out) (Kd.R_base ho0) hb); have n2_ := Aside0.mk (Kd.N_elder' (by (with_reducible repeat (first | apply Kd.N_alloc | apply Kd.N_drewN | apply Kd.N_drew)); exact HO_11.out) (Kd.R_base ho0) hb); have n3_ := Aside0.mk (Kd.V_elder' (by (with_reducible repeat (first | apply Kd.V_alloc | apply Kd.V_drewN | apply Kd.V_drew)); exact HO_94.out) (Kd.R_base ho0) hb); have n4_ := Aside0.mk (Kd.R_lower (Kd.R_new' (Kd.R_newM (M := fun k_ => (w.heap.size ≤ k_)) ho0 (below_size (by repeat (first | (with_reducible first | exact HB.out | apply below_alloc | apply pw_below_drewN | apply below_drew1) | exact HB.out))) (fun k_ h_ => h_)) (Kd.R_lt (by (with_reducible repeat (first | apply Kd.R_alloc | apply Kd.R_drewN | apply Kd.R_drew)); exact HO_10.out))) (below_size (by repeat (first | (with_reducible first | exact HB.out | apply below_alloc | apply pw_below_drewN | apply below_drew1) | exact HB.out)))); have n5_ := Aside0.mk (below_step (by repeat (first | (with_reducible first | exact HB.out | apply below_alloc | apply pw_below_drewN | apply below_drew1) | exact HB.out)) hb); clear HO_2; clear HO_10; clear HO_11; clear HO_94; clear HB; have HO_2 := n0_; have HO_10 := n1_; have HO_11 := n2_; have HO_94 := n3_; have HO432 := n4_; have HB := n5_; clear n0_ n1_ n2_ n3_ n4_ n5_; (try clear hb); (try clear hb2); (try clear hk); (try clear hi); (try clear ho0); obtain ⟨Ao62, co62, eo62⟩ := Kd.N_slice HO_11.out; subst eo62) | ((with_reducible refine gate_callee (f := 71) rfl ?_); refine goesL_ (some 127) rfl rfl Try.func71 (by kernel_rfl) rfl #[.slice (some ⟨go18, 0, none⟩) y419.length co20, .int .i64 a1, .slice Ao62 x11_2.length co62] rfl (by (try simp only [List.map_toArray, List.map_cons, List.map_nil]); first | done | rfl | (simp only [List.length_drop, List.length_take]; rfl)) ?_; (with_reducible refine (linear_Grad.calls _ _ y419 a1 _ _ x11_2 t433 t434 _ ?side1 ?side2 ?side3 ?side4 A54.out).mono ?_); (case side1 => repeat (first | exact (Kd.R_reads' HO_10.out).2.2 | (with_reducible refine Kd.C_alloc ?_ _) | (with_reducible refine Kd.C_drewN ?_ _) | (with_reducible refine Kd.C_drew ?_))); (case side2 => exact (Kd.R_reads' HO_10.out).2.1); (case side3 => repeat (first | exact (Kd.N_reads' HO_11.out).2.2 | (with_reducible refine Kd.C_alloc ?_ _) | (with_reducible refine Kd.C_drewN ?_ _) | (with_reducible refine Kd.C_drew ?_))); (case side4 => exact (Kd.N_reads' HO_11.out).2.1); rintro e w63 ⟨v435, rfl, ho0, hb⟩; refine ⟨_, rfl, ?_⟩; have n0_ := Aside0.mk (Kd.V_elder' (by (with_reducible repeat (first | apply Kd.V_alloc | apply Kd.V_drewN | apply Kd.V_drew)); exact HO_2.out) (Kd.R_base ho0) hb); have n1_ := Aside0.mk (Kd.R_elder' (by (with_reducible repeat (first | apply Kd.R_alloc | apply Kd.R_drewN | apply Kd.R_drew)); exact HO_10.out) (Kd.R_base ho0) hb); have n2_ := Aside0.mk (Kd.N_elder' (by (with_reducible repeat (first | apply Kd.N_alloc | apply Kd.N_drewN | apply Kd.N_drew)); exact HO_11.out) (Kd.R_base ho0) hb); have n3_ := Aside0.mk (Kd.V_elder' (by (with_reducible repeat (first | apply Kd.V_alloc | apply Kd.V_drewN | apply Kd.V_drew)); exact HO_94.out) (Kd.R_base ho0) hb); have n4_ := Aside0.mk (Kd.R_elder' (by (with_reducible repeat (first | apply Kd.R_alloc | apply Kd.R_drewN | apply Kd.R_drew)); exact HO432.out) (Kd.R_base ho0) hb); have n5_ := Aside0.mk (Kd.R_lower (Kd.R_new' (Kd.R_new' (Kd.R_newM (M := fun k_ => (w.heap.size ≤ k_)) ho0 (below_size (by repeat (first | (with_reducible first | exact HB.out | apply below_alloc | apply pw_below_drewN | apply below_drew1) | exact HB.out))) (fun k_ h_ => h_)) (Kd.R_lt (by (with_reducible repeat (first | apply Kd.R_alloc | apply Kd.R_drewN | apply Kd.R_drew)); exact HO_10.out))) (Kd.R_lt (by (with_reducible repeat (first | apply Kd.R_alloc | apply Kd.R_drewN | apply Kd.R_drew)); exact HO432.out))) (below_size (by repeat (first | (with_reducible first | exact HB.out | apply below_alloc | apply pw_below_drewN | apply below_drew1) | exact HB.out)))); have n6_ := Aside0.mk (below_step (by repeat (first | (with_reducible first | exact HB.out | apply below_alloc | apply pw_below_drewN | apply below_drew1) | exact HB.out)) hb); clear HO_2; clear HO_10; clear HO_11; clear HO_94; clear HO432; clear HB; have HO_2 := n0_; have HO_10 := n1_; have HO_11 := n2_; have HO_94 := n3_; have HO432 := n4_; have HO436 := n5_; have HB := n6_; clear n0_ n1_ n2_ n3_ n4_ n5_ n6_; (try clear hb); (try clear hb2); (try clear hk); (try clear hi); (try clear ho0)) | ((with_reducible refine gate_callee (f := 73) rfl ?_); refine goesL_ (some 134) rfl rfl Try.func73 (by kernel_rfl) rfl #[.slice A0 l0.length c0, .int .i64 a1, .slice A2 l2.length c2] rfl (by (try simp only [List.map_toArray, List.map_cons, List.map_nil]); first | done | rfl | (simp only [List.length_drop, List.length_take]; rfl)) ?_; (with_reducible refine (linear_Loss.calls _ _ l0 a1 _ _ l2 t437 t438 _ ?side1 ?side2 ?side3 ?side4 A55.out).mono ?_); (case side1 => repeat (first | exact (Kd.C_below HR0.out HB.out) | (with_reducible refine Kd.C_alloc ?_ _) | (with_reducible refine Kd.C_drewN ?_ _) | (with_reducible refine Kd.C_drew ?_))); (case side2 => exact HC0.out); (case side3 => repeat (first | exact (Kd.V_reads' HO_2.out).2.2 | (with_reducible refine Kd.C_alloc ?_ _) | (with_reducible refine Kd.C_drewN ?_ _) | (with_reducible refine Kd.C_drew ?_))); (case side4 => exact (Kd.V_reads' HO_2.out).2.1); rintro e w64 ⟨rfl, hb⟩; refine ⟨_, rfl, ?_⟩; have n0_ := Aside0.mk (Kd.V_below (by (with_reducible repeat (first | apply Kd.V_alloc | apply Kd.V_drewN | apply Kd.V_drew)); exact HO_2.out) hb); have n1_ := Aside0.mk (Kd.R_below (by (with_reducible repeat (first | apply Kd.R_alloc | apply Kd.R_drewN | apply Kd.R_drew)); exact HO_10.out) hb); have n2_ := Aside0.mk (Kd.N_below (by (with_reducible repeat (first | apply Kd.N_alloc | apply Kd.N_drewN | apply Kd.N_drew)); exact HO_11.out) hb); have n3_ := Aside0.mk (Kd.V_below (by (with_reducible repeat (first | apply Kd.V_alloc | apply Kd.V_drewN | apply Kd.V_drew)); exact HO_94.out) hb); have n4_ := Aside0.mk (Kd.R_below (by (with_reducible repeat (first | apply Kd.R_alloc | apply Kd.R_drewN | apply Kd.R_drew)); exact HO432.out) hb); have n5_ := Aside0.mk (Kd.R_below (by (with_reducible repeat (first | apply Kd.R_alloc | apply Kd.R_drewN | apply Kd.R_drew)); exact HO436.out) hb); have n6_ := Aside0.mk (below_step (by repeat (first | (with_reducible first | exact HB.out | apply below_alloc | apply pw_below_drewN | apply below_drew1) | exact HB.out)) hb); clear HO_2; clear HO_10; clear HO_11; clear HO_94; clear HO432; clear HO436; clear HB; have HO_2 := n0_; have HO_10 := n1_; have HO_11 := n2_; have HO_94 := n3_; have HO432 := n4_; have HO436 := n5_; have HB := n6_; clear n0_ n1_ n2_ n3_ n4_ n5_ n6_; (try clear hb); (try clear hb2); (try clear hk); (try clear hi)) | ((with_reducible refine gate_callee (f := 73) rfl ?_); refine goesL_ (some 141) rfl rfl Try.func73 (by kernel_rfl) rfl #[.slice (some ⟨go18, 0, none⟩) y419.length co20, .int .i64 a1, .slice Ao62 x11_2.length co62] rfl (by (try simp only [List.map_toArray, List.map_cons, List.map_nil]); first | done | rfl | (simp only [List.length_drop, List.length_take]; rfl)) ?_; (with_reducible refine (linear_Loss.calls _ _ y419 a1 _ _ x11_2 t439 t440 _ ?side1 ?side2 ?side3 ?side4 A56.out).mono ?_); (case side1 => repeat (first | exact (Kd.R_reads' HO_10.out).2.2 | (with_reducible refine Kd.C_alloc ?_ _) | (with_reducible refine Kd.C_drewN ?_ _) | (with_reducible refine Kd.C_drew ?_))); (case side2 => exact (Kd.R_reads' HO_10.out).2.1); (case side3 => repeat (first | exact (Kd.N_reads' HO_11.out).2.2 | (with_reducible refine Kd.C_alloc ?_ _) | (with_reducible refine Kd.C_drewN ?_ _) | (with_reducible refine Kd.C_drew ?_))); (case side4 => exact (Kd.N_reads' HO_11.out).2.1); rintro e w65 ⟨rfl, hb⟩; refine ⟨_, rfl, ?_⟩; have n0_ := Aside0.mk (Kd.V_below (by (with_reducible repeat (first | apply Kd.V_alloc | apply Kd.V_drewN | apply Kd.V_drew)); exact HO_2.out) hb); have n1_ := Aside0.mk (Kd.R_below (by (with_reducible repeat (first | apply Kd.R_alloc | apply Kd.R_drewN | apply Kd.R_drew)); exact HO_10.out) hb); have n2_ := Aside0.mk (Kd.N_below (by (with_reducible repeat (first | apply Kd.N_alloc | apply Kd.N_drewN | apply Kd.N_drew)); exact HO_11.out) hb); have n3_ := Aside0.mk (Kd.V_below (by (with_reducible repeat (first | apply Kd.V_alloc | apply Kd.V_drewN | apply Kd.V_drew)); exact HO_94.out) hb); have n4_ := Aside0.mk (Kd.R_below (by (with_reducible repeat (first | apply Kd.R_alloc | apply Kd.R_drewN | apply Kd.R_drew)); exact HO432.out) hb); have n5_ := Aside0.mk (Kd.R_below (by (with_reducible repeat (first | apply Kd.R_alloc | apply Kd.R_drewN | apply Kd.R_drew)); exact HO436.out) hb); have n6_ := Aside0.mk (below_step (by repeat (first | (with_reducible first | exact HB.out | apply below_alloc | apply pw_below_drewN | apply below_drew1) | exact HB.out)) hb); clear HO_2; clear HO_10; clear HO_11; clear HO_94; clear HO432; clear HO436; clear HB; have HO_2 := n0_; have HO_10 := n1_; have HO_11 := n2_; have HO_94 := n3_; have HO432 := n4_; have HO436 := n5_; have HB := n6_; clear n0_ n1_ n2_ n3_ n4_ n5_ n6_; (try clear hb); (try clear hb2); (try clear hk); (try clear hi); obtain ⟨Ao66, co66, eo66⟩ := Kd.R_slice HO432.out; subst eo66; obtain ⟨Ao67, co67, eo67⟩ := Kd.R_slice HO436.out; subst eo67) | (go_at_call 44; (with_reducible refine (thrumref02_Same.calls _ _ t429 _ _ t433 true _ ?side1 ?side2 ?side3 ?side4 A58.out).mono ?_); (case side1 => repeat (first | exact (Kd.R_reads' HO432.out).2.2 | (with_reducible refine Kd.C_alloc ?_ _) | (with_reducible refine Kd.C_drewN ?_ _) | (with_reducible refine Kd.C_drew ?_))); (case side2 => exact (Kd.R_reads' HO432.out).2.1); (case side3 => repeat (first | exact (Kd.R_reads' HO436.out).2.2 | (with_reducible refine Kd.C_alloc ?_ _) | (with_reducible refine Kd.C_drewN ?_ _) | (with_reducible refine Kd.C_drew ?_))); (case side4 => exact (Kd.R_reads' HO436.out).2.1); rintro e w' ⟨rfl, ⟨nd, rfl⟩⟩))
                                        go_ret
                                        exact ⟨by first | rfl | (simp [errW_none, errW_some] <;> rfl) | (simp only [← hji15]; first | rfl | (simp [errW_none, errW_some] <;> rfl)) | (simp [*, errW_none, errW_some] <;> rfl), by repeat (first | (with_reducible first | exact HB.out | apply below_alloc | apply pw_below_drewN | apply below_drew1) | exact HB.out)⟩
                                      · rw [if_neg c60] at H
                                        exact absurd (Option.some.inj H) (by rw [HR_.out]; decide)
                                    · replace c59 := Bool.eq_false_iff.mpr c59
                                      subst c59
                                      have H1 : (some false) = some r := by rw [if_neg (show ¬ (false = true) by decide)] at H; exact H
                                      exact absurd (Option.some.inj H1) (by rw [HR_.out]; decide)
                                  · rw [if_neg c57] at H
                                    exact absurd (Option.some.inj H) (by rw [HR_.out]; decide)
              · rw [if_neg c17] at H
                exact absurd H (by simp)
            · rw [if_neg c16] at H
              exact absurd H (by simp)
          · rw [if_neg c14] at H
            exact absurd H (by simp)
  · replace c6 := Bool.eq_false_iff.mpr c6
    subst c6
    have H1 : (some false) = some r := by rw [if_neg (show ¬ (false = true) by decide)] at H; exact H
    exact absurd (Option.some.inj H1) (by rw [HR_.out]; decide)

/-- THE ONE PURE STATEMENT of thrumlaw14_LinearBase: yours. -/
def thrumlaw14_LinearBase.Pure : Prop := ∀ (l0 : List Int) (a1 : Int) (l2 : List (S26)) (a3 : Int), l0.length ≤ maxLen → l0.length * 8 ≤ 140737488351232 → (∀ x ∈ l0, (Lit.int .i64 x).wf = true) → (Lit.int .i64 a1).wf = true → (l2.length ≤ maxLen ∧ ∀ x__ ∈ l2, ((x__.f0.length ≤ maxLen ∧ ∀ x2__ ∈ x__.f0, (Lit.int .i64 x2__).wf = true) ∧ (Lit.int .i64 x__.f1).wf = true ∧ True)) → (Lit.int .i64 a3).wf = true → ∃ k, thrumlaw14_LinearBase.f k l0 a1 l2 a3 = some true
theorem thrumlaw14_LinearBase.walk (P : thrumlaw14_LinearBase.Pure) (a0 : Option Addr) (len0 cap0 : Nat) (z0 : List Int) (a1 : Int) (A2 : Option Addr) (c2 : Nat) (l2 : List (S26)) (a3 : Int) (w : World) (w0 : (a0 = none ∧ len0 = 0 ∧ cap0 = 0 ∧ z0 = []) ∨ ∃ x, a0 = some x ∧ len0 ≤ cap0 ∧ cap0 ≤ maxLen ∧ z0.length = cap0 ∧ (∀ i, i < z0.length → w.cell? (x.add i) = some (.int .i64 (z0.getD i 0))) ∧ ∀ n ∈ z0, (Lit.int .i64 n).wf = true) (y0 : len0 * 8 ≤ 140737488351232) (w1 : (Lit.int .i64 a1).wf = true) (hr2 : Kd.C k26 w A2 l2.length l2) (hc2 : l2.length ≤ c2) (hg2 : (l2.length ≤ maxLen ∧ ∀ x__ ∈ l2, ((x__.f0.length ≤ maxLen ∧ ∀ x2__ ∈ x__.f0, (Lit.int .i64 x2__).wf = true) ∧ (Lit.int .i64 x__.f1).wf = true ∧ True))) (w3 : (Lit.int .i64 a3).wf = true) :
    Calls Try.prog 17 #[.slice a0 len0 cap0, .int .i64 a1, .slice A2 l2.length c2, .int .i64 a3] w fun e w' => e = .returned (.bool true) ∧ Below w.heap.size w w' := by
  obtain ⟨l0, rfl, hr0, hm0, hw0, hc0⟩ := ReadsInt.ofRowC w0
  obtain ⟨k, h⟩ := P l0 a1 l2 a3 hm0 y0 hw0 w1 hg2 w3
  refine (thrumlaw14_LinearBase.calls k _ _ l0 a1 (fun k_ => k_ < w.heap.size) _ _ l2 a3 true w (Kd.C_of_reads (d := (0 : Int)) (h1 := fun _ => rfl) hr0) hc0 (Kd.V_mk hc2 (Kd.C_F k26_heap hr2)) h rfl).mono ?_
  rintro e w' ⟨rfl, hd⟩
  exact ⟨rfl, hd⟩





















































































































































































































































































































































end Go.Proofs.Ytfbdalnjijdknaa.HL
