/- What Go functions do, each as a plain Lean function with the same answers, and the proof of it, in every world: printed by the session's driver over the kit's print, with texts by hand. -/
import Derived.Test.YtihgcjagokippaaHSx0
import Derived.Test.YtihgcjagokippaaHSx2
import Derived.Test.YtihgcjagokippaaHSx10
import Derived.Test.YtihgcjagokippaaHSx11
import Derived.Test.YtihgcjagokippaaHSx12
import Derived.Test.YtihgcjagokippaaMini
namespace Go.Proofs.Ytihgcjagokippaa.HS
open Go.RowKit Go.Proofs.YtihgcjagokippaaW.PrintWords Go.Proofs.YtihgcjagokippaaW.PrintLast Go.Proofs.YtihgcjagokippaaW.PrintMore
attribute [local go_sem] max2_int min2_int max_two min_two max_three min_three max_four min_four   -- for this text's walks alone
open Go.Proofs.Ytihgcjagokippaa.Sp
attribute [local go_sem] Go.Proofs.Ytihgcjagokippaa.Sp.u64_not
set_option linter.unusedVariables false
set_option linter.unusedSimpArgs false

/-! ### thrumref13_SoftP: function 24 -/
mutual
def thrumref13_SoftP.j0 : Nat → Int → List Int → Int → Bool → Option (List Int × Int)
 | 0, _, _, _, _ => none
 | k + 1, x0, x1, x6, x33 => if x33 = true then (some (([] : List Int), 1)) else (thrumref13_SoftP.l0 k x0 x1 x6 ([] : List Int) 0 x1 (x1.length : Int) 0)
def thrumref13_SoftP.l0 : Nat → Int → List Int → Int → List Int → Int → List Int → Int → Int → Option (List Int × Int)
 | 0, _, _, _, _, _, _, _, _ => none
 | k + 1, x0, x1, x6, x8, x9, x34, x35, x36 => if x36 < x35 then (if 0 ≤ x36 then (if x36 < (x34.length : Int) then (if 0 ≤ x6 then (if x6 < (x1.length : Int) then ((thrumref01_Sub.f (rd x34 x36) (rd x1 x6)).bind fun bt321 => (if bt321.2 = 0 then ((thrumref13_Exp.f bt321.1 x0).bind fun bt323 => (if bt323.2 = 0 then (if x8.length < 17592186044416 then (thrumref13_SoftP.l0 k x0 x1 x6 (x8 ++ [bt323.1]) (wrap64 (x9 + bt323.1)) x34 x35 (wrap64 (x36 + 1))) else (none)) else (some (([] : List Int), bt323.2)))) else (some (([] : List Int), bt321.2)))) else (none)) else (none)) else (none)) else (none)) else (thrumref13_SoftP.l1 k x0 x9 ([] : List Int) x8 (x8.length : Int) 0)
def thrumref13_SoftP.l1 : Nat → Int → Int → List Int → List Int → Int → Int → Option (List Int × Int)
 | 0, _, _, _, _, _, _ => none
 | k + 1, x0, x9, x15, x69, x70, x71 => if x71 < x70 then (if 0 ≤ x71 then (if x71 < (x69.length : Int) then ((thrumref01_Div.f (rd x69 x71) x9 x0).bind fun bt329 => (if bt329.2 = 0 then (if x15.length < 17592186044416 then (thrumref13_SoftP.l1 k x0 x9 (x15 ++ [bt329.1]) x69 x70 (wrap64 (x71 + 1))) else (none)) else (some (([] : List Int), bt329.2)))) else (none)) else (none)) else (some (x15, 0))
end
def thrumref13_SoftP.f (k : Nat) (a0 : Int) (l1 : List Int) : Option (List Int × Int) := (thrumref13_Best.f l1).bind fun bt317 => (if bt317.2 = 0 then (if a0 < 0 then (thrumref13_SoftP.j0 k a0 l1 bt317.1 true) else (thrumref13_SoftP.j0 k a0 l1 bt317.1 (decide (a0 > 30)))) else (some (([] : List Int), bt317.2)))
theorem thrumref13_SoftP.mono_l : ∀ k, (∀ y0 y1 y2 y3, LeO (thrumref13_SoftP.j0 k y0 y1 y2 y3) (thrumref13_SoftP.j0 (k + 1) y0 y1 y2 y3)) ∧ (∀ y0 y1 y2 y3 y4 y5 y6 y7, LeO (thrumref13_SoftP.l0 k y0 y1 y2 y3 y4 y5 y6 y7) (thrumref13_SoftP.l0 (k + 1) y0 y1 y2 y3 y4 y5 y6 y7)) ∧ (∀ y0 y1 y2 y3 y4 y5, LeO (thrumref13_SoftP.l1 k y0 y1 y2 y3 y4 y5) (thrumref13_SoftP.l1 (k + 1) y0 y1 y2 y3 y4 y5))
 | 0 => ⟨fun _ _ _ _ r h => by simp [thrumref13_SoftP.j0] at h, fun _ _ _ _ _ _ _ _ r h => by simp [thrumref13_SoftP.l0] at h, fun _ _ _ _ _ _ r h => by simp [thrumref13_SoftP.l1] at h⟩
 | k + 1 => by
  obtain ⟨ih0, ih1, ih2⟩ := thrumref13_SoftP.mono_l k
  refine ⟨?_, ?_, ?_⟩
  ·
   intro y0 y1 y2 y3
   unfold thrumref13_SoftP.j0
   repeat' first
   | (with_reducible exact ih0 _ _ _ _)
   | (with_reducible exact ih1 _ _ _ _ _ _ _ _)
   | (with_reducible exact ih2 _ _ _ _ _ _)
   | (with_reducible exact LeO.refl _)
   | (with_reducible exact LeO.none _)
   | (with_reducible refine LeO.ite ?_ ?_)
   | (with_reducible refine LeO.bind ?_ (fun _ => ?_))
  ·
   intro y0 y1 y2 y3 y4 y5 y6 y7
   unfold thrumref13_SoftP.l0
   repeat' first
   | (with_reducible exact ih0 _ _ _ _)
   | (with_reducible exact ih1 _ _ _ _ _ _ _ _)
   | (with_reducible exact ih2 _ _ _ _ _ _)
   | (with_reducible exact LeO.refl _)
   | (with_reducible exact LeO.none _)
   | (with_reducible refine LeO.ite ?_ ?_)
   | (with_reducible refine LeO.bind ?_ (fun _ => ?_))
  ·
   intro y0 y1 y2 y3 y4 y5
   unfold thrumref13_SoftP.l1
   repeat' first
   | (with_reducible exact ih0 _ _ _ _)
   | (with_reducible exact ih1 _ _ _ _ _ _ _ _)
   | (with_reducible exact ih2 _ _ _ _ _ _)
   | (with_reducible exact LeO.refl _)
   | (with_reducible exact LeO.none _)
   | (with_reducible refine LeO.ite ?_ ?_)
   | (with_reducible refine LeO.bind ?_ (fun _ => ?_))
theorem thrumref13_SoftP.mono : ∀ a0 a1 k, LeO (thrumref13_SoftP.f k a0 a1) (thrumref13_SoftP.f (k + 1) a0 a1) := by
 intro a0 a1 k
 obtain ⟨ih0, ih1, ih2⟩ := thrumref13_SoftP.mono_l k
 unfold thrumref13_SoftP.f
 repeat' first
   | (with_reducible exact ih0 _ _ _ _)
   | (with_reducible exact ih1 _ _ _ _ _ _ _ _)
   | (with_reducible exact ih2 _ _ _ _ _ _)
   | (with_reducible exact LeO.refl _)
   | (with_reducible exact LeO.none _)
   | (with_reducible refine LeO.ite ?_ ?_)
   | (with_reducible refine LeO.bind ?_ (fun _ => ?_))
set_option maxHeartbeats 8000000 in
set_option maxRecDepth 100000 in
theorem thrumref13_SoftP.calls (k : Nat) (a0 : Int) (A1 : Option Addr) (c1 : Nat) (l1 : List Int) (r1 : List Int) (r2 : Int) (w : World) (hr1 : Kd.C (Kd.int .i64) w A1 l1.length l1) (hc1 : l1.length ≤ c1) (h : thrumref13_SoftP.f k a0 l1 = some (r1, r2)) :
  Calls Try.prog 24 #[.int .i64 a0, .slice A1 l1.length c1] w fun e w' => ∃ v0_ : Value, e = .returned (.tuple #[v0_, .int .i64 r2]) ∧ Kd.R (Kd.int .i64) 2 w' w.heap.size (fun _ => True) v0_ r1 ∧ Below w.heap.size w w' := by
 have HR1 := ZM hr1
 have HC1 := ZM hc1
 clear hr1 hc1
 have HB := ZM (Below.refl w.heap.size w)
 have H : ((thrumref13_Best.f l1).bind fun bt317 => (if bt317.2 = 0 then (if a0 < 0 then (thrumref13_SoftP.j0 k a0 l1 bt317.1 true) else (thrumref13_SoftP.j0 k a0 l1 bt317.1 (decide (a0 > 30)))) else (some (([] : List Int), bt317.2)))) = some (r1, r2) := h
 clear h
 replace H := Option.bind_eq_some_iff.mp H
 obtain ⟨⟨t317, t318⟩, A30, H⟩ := H
 replace H : (if t318 = 0 then (if a0 < 0 then (thrumref13_SoftP.j0 k a0 l1 t317 true) else (thrumref13_SoftP.j0 k a0 l1 t317 (decide (a0 > 30)))) else (some (([] : List Int), t318))) = some (r1, r2) := H
 have A3 := ZM A30
 clear A30
 by_cases c4 : t318 = 0
 case neg =>
  rw [if_neg c4] at H
  have c4b0 : (t318 == 0) = false := beq_eq_false_iff_ne.mpr c4
  have c4b1 : (t318 != 0) = true := bne_iff_ne.mpr c4
  simp only [Option.some.injEq, Prod.mk.injEq] at H
  obtain ⟨rfl, rfl⟩ := H
  go_enter Try.func24, Try.ntmps24
  go_wp2_with (first | ((with_reducible refine gate_callee (f := 26) rfl ?_); refine goesL_ (some 22) rfl rfl Try.func26 (by kernel_rfl) rfl #[.slice A1 l1.length c1] rfl Z2 ?_; (with_reducible refine (thrumref13_Best.calls _ _ l1 t317 t318 _ ?side1 ?side2 A3.out).mono ?_); (case side1 => exact Z6); (case side2 => exact HC1.out); rintro e w' ⟨rfl, ⟨nd, rfl⟩⟩; refine ⟨_, rfl, ?_⟩))
  go_ret2
  exact ⟨_, by first | rfl | (simp [errW_none, errW_some] <;> rfl) | (simp [*, errW_none, errW_some] <;> rfl), by first | exact Kd.R_nil _ _ _ _ _ | exact Kd.N_nil _ _ _ _ _ | exact Kd.V_nil _ _ _ _ _ | exact Kd.Q_nil _ _ _ _ _ | exact Kd.S_nil _ _ _ _ _, by repeat (first | (with_reducible first | exact HB.out | apply zzA | apply zzN | apply zzD) | exact HB.out)⟩
 rw [if_pos c4] at H
 have c4b0 : (t318 == 0) = true := beq_iff_eq.mpr c4
 have c4b1 : (t318 != 0) = false := bne_eq_false_iff_eq.mpr c4
 clear c4
 have HC5 := ZM H
 clear H
 go_enter Try.func24, Try.ntmps24
 go_upto_region 4 with (first | ((with_reducible refine gate_callee (f := 26) rfl ?_); refine goesL_ (some 22) rfl rfl Try.func26 (by kernel_rfl) rfl #[.slice A1 l1.length c1] rfl Z2 ?_; (with_reducible refine (thrumref13_Best.calls _ _ l1 t317 t318 _ ?side1 ?side2 A3.out).mono ?_); (case side1 => exact Z6); (case side2 => exact HC1.out); rintro e w' ⟨rfl, ⟨nd, rfl⟩⟩; refine ⟨_, rfl, ?_⟩))
 (try simp only [Act.put, Zt])
 go_cut [33] (fun v33 wc => ∃ (kq : Nat) (x33_4 : Bool), v33 = .bool x33_4 ∧ Aside0 (thrumref13_SoftP.j0 kq a0 l1 t317 x33_4 = some (r1, r2)) ∧ Aside0 (kq ≤ k) ∧ Aside0 (Below w.heap.size w wc))
 case first =>
  have H := HC5.out
  clear HC5
  by_cases c6 : a0 < 0
  case neg =>
   rw [if_neg c6] at H
   have c6b0 : decide (a0 < 0) = false := decide_eq_false c6
   clear c6
   (first | rw [c6b0] | (simp only [i64_w, i32_w]; rw [c6b0]) | skip)
   have H' := ZM H
   clear H
   go_wp2
   go_meet
   case rel => exact ⟨_, (decide (a0 > 30)), Z5, H', ⟨by first | omega | exact Nat.le_refl _⟩, ⟨by repeat (first | (with_reducible first | exact HB.out | apply zzA | apply zzN | apply zzD) | exact HB.out)⟩⟩
  rw [if_pos c6] at H
  have c6b0 : decide (a0 < 0) = true := decide_eq_true c6
  clear c6
  (first | rw [c6b0] | (simp only [i64_w, i32_w]; rw [c6b0]) | skip)
  have H' := ZM H
  clear H
  go_wp2
  go_meet
  case rel => exact ⟨_, (true), Z5, H', ⟨by first | omega | exact Nat.le_refl _⟩, ⟨by repeat (first | (with_reducible first | exact HB.out | apply zzA | apply zzN | apply zzD) | exact HB.out)⟩⟩
 clear HC5
 try clear c1
 try clear c4
 try clear c4b0
 try clear c4b1
 obtain ⟨kq, x33_4, rfl, HA, HJ4, HB⟩ := hcut
 cases kq with
 | zero => exact absurd HA.out (by simp [thrumref13_SoftP.j0])
 | succ kj4 =>
  have H := HA.out
  clear HA
  simp only [thrumref13_SoftP.j0] at H
  by_cases c7 : x33_4 = true
  ·
   subst c7
   have H1 : (some (([] : List Int), 1)) = some (r1, r2) := by rw [if_pos rfl] at H; exact H
   clear H
   have H := H1
   clear H1
   simp only [Option.some.injEq, Prod.mk.injEq] at H
   obtain ⟨rfl, rfl⟩ := H
   go_wp2
   go_ret2
   exact ⟨_, by first | rfl | (simp [errW_none, errW_some] <;> rfl) | (simp [*, errW_none, errW_some] <;> rfl), by first | exact Kd.R_nil _ _ _ _ _ | exact Kd.N_nil _ _ _ _ _ | exact Kd.V_nil _ _ _ _ _ | exact Kd.Q_nil _ _ _ _ _ | exact Kd.S_nil _ _ _ _ _, by repeat (first | (with_reducible first | exact HB.out | apply zzA | apply zzN | apply zzD) | exact HB.out)⟩
  replace c7 := Bool.eq_false_iff.mpr c7
  subst c7
  have H1 : (thrumref13_SoftP.l0 kj4 a0 l1 t317 ([] : List Int) 0 l1 (l1.length : Int) 0) = some (r1, r2) := by rw [if_neg (show ¬ (false = true) by decide)] at H; exact H
  clear H
  have H := H1
  clear H1
  have H' := ZM H
  clear H
  go_wp2
  go_loopg [8, 9, 36] kj4 (fun kq v8 v9 v36 w' => ∃ (x8_2 : List Int) (x9_2 : Int) (x36_2 : Int), v9 = .int .i64 x9_2 ∧ v36 = .int .i64 x36_2 ∧ Aside0 (thrumref13_SoftP.l0 kq a0 l1 t317 x8_2 x9_2 l1 (l1.length : Int) x36_2 = some (r1, r2)) ∧ Aside0 (kq ≤ kj4) ∧ Aside0 (Kd.R (Kd.int .i64) 2 w' w.heap.size (fun _ => True) v8 x8_2) ∧ Aside0 (Below w.heap.size w w'))
  case atStart => exact ⟨(([] : List Int)), (0), (0), Z5, Z5, H', ⟨Nat.le_refl _⟩, ⟨by first | exact Kd.R_nil _ _ _ _ _ | exact Kd.N_nil _ _ _ _ _ | exact Kd.V_nil _ _ _ _ _ | exact Kd.Q_nil _ _ _ _ _ | exact Kd.S_nil _ _ _ _ _⟩, ⟨by repeat (first | (with_reducible first | exact HB.out | apply zzA | apply zzN | apply zzD) | exact HB.out)⟩⟩
  case round =>
   clear H'
   try clear c1
   try clear c4
   try clear c4b0
   try clear c4b1
   try clear c7
   obtain ⟨x8_2, x9_2, x36_2, rfl, rfl, HA, HK2, HO_8, HB⟩ := hrel
   cases gk with
   | zero => exact absurd HA.out (by simp [thrumref13_SoftP.l0])
   | succ k2 =>
    have H := HA.out
    clear HA
    simp only [thrumref13_SoftP.l0] at H
    by_cases c8 : x36_2 < (l1.length : Int)
    ·
     rw [if_pos c8] at H
     have c8b0 : decide (x36_2 < (l1.length : Int)) = true := decide_eq_true c8
     clear c8
     by_cases c9 : 0 ≤ x36_2
     case neg =>
      rw [if_neg c9] at H
      exact absurd H (by simp)
     rw [if_pos c9] at H
     have c9b0 : decide (0 ≤ x36_2) = true := decide_eq_true c9
     clear c9
     by_cases c10 : x36_2 < (l1.length : Int)
     case neg =>
      rw [if_neg c10] at H
      exact absurd H (by simp)
     rw [if_pos c10] at H
     have c10b0 : decide (x36_2 < (l1.length : Int)) = true := decide_eq_true c10
     clear c10
     by_cases c11 : 0 ≤ t317
     case neg =>
      rw [if_neg c11] at H
      exact absurd H (by simp)
     rw [if_pos c11] at H
     have c11b0 : decide (0 ≤ t317) = true := decide_eq_true c11
     clear c11
     by_cases c12 : t317 < (l1.length : Int)
     case neg =>
      rw [if_neg c12] at H
      exact absurd H (by simp)
     rw [if_pos c12] at H
     have c12b0 : decide (t317 < (l1.length : Int)) = true := decide_eq_true c12
     clear c12
     replace H := Option.bind_eq_some_iff.mp H
     obtain ⟨⟨t321, t322⟩, A130, H⟩ := H
     replace H : (if t322 = 0 then ((thrumref13_Exp.f t321 a0).bind fun bt323 => (if bt323.2 = 0 then (if x8_2.length < 17592186044416 then (thrumref13_SoftP.l0 k2 a0 l1 t317 (x8_2 ++ [bt323.1]) (wrap64 (x9_2 + bt323.1)) l1 (l1.length : Int) (wrap64 (x36_2 + 1))) else (none)) else (some (([] : List Int), bt323.2)))) else (some (([] : List Int), t322))) = some (r1, r2) := H
     have A13 := ZM A130
     clear A130
     by_cases c14 : t322 = 0
     case neg =>
      rw [if_neg c14] at H
      have c14b0 : (t322 == 0) = false := beq_eq_false_iff_ne.mpr c14
      have c14b1 : (t322 != 0) = true := bne_iff_ne.mpr c14
      simp only [Option.some.injEq, Prod.mk.injEq] at H
      obtain ⟨rfl, rfl⟩ := H
      have p319 : 0 ≤ (x36_2 : Int) := of_decide_eq_true Z3
      have q319 : x36_2 < (l1.length : Int) := of_decide_eq_true Z3
      obtain ⟨ad319, e319, hx319_0⟩ := Kd.at_int HR1.out x36_2 p319 q319
      cases e319
      replace hx319_0 := (HB.out.cell (World.block_lt_of_cell? w _ hx319_0)).trans hx319_0
      replace p319 := eq_true p319
      replace q319 := eq_true q319
      have p320 : 0 ≤ (t317 : Int) := of_decide_eq_true Z3
      have q320 : t317 < (l1.length : Int) := of_decide_eq_true Z3
      obtain ⟨ad320, e320, hx320_0⟩ := Kd.at_int HR1.out t317 p320 q320
      obtain rfl : ad319 = ad320 := (by injection e320)
      replace hx320_0 := (HB.out.cell (World.block_lt_of_cell? w _ hx320_0)).trans hx320_0
      replace p320 := eq_true p320
      replace q320 := eq_true q320
      go_wp2_with (first | ((with_reducible refine gate_callee (f := 42) rfl ?_); refine goesL_ (some 46) rfl rfl Try.func42 (by kernel_rfl) rfl #[.int .i64 (rd l1 x36_2), .int .i64 (rd l1 t317)] rfl Z2 ?_; (with_reducible refine (thrumref01_Sub.calls (rd l1 x36_2) (rd l1 t317) t321 t322 _ A13.out).mono ?_); rintro e w' ⟨rfl, ⟨nd, rfl⟩⟩; refine ⟨_, rfl, ?_⟩))
      go_ret2
      exact ⟨_, by first | rfl | (simp [errW_none, errW_some] <;> rfl) | (simp [*, errW_none, errW_some] <;> rfl), by first | exact Kd.R_nil _ _ _ _ _ | exact Kd.N_nil _ _ _ _ _ | exact Kd.V_nil _ _ _ _ _ | exact Kd.Q_nil _ _ _ _ _ | exact Kd.S_nil _ _ _ _ _, by repeat (first | (with_reducible first | exact HB.out | apply zzA | apply zzN | apply zzD) | exact HB.out)⟩
     rw [if_pos c14] at H
     have c14b0 : (t322 == 0) = true := beq_iff_eq.mpr c14
     have c14b1 : (t322 != 0) = false := bne_eq_false_iff_eq.mpr c14
     clear c14
     replace H := Option.bind_eq_some_iff.mp H
     obtain ⟨⟨t323, t324⟩, A150, H⟩ := H
     replace H : (if t324 = 0 then (if x8_2.length < 17592186044416 then (thrumref13_SoftP.l0 k2 a0 l1 t317 (x8_2 ++ [t323]) (wrap64 (x9_2 + t323)) l1 (l1.length : Int) (wrap64 (x36_2 + 1))) else (none)) else (some (([] : List Int), t324))) = some (r1, r2) := H
     have A15 := ZM A150
     clear A150
     by_cases c16 : t324 = 0
     case neg =>
      rw [if_neg c16] at H
      have c16b0 : (t324 == 0) = false := beq_eq_false_iff_ne.mpr c16
      have c16b1 : (t324 != 0) = true := bne_iff_ne.mpr c16
      simp only [Option.some.injEq, Prod.mk.injEq] at H
      obtain ⟨rfl, rfl⟩ := H
      have p319 : 0 ≤ (x36_2 : Int) := of_decide_eq_true Z3
      have q319 : x36_2 < (l1.length : Int) := of_decide_eq_true Z3
      obtain ⟨ad319, e319, hx319_0⟩ := Kd.at_int HR1.out x36_2 p319 q319
      cases e319
      replace hx319_0 := (HB.out.cell (World.block_lt_of_cell? w _ hx319_0)).trans hx319_0
      replace p319 := eq_true p319
      replace q319 := eq_true q319
      have p320 : 0 ≤ (t317 : Int) := of_decide_eq_true Z3
      have q320 : t317 < (l1.length : Int) := of_decide_eq_true Z3
      obtain ⟨ad320, e320, hx320_0⟩ := Kd.at_int HR1.out t317 p320 q320
      obtain rfl : ad319 = ad320 := (by injection e320)
      replace hx320_0 := (HB.out.cell (World.block_lt_of_cell? w _ hx320_0)).trans hx320_0
      replace p320 := eq_true p320
      replace q320 := eq_true q320
      go_wp2_with (first | ((with_reducible refine gate_callee (f := 42) rfl ?_); refine goesL_ (some 46) rfl rfl Try.func42 (by kernel_rfl) rfl #[.int .i64 (rd l1 x36_2), .int .i64 (rd l1 t317)] rfl Z2 ?_; (with_reducible refine (thrumref01_Sub.calls (rd l1 x36_2) (rd l1 t317) t321 t322 _ A13.out).mono ?_); rintro e w' ⟨rfl, ⟨nd, rfl⟩⟩; refine ⟨_, rfl, ?_⟩) | ((with_reducible refine gate_callee (f := 43) rfl ?_); refine goesL_ (some 55) rfl rfl Try.func43 (by kernel_rfl) rfl #[.int .i64 t321, .int .i64 a0] rfl Z2 ?_; (with_reducible refine (thrumref13_Exp.calls t321 a0 t323 t324 _ A15.out).mono ?_); rintro e w20 ⟨rfl, hb⟩; refine ⟨_, rfl, ?_⟩; replace HO_8 := ZM (Kd.R_below (Zr HO_8) hb); replace HB := ZM (zzT Z1 hb); (try clear hb); (try clear hb2); (try clear hk); (try clear hi)))
      go_ret2
      exact ⟨_, by first | rfl | (simp [errW_none, errW_some] <;> rfl) | (simp [*, errW_none, errW_some] <;> rfl), by first | exact Kd.R_nil _ _ _ _ _ | exact Kd.N_nil _ _ _ _ _ | exact Kd.V_nil _ _ _ _ _ | exact Kd.Q_nil _ _ _ _ _ | exact Kd.S_nil _ _ _ _ _, by repeat (first | (with_reducible first | exact HB.out | apply zzA | apply zzN | apply zzD) | exact HB.out)⟩
     rw [if_pos c16] at H
     have c16b0 : (t324 == 0) = true := beq_iff_eq.mpr c16
     have c16b1 : (t324 != 0) = false := bne_eq_false_iff_eq.mpr c16
     clear c16
     by_cases c17 : x8_2.length < 17592186044416
     case neg =>
      rw [if_neg c17] at H
      exact absurd H (by simp)
     rw [if_pos c17] at H
     have LMc17 := ZM c17
     clear c17
     obtain ⟨y325, hy325⟩ : ∃ y_ : List Int, y_ = (x8_2 ++ [t323]) := ⟨_, rfl⟩
     replace H : (thrumref13_SoftP.l0 k2 a0 l1 t317 y325 (wrap64 (x9_2 + t323)) l1 (l1.length : Int) (wrap64 (x36_2 + 1))) = some (r1, r2) := by first | (rw [hy325]; with_reducible exact H) | (have H2_ := (Option.bind_some _ _).symm.trans H; rw [hy325]; with_reducible exact H2_) | (have H2_ := (Option.bind_some _ _).symm.trans H; with_reducible exact H2_) | with_reducible exact H | (rw [hy325]; exact H) | exact H
     have Ny325 := ZM hy325
     clear hy325
     have H' := ZM H
     clear H
     have p319 : 0 ≤ (x36_2 : Int) := of_decide_eq_true Z3
     have q319 : x36_2 < (l1.length : Int) := of_decide_eq_true Z3
     obtain ⟨ad319, e319, hx319_0⟩ := Kd.at_int HR1.out x36_2 p319 q319
     cases e319
     replace hx319_0 := (HB.out.cell (World.block_lt_of_cell? w _ hx319_0)).trans hx319_0
     replace p319 := eq_true p319
     replace q319 := eq_true q319
     have p320 : 0 ≤ (t317 : Int) := of_decide_eq_true Z3
     have q320 : t317 < (l1.length : Int) := of_decide_eq_true Z3
     obtain ⟨ad320, e320, hx320_0⟩ := Kd.at_int HR1.out t317 p320 q320
     obtain rfl : ad319 = ad320 := (by injection e320)
     replace hx320_0 := (HB.out.cell (World.block_lt_of_cell? w _ hx320_0)).trans hx320_0
     replace p320 := eq_true p320
     replace q320 := eq_true q320
     go_wp2_with (first | ((with_reducible refine gate_callee (f := 42) rfl ?_); refine goesL_ (some 46) rfl rfl Try.func42 (by kernel_rfl) rfl #[.int .i64 (rd l1 x36_2), .int .i64 (rd l1 t317)] rfl Z2 ?_; (with_reducible refine (thrumref01_Sub.calls (rd l1 x36_2) (rd l1 t317) t321 t322 _ A13.out).mono ?_); rintro e w' ⟨rfl, ⟨nd, rfl⟩⟩; refine ⟨_, rfl, ?_⟩) | ((with_reducible refine gate_callee (f := 43) rfl ?_); refine goesL_ (some 55) rfl rfl Try.func43 (by kernel_rfl) rfl #[.int .i64 t321, .int .i64 a0] rfl Z2 ?_; (with_reducible refine (thrumref13_Exp.calls t321 a0 t323 t324 _ A15.out).mono ?_); rintro e w18 ⟨rfl, hb⟩; refine ⟨_, rfl, ?_⟩; replace HO_8 := ZM (Kd.R_below (Zr HO_8) hb); replace HB := ZM (zzT Z1 hb); (try clear hb); (try clear hb2); (try clear hk); (try clear hi)) | ((with_reducible refine gate_builtin (b := .append) (xs := #[.tmp 61, .tmp 63]) rfl ?_); at_builtin; refine Kd.R_append (Kd.int .i64) (w0 := w) w.heap.size rfl (.tmp 61) (.tmp 63) 22 2 (.int .i64 0) 8 rfl Try.underlying22 info2 rfl (by decide) (by omega) u8 x8_2 t323 [.int .i64 t323] (fun _ => True) (fun _ => False) rfl rfl ?aP (fun _ hk => hk.elim) ?aF ?aO ?aB ?aS ?aL ?_; (case aP => exact rfl); (case aB => exact Z1); (case aF => exact (fun _ _ => trivial)); (case aO => exact (Zr HO_8)); (case aS => exact (zzS Z1)); (case aL => have := LMc17.out; omega); intro v326 w19 ho hb hg hat; rw [← Ny325.out] at ho; have HO327 := ZM (ho); replace HB := ZM (hb); clear HO_8; clear ho hb hg hat))
     go_roundg k2
     case measure => have := HJ4.out; have := HK2.out; omega
     case rel => exact ⟨(y325), (wrap64 (x9_2 + t323)), (wrap64 (x36_2 + 1)), Z5, Z5, H', ⟨by have := HJ4.out; have := HK2.out; omega⟩, ⟨by (with_reducible repeat (first | apply rrA | apply rrN | apply rrD)); exact HO327.out⟩, ⟨by repeat (first | (with_reducible first | exact HB.out | apply zzA | apply zzN | apply zzD) | exact HB.out)⟩⟩
    rw [if_neg c8] at H
    have c8b0 : decide (x36_2 < (l1.length : Int)) = false := decide_eq_false c8
    clear c8
    have H' := ZM H
    clear H
    obtain ⟨Ao21, co21, eo21⟩ := Kd.R_slice HO_8.out
    subst eo21
    go_wp2
    go_loopg [15, 71] k2 (fun kq v15 v71 w' => ∃ (x15_3 : List Int) (x71_3 : Int), v71 = .int .i64 x71_3 ∧ Aside0 (thrumref13_SoftP.l1 kq a0 x9_2 x15_3 x8_2 (x8_2.length : Int) x71_3 = some (r1, r2)) ∧ Aside0 (kq ≤ k2) ∧ Aside0 (Kd.R (Kd.int .i64) 2 w' w.heap.size (fun k_ => some k_ ≠ ((.slice Ao21 x8_2.length co21) : Value).ownBlock) v15 x15_3) ∧ Aside0 (Kd.R (Kd.int .i64) 2 w' w.heap.size (fun k_ => some k_ ≠ (v15 : Value).ownBlock) (.slice Ao21 x8_2.length co21) x8_2) ∧ Aside0 (Below w.heap.size w w'))
    case atStart => exact ⟨(([] : List Int)), (0), Z5, H', ⟨Nat.le_refl _⟩, ⟨by first | exact Kd.R_nil _ _ _ _ _ | exact Kd.N_nil _ _ _ _ _ | exact Kd.V_nil _ _ _ _ _ | exact Kd.Q_nil _ _ _ _ _ | exact Kd.S_nil _ _ _ _ _⟩, ⟨by (with_reducible repeat (first | apply rrA | apply rrN | apply rrD)); exact Kd.R_mono HO_8.out (fun _ hk => (by simp [Value.ownBlock]))⟩, ⟨by repeat (first | (with_reducible first | exact HB.out | apply zzA | apply zzN | apply zzD) | exact HB.out)⟩⟩
    case round =>
     clear H'
     try clear c1
     try clear c4
     try clear c4b0
     try clear c4b1
     try clear c7
     try clear c8
     try clear c8b0
     obtain ⟨x15_3, x71_3, rfl, HA, HK3, HO_15, HO_69, HB⟩ := hrel
     cases gk with
     | zero => exact absurd HA.out (by simp [thrumref13_SoftP.l1])
     | succ k3 =>
      have H := HA.out
      clear HA
      simp only [thrumref13_SoftP.l1] at H
      by_cases c22 : x71_3 < (x8_2.length : Int)
      case neg =>
       rw [if_neg c22] at H
       have c22b0 : decide (x71_3 < (x8_2.length : Int)) = false := decide_eq_false c22
       clear c22
       simp only [Option.some.injEq, Prod.mk.injEq] at H
       obtain ⟨rfl, rfl⟩ := H
       go_wp2
       go_ret2
       exact ⟨_, by first | rfl | (simp [errW_none, errW_some] <;> rfl) | (simp [*, errW_none, errW_some] <;> rfl), by (with_reducible repeat (first | apply rrA | apply rrN | apply rrD)); exact Kd.R_mono HO_15.out (fun _ hk => trivial), by repeat (first | (with_reducible first | exact HB.out | apply zzA | apply zzN | apply zzD) | exact HB.out)⟩
      rw [if_pos c22] at H
      have c22b0 : decide (x71_3 < (x8_2.length : Int)) = true := decide_eq_true c22
      clear c22
      by_cases c23 : 0 ≤ x71_3
      case neg =>
       rw [if_neg c23] at H
       exact absurd H (by simp)
      rw [if_pos c23] at H
      have c23b0 : decide (0 ≤ x71_3) = true := decide_eq_true c23
      clear c23
      by_cases c24 : x71_3 < (x8_2.length : Int)
      case neg =>
       rw [if_neg c24] at H
       exact absurd H (by simp)
      rw [if_pos c24] at H
      have c24b0 : decide (x71_3 < (x8_2.length : Int)) = true := decide_eq_true c24
      clear c24
      replace H := Option.bind_eq_some_iff.mp H
      obtain ⟨⟨t329, t330⟩, A250, H⟩ := H
      replace H : (if t330 = 0 then (if x15_3.length < 17592186044416 then (thrumref13_SoftP.l1 k3 a0 x9_2 (x15_3 ++ [t329]) x8_2 (x8_2.length : Int) (wrap64 (x71_3 + 1))) else (none)) else (some (([] : List Int), t330))) = some (r1, r2) := H
      have A25 := ZM A250
      clear A250
      by_cases c26 : t330 = 0
      case neg =>
       rw [if_neg c26] at H
       have c26b0 : (t330 == 0) = false := beq_eq_false_iff_ne.mpr c26
       have c26b1 : (t330 != 0) = true := bne_iff_ne.mpr c26
       simp only [Option.some.injEq, Prod.mk.injEq] at H
       obtain ⟨rfl, rfl⟩ := H
       have p328 : 0 ≤ (x71_3 : Int) := of_decide_eq_true Z3
       have q328 : x71_3 < (x8_2.length : Int) := of_decide_eq_true Z3
       obtain ⟨ad328, e328, hx328_0⟩ := Kd.at_int (Kd.R_reads' HO_69.out).2.2 x71_3 p328 q328
       cases e328
       replace p328 := eq_true p328
       replace q328 := eq_true q328
       go_wp2_with (first | ((with_reducible refine gate_callee (f := 44) rfl ?_); refine goesL_ (some 79) rfl rfl Try.func44 (by kernel_rfl) rfl #[.int .i64 (rd x8_2 x71_3), .int .i64 x9_2, .int .i64 a0] rfl Z2 ?_; (with_reducible refine (thrumref01_Div.calls (rd x8_2 x71_3) x9_2 a0 t329 t330 _ A25.out).mono ?_); rintro e w' ⟨rfl, ⟨nd, rfl⟩⟩; refine ⟨_, rfl, ?_⟩))
       go_ret2
       exact ⟨_, by first | rfl | (simp [errW_none, errW_some] <;> rfl) | (simp [*, errW_none, errW_some] <;> rfl), by first | exact Kd.R_nil _ _ _ _ _ | exact Kd.N_nil _ _ _ _ _ | exact Kd.V_nil _ _ _ _ _ | exact Kd.Q_nil _ _ _ _ _ | exact Kd.S_nil _ _ _ _ _, by repeat (first | (with_reducible first | exact HB.out | apply zzA | apply zzN | apply zzD) | exact HB.out)⟩
      rw [if_pos c26] at H
      have c26b0 : (t330 == 0) = true := beq_iff_eq.mpr c26
      have c26b1 : (t330 != 0) = false := bne_eq_false_iff_eq.mpr c26
      clear c26
      by_cases c27 : x15_3.length < 17592186044416
      case neg =>
       rw [if_neg c27] at H
       exact absurd H (by simp)
      rw [if_pos c27] at H
      have LMc27 := ZM c27
      clear c27
      obtain ⟨y331, hy331⟩ : ∃ y_ : List Int, y_ = (x15_3 ++ [t329]) := ⟨_, rfl⟩
      replace H : (thrumref13_SoftP.l1 k3 a0 x9_2 y331 x8_2 (x8_2.length : Int) (wrap64 (x71_3 + 1))) = some (r1, r2) := by first | (rw [hy331]; with_reducible exact H) | (have H2_ := (Option.bind_some _ _).symm.trans H; rw [hy331]; with_reducible exact H2_) | (have H2_ := (Option.bind_some _ _).symm.trans H; with_reducible exact H2_) | with_reducible exact H | (rw [hy331]; exact H) | exact H
      have Ny331 := ZM hy331
      clear hy331
      have H' := ZM H
      clear H
      have p328 : 0 ≤ (x71_3 : Int) := of_decide_eq_true Z3
      have q328 : x71_3 < (x8_2.length : Int) := of_decide_eq_true Z3
      obtain ⟨ad328, e328, hx328_0⟩ := Kd.at_int (Kd.R_reads' HO_69.out).2.2 x71_3 p328 q328
      cases e328
      replace p328 := eq_true p328
      replace q328 := eq_true q328
      go_wp2_with (first | ((with_reducible refine gate_callee (f := 44) rfl ?_); refine goesL_ (some 79) rfl rfl Try.func44 (by kernel_rfl) rfl #[.int .i64 (rd x8_2 x71_3), .int .i64 x9_2, .int .i64 a0] rfl Z2 ?_; (with_reducible refine (thrumref01_Div.calls (rd x8_2 x71_3) x9_2 a0 t329 t330 _ A25.out).mono ?_); rintro e w' ⟨rfl, ⟨nd, rfl⟩⟩; refine ⟨_, rfl, ?_⟩) | ((with_reducible refine gate_builtin (b := .append) (xs := #[.tmp 85, .tmp 87]) rfl ?_); at_builtin; refine Kd.R_append (Kd.int .i64) (w0 := w) w.heap.size rfl (.tmp 85) (.tmp 87) 22 2 (.int .i64 0) 8 rfl Try.underlying22 info2 rfl (by decide) (by omega) u15 x15_3 t329 [.int .i64 t329] (fun k_ => some k_ ≠ (.slice (some ad328) x8_2.length co21 : Value).ownBlock) (fun _ => False) rfl rfl ?aP (fun _ hk => hk.elim) ?aF ?aO ?aB ?aS ?aL ?_; (case aP => exact rfl); (case aB => exact Z1); (case aF => exact (fun k_ hk => Kd.fresh' (Kd.R_lt (Zr HO_69)) k_ hk)); (case aO => exact (Zr HO_15)); (case aS => exact (zzS Z1)); (case aL => have := LMc27.out; omega); intro v332 w28 ho hb hg hat; rw [← Ny331.out] at ho; replace HO_69 := ZM (Kd.R_after (ok := (fun _ => True)) (by (with_reducible repeat (first | apply rrA | apply rrN | apply rrD)); exact Kd.R_mono HO_69.out (fun _ hk => ⟨trivial, hk⟩)) hg hat); have HO333 := ZM (ho); replace HB := ZM (hb); clear HO_15; clear ho hb hg hat))
      go_roundg k3
      case measure => have := HJ4.out; have := HK2.out; have := HK3.out; omega
      case rel => exact ⟨(y331), (wrap64 (x71_3 + 1)), Z5, H', ⟨by have := HJ4.out; have := HK2.out; have := HK3.out; omega⟩, ⟨by (with_reducible repeat (first | apply rrA | apply rrN | apply rrD)); exact HO333.out⟩, ⟨by (with_reducible repeat (first | apply rrA | apply rrN | apply rrD)); exact Kd.R_mono HO_69.out (fun _ hk => hk.2)⟩, ⟨by repeat (first | (with_reducible first | exact HB.out | apply zzA | apply zzN | apply zzD) | exact HB.out)⟩⟩
theorem thrumref13_SoftP.loop1 (f S : Int) (ps : List Int) (hps : ∀ p ∈ ps, 0 ≤ p ∧ p ≤ 1073741824) (hS : I64 S) (hl : ps.length ≤ 4096) : ∀ (d j : Nat) (qs : List Int), d + j = ps.length → qs.length = j →
    thrumref13_SoftP.l1 (d + 1) f S qs ps (ps.length : Int) (j : Int) = some (seqFrom (fun p => divF p S f) (ps.drop j) qs) := by
  intro d
  induction d with
  | zero =>
    intro j qs hd hq
    rw [thrumref13_SoftP.l1, if_neg (by omega), List.drop_eq_nil_of_le (by omega), seqFrom_nil]
  | succ d ih =>
    intro j qs hd hq
    have hj : j < ps.length := by omega
    have hp := hps _ (List.getElem_mem hj)
    rw [thrumref13_SoftP.l1, if_pos (by omega), if_pos (by omega), if_pos (by omega), show rd ps (j : Int) = ps[j] from rd_nat hj, thrumref01_Div.of _ _ _ ⟨by unfold I64; omega, hS⟩, List.drop_eq_getElem_cons hj]
    simp only [Option.bind_some]
    by_cases c : (divF ps[j] S f).2 = 0
    · rw [if_pos c, if_pos (by omega), wrap64_of (by unfold I64; omega), show (j : Int) + 1 = ((j + 1 : Nat) : Int) by omega, ih (j + 1) _ (by omega) (by simp; omega), seqFrom_ok (g := fun p => divF p S f) c]
    · rw [if_neg c, seqFrom_bad (g := fun p => divF p S f) c]
/-- What comes of the powers. -/
def softEnd (f : Int) (q : List Int × Int) : List Int × Int := if q.2 ≠ 0 then ([], q.2) else seqV (q.1.map fun p => divF p (sumI q.1) f)
theorem thrumref13_SoftP.loop0 (f : Int) (hf : 0 ≤ f ∧ f ≤ 30) (z : List Int) (hz : V64 z) (hl : z.length ≤ 4096) (best : Int) (hb : 0 ≤ best ∧ best < z.length) : ∀ (d i : Nat) (acc : List Int), d + i = z.length → acc.length = i → (∀ p ∈ acc, 0 ≤ p ∧ p ≤ 1073741824) →
    thrumref13_SoftP.l0 (d + 1 + 4100) f z best acc (sumI acc) z (z.length : Int) (i : Int) = some (softEnd f (seqFrom (powF (rd z best) f) (z.drop i) acc)) := by
  intro d
  induction d with
  | zero =>
    intro i acc hd ha hp
    have s0 := sumI_nn acc (fun q hq => (hp q hq).1)
    have s1 := sumI_ub acc 1073741824 (fun q hq => (hp q hq).2)
    have h1 := thrumref13_SoftP.loop1 f (sumI acc) acc hp (by unfold I64; omega) (by omega) acc.length 0 [] (by omega) rfl
    rw [show 0 + 1 + 4100 = 4100 + 1 by omega, thrumref13_SoftP.l0, if_neg (by omega), List.drop_eq_nil_of_le (by omega), seqFrom_nil]
    refine Eq.trans (leO_mono (fun k => (thrumref13_SoftP.mono_l k).2.2 _ _ _ _ _ _) (show acc.length + 1 ≤ 4100 by omega) h1) ?_
    rw [List.drop_zero, seqFrom_start]; rfl
  | succ d ih =>
    intro i acc hd ha hp
    have hi : i < z.length := by omega
    have hm : I64 (rd z best) := hz.rd _
    rw [show d + 1 + 1 + 4100 = (d + 1 + 4100) + 1 by omega, thrumref13_SoftP.l0, if_pos (by omega), if_pos (by omega), if_pos (by omega), if_pos hb.1, if_pos hb.2, show rd z (i : Int) = z[i] from rd_nat hi, thrumref01_Sub.of _ _ ⟨hz _ (List.getElem_mem hi), hm⟩, List.drop_eq_getElem_cons hi]
    simp only [Option.bind_some]
    by_cases c : I64 (z[i] - rd z best)
    · rw [res_of c]
      simp only [if_true]
      rw [thrumref13_Exp.of _ _ ⟨c, by unfold I64; omega⟩]
      simp only [Option.bind_some]
      have hg : powF (rd z best) f z[i] = expF (z[i] - rd z best) f := by unfold powF; rw [if_pos c]
      by_cases e : (expF (z[i] - rd z best) f).2 = 0
      · have hpb := expF_bd e
        have s0 := sumI_nn acc (fun q hq => (hp q hq).1)
        have s1 := sumI_ub acc 1073741824 (fun q hq => (hp q hq).2)
        rw [if_pos e, if_pos (by omega), wrap64_of (x := sumI acc + _) (by unfold I64; omega), ← sumI_app, wrap64_of (by unfold I64; omega), show (i : Int) + 1 = ((i + 1 : Nat) : Int) by omega, ih (i + 1) _ (by omega) (by simp; omega) (fun q hq => by rcases List.mem_append.1 hq with h | h; (exact hp q h); (cases List.mem_singleton.1 h; exact hpb)), seqFrom_ok (g := powF (rd z best) f) (by rw [hg]; exact e), hg]
      · rw [if_neg e, seqFrom_bad (g := powF (rd z best) f) (by rw [hg]; exact e), hg]
        unfold softEnd; rw [if_pos e]
    · rw [res_not c, if_neg (by decide)]
      have hg : powF (rd z best) f z[i] = (0, 2) := by unfold powF; rw [if_neg c]
      rw [seqFrom_bad (g := powF (rd z best) f) (by rw [hg]; decide), hg]
      rfl
def thrumref13_Soft.f (a0 : Int) (l1 : List Int) : Option (List Int × Int) := if I64 a0 ∧ V64 l1 then some (softV a0 l1) else none
theorem thrumref13_Soft.of (a0 : Int) (l1 : List Int)  (h_ : I64 a0 ∧ V64 l1) : thrumref13_Soft.f a0 l1 = some (softV a0 l1) := if_pos h_
theorem thrumref13_Soft.calls (a0 : Int) (A1 : Option Addr) (c1 : Nat) (l1 : List Int) (r1 : List Int) (r2 : Int) (w : World) (hr1 : Kd.C (Kd.int .i64) w A1 l1.length l1) (hc1 : l1.length ≤ c1) (h : thrumref13_Soft.f a0 l1 = some (r1, r2)) :
    Calls Try.prog 24 #[.int .i64 a0, .slice A1 l1.length c1] w fun e w' => ∃ v0_ : Value, e = .returned (.tuple #[v0_, .int .i64 r2]) ∧ Kd.R (Kd.int .i64) 2 w' w.heap.size (fun _ => True) v0_ r1 ∧ Below w.heap.size w w' := by
  unfold thrumref13_Soft.f at h
  split at h
  case isFalse => cases h
  rename_i hv
  refine thrumref13_SoftP.calls (l1.length + 1 + 4100 + 1) a0 A1 c1 l1 r1 r2 w hr1 hc1 (Eq.trans ?_ h)
  unfold thrumref13_SoftP.f thrumref13_Best.f softV
  simp only [Option.bind_some]
  by_cases hb : (bestF l1).2 = 0
  · obtain ⟨hI, hn0, hn⟩ := bestF_is hb
    rw [if_pos hb, if_neg (show ¬ ((bestF l1).2 ≠ 0) from fun q_ => q_ hb)]
    by_cases c1 : a0 < 0
    · rw [if_pos c1, thrumref13_SoftP.j0, if_pos rfl, if_pos (Or.inl c1)]
    · rw [if_neg c1, thrumref13_SoftP.j0]
      by_cases c2 : a0 > 30
      · rw [if_pos (decide_eq_true c2), if_pos (Or.inr c2)]
      · rw [if_neg (by simpa using c2), if_neg (by omega)]
        have := thrumref13_SoftP.loop0 a0 (by omega) l1 hv.2 hn (bestF l1).1 ⟨hI.1, hI.2.1⟩ l1.length 0 [] (by omega) rfl (by simp)
        refine Eq.trans this ?_
        rw [List.drop_zero, seqFrom_start]; rfl
  · rw [if_neg hb, if_pos hb]


/-! ### thrumref15_TellP: function 7 -/
def thrumref15_TellP.f (a0 : Int) (l1 : List Int) (l2 : List Int) (a3 : Int) : Option (List Int × Int) := (thrumref15_lines.f a0 l1 l2 a3).bind fun bt334 => (if bt334.2 = 0 then ((thrumref13_Soft.f a3 bt334.1).bind fun bt338 => (some (bt338.1, bt338.2))) else (some (([] : List Int), bt334.2)))
set_option maxHeartbeats 8000000 in
set_option maxRecDepth 100000 in
theorem thrumref15_TellP.calls (a0 : Int) (A1 : Option Addr) (c1 : Nat) (l1 : List Int) (A2 : Option Addr) (c2 : Nat) (l2 : List Int) (a3 : Int) (r1 : List Int) (r2 : Int) (w : World) (hr1 : Kd.C (Kd.int .i64) w A1 l1.length l1) (hc1 : l1.length ≤ c1) (hr2 : Kd.C (Kd.int .i64) w A2 l2.length l2) (hc2 : l2.length ≤ c2) (h : thrumref15_TellP.f a0 l1 l2 a3 = some (r1, r2)) :
  Calls Try.prog 7 #[.int .i64 a0, .slice A1 l1.length c1, .slice A2 l2.length c2, .int .i64 a3] w fun e w' => ∃ v0_ : Value, e = .returned (.tuple #[v0_, .int .i64 r2]) ∧ Kd.R (Kd.int .i64) 2 w' w.heap.size (fun _ => True) v0_ r1 ∧ Below w.heap.size w w' := by
 have HR1 := ZM hr1
 have HC1 := ZM hc1
 clear hr1 hc1
 have HR2 := ZM hr2
 have HC2 := ZM hc2
 clear hr2 hc2
 have HB := ZM (Below.refl w.heap.size w)
 have H : ((thrumref15_lines.f a0 l1 l2 a3).bind fun bt334 => (if bt334.2 = 0 then ((thrumref13_Soft.f a3 bt334.1).bind fun bt338 => (some (bt338.1, bt338.2))) else (some (([] : List Int), bt334.2)))) = some (r1, r2) := h
 clear h
 replace H := Option.bind_eq_some_iff.mp H
 obtain ⟨⟨t334, t335⟩, A50, H⟩ := H
 replace H : (if t335 = 0 then ((thrumref13_Soft.f a3 t334).bind fun bt338 => (some (bt338.1, bt338.2))) else (some (([] : List Int), t335))) = some (r1, r2) := H
 have A5 := ZM A50
 clear A50
 by_cases c6 : t335 = 0
 case neg =>
  rw [if_neg c6] at H
  have c6b0 : (t335 == 0) = false := beq_eq_false_iff_ne.mpr c6
  have c6b1 : (t335 != 0) = true := bne_iff_ne.mpr c6
  simp only [Option.some.injEq, Prod.mk.injEq] at H
  obtain ⟨rfl, rfl⟩ := H
  go_enter Try.func7, Try.ntmps7
  go_wp2_with (first | ((with_reducible refine gate_callee (f := 23) rfl ?_); refine goesL_ (some 17) rfl rfl Try.func23 (by kernel_rfl) rfl #[.int .i64 a0, .slice A1 l1.length c1, .slice A2 l2.length c2, .int .i64 a3] rfl Z2 ?_; (with_reducible refine (thrumref15_lines.calls a0 _ _ l1 _ _ l2 a3 t334 t335 _ ?side1 ?side2 ?side3 ?side4 A5.out).mono ?_); (case side1 => exact Z6); (case side2 => exact HC1.out); (case side3 => exact Z17); (case side4 => exact HC2.out); rintro e w11 ⟨v336, rfl, ho0, hb⟩; refine ⟨_, rfl, ?_⟩; have HO337 := ZM (Kd.R_lower ho0 (zzS Z1)); replace HB := ZM (zzT Z1 hb); (try clear hb); (try clear hb2); (try clear hk); (try clear hi); (try clear ho0)))
  go_ret2
  exact ⟨_, by first | rfl | (simp [errW_none, errW_some] <;> rfl) | (simp [*, errW_none, errW_some] <;> rfl), by first | exact Kd.R_nil _ _ _ _ _ | exact Kd.N_nil _ _ _ _ _ | exact Kd.V_nil _ _ _ _ _ | exact Kd.Q_nil _ _ _ _ _ | exact Kd.S_nil _ _ _ _ _, by repeat (first | (with_reducible first | exact HB.out | apply zzA | apply zzN | apply zzD) | exact HB.out)⟩
 rw [if_pos c6] at H
 have c6b0 : (t335 == 0) = true := beq_iff_eq.mpr c6
 have c6b1 : (t335 != 0) = false := bne_eq_false_iff_eq.mpr c6
 clear c6
 replace H := Option.bind_eq_some_iff.mp H
 obtain ⟨⟨t338, t339⟩, A70, H⟩ := H
 replace H : (some (t338, t339)) = some (r1, r2) := H
 have A7 := ZM A70
 clear A70
 simp only [Option.some.injEq, Prod.mk.injEq] at H
 obtain ⟨rfl, rfl⟩ := H
 go_enter Try.func7, Try.ntmps7
 go_wp2_with (first | ((with_reducible refine gate_callee (f := 23) rfl ?_); refine goesL_ (some 17) rfl rfl Try.func23 (by kernel_rfl) rfl #[.int .i64 a0, .slice A1 l1.length c1, .slice A2 l2.length c2, .int .i64 a3] rfl Z2 ?_; (with_reducible refine (thrumref15_lines.calls a0 _ _ l1 _ _ l2 a3 t334 t335 _ ?side1 ?side2 ?side3 ?side4 A5.out).mono ?_); (case side1 => exact Z6); (case side2 => exact HC1.out); (case side3 => exact Z17); (case side4 => exact HC2.out); rintro e w8 ⟨v336, rfl, ho0, hb⟩; refine ⟨_, rfl, ?_⟩; have HO337 := ZM (Kd.R_lower ho0 (zzS Z1)); replace HB := ZM (zzT Z1 hb); (try clear hb); (try clear hb2); (try clear hk); (try clear hi); (try clear ho0); obtain ⟨Ao9, co9, eo9⟩ := Kd.R_slice HO337.out; subst eo9) | ((with_reducible refine gate_callee (f := 24) rfl ?_); refine goesL_ (some 25) rfl rfl Try.func24 (by kernel_rfl) rfl #[.int .i64 a3, .slice Ao9 t334.length co9] rfl Z2 ?_; (with_reducible refine (thrumref13_Soft.calls a3 _ _ t334 t338 t339 _ ?side1 ?side2 A7.out).mono ?_); (case side1 => repeat (first | exact (Kd.R_reads' HO337.out).2.2 | (with_reducible refine ccA ?_ _) | (with_reducible refine ccN ?_ _) | (with_reducible refine ccD ?_))); (case side2 => exact (Kd.R_reads' HO337.out).2.1); rintro e w10 ⟨v340, rfl, ho0, hb⟩; refine ⟨_, rfl, ?_⟩; have n0_ := ZM (Kd.R_elder' (Zr HO337) (Kd.R_base ho0) hb); have n1_ := ZM (Kd.R_lower (Kd.R_new' ho0 (Kd.R_lt (Zr HO337))) (zzS Z1)); have n2_ := ZM (zzT Z1 hb); clear HO337; clear HB; have HO337 := n0_; have HO341 := n1_; have HB := n2_; clear n0_ n1_ n2_; (try clear hb); (try clear hb2); (try clear hk); (try clear hi); (try clear ho0)))
 go_ret2
 exact ⟨_, by first | rfl | (simp [errW_none, errW_some] <;> rfl) | (simp [*, errW_none, errW_some] <;> rfl), by (with_reducible repeat (first | apply rrA | apply rrN | apply rrD)); exact Kd.R_mono HO341.out (fun _ hk => trivial), by repeat (first | (with_reducible first | exact HB.out | apply zzA | apply zzN | apply zzD) | exact HB.out)⟩
def thrumref15_Tell.f (a0 : Int) (l1 l2 : List Int) (a3 : Int) : Option (List Int × Int) := if V64 l1 ∧ V64 l2 then some (tellS a0 l1 l2 a3) else none
theorem thrumref15_Tell.of (a0 : Int) (l1 l2 : List Int) (a3 : Int)  (h_ : V64 l1 ∧ V64 l2) : thrumref15_Tell.f a0 l1 l2 a3 = some (tellS a0 l1 l2 a3) := if_pos h_
theorem thrumref15_TellP.is (a0 : Int) (l1 l2 : List Int) (a3 : Int) (h1 : V64 l1) (h2 : V64 l2) : thrumref15_TellP.f a0 l1 l2 a3 = some (tellS a0 l1 l2 a3) := by
  unfold thrumref15_TellP.f tellS
  rw [thrumref15_lines.of _ _ _ _ ⟨h1, h2⟩, Option.bind_some]
  by_cases c : (linesS a0 l1 l2 a3).2 = 0
  · have hf := (linesS_ok c).2.2.1
    rw [if_pos c, if_pos c, show thrumref13_Soft.f a3 (linesS a0 l1 l2 a3).1 = some (softV a3 (linesS a0 l1 l2 a3).1) from if_pos ⟨by unfold I64; omega, linesS_v64 c⟩]; rfl
  · rw [if_neg c, if_neg c]
theorem thrumref15_Tell.calls (a0 : Int) (A1 : Option Addr) (c1 : Nat) (l1 : List Int) (A2 : Option Addr) (c2 : Nat) (l2 : List Int) (a3 : Int) (r1 : List Int) (r2 : Int) (w : World) (hr1 : Kd.C (Kd.int .i64) w A1 l1.length l1) (hc1 : l1.length ≤ c1) (hr2 : Kd.C (Kd.int .i64) w A2 l2.length l2) (hc2 : l2.length ≤ c2) (h : thrumref15_Tell.f a0 l1 l2 a3 = some (r1, r2)) :
    Calls Try.prog 7 #[.int .i64 a0, .slice A1 l1.length c1, .slice A2 l2.length c2, .int .i64 a3] w fun e w' => ∃ v0_ : Value, e = .returned (.tuple #[v0_, .int .i64 r2]) ∧ Kd.R (Kd.int .i64) 2 w' w.heap.size (fun _ => True) v0_ r1 ∧ Below w.heap.size w w' := by
  unfold thrumref15_Tell.f at h
  split at h
  case isFalse => cases h
  rename_i hv
  exact thrumref15_TellP.calls a0 A1 c1 l1 A2 c2 l2 a3 r1 r2 w hr1 hc1 hr2 hc2 ((thrumref15_TellP.is a0 l1 l2 a3 hv.1 hv.2).trans h)


/-! ### soft_ClassP: function 8 -/
def soft_ClassP.f (a0 : Int) (l1 : List Int) (l2 : List Int) (a3 : Int) : Option (Int × Int) := (soft_lines.f a0 l1 l2 a3).bind fun bt342 => (if bt342.2 = 0 then ((table_Best.f bt342.1).bind fun bt346 => (some (bt346.1, bt346.2))) else (some (0, bt342.2)))
set_option maxHeartbeats 8000000 in
set_option maxRecDepth 100000 in
theorem soft_ClassP.calls (a0 : Int) (A1 : Option Addr) (c1 : Nat) (l1 : List Int) (A2 : Option Addr) (c2 : Nat) (l2 : List Int) (a3 : Int) (r1 : Int) (r2 : Int) (w : World) (hr1 : Kd.C (Kd.int .i64) w A1 l1.length l1) (hc1 : l1.length ≤ c1) (hr2 : Kd.C (Kd.int .i64) w A2 l2.length l2) (hc2 : l2.length ≤ c2) (h : soft_ClassP.f a0 l1 l2 a3 = some (r1, r2)) :
  Calls Try.prog 8 #[.int .i64 a0, .slice A1 l1.length c1, .slice A2 l2.length c2, .int .i64 a3] w fun e w' => e = .returned (.tuple #[.int .i64 r1, .int .i64 r2]) ∧ Below w.heap.size w w' := by
 have HR1 := ZM hr1
 have HC1 := ZM hc1
 clear hr1 hc1
 have HR2 := ZM hr2
 have HC2 := ZM hc2
 clear hr2 hc2
 have HB := ZM (Below.refl w.heap.size w)
 have H : ((soft_lines.f a0 l1 l2 a3).bind fun bt342 => (if bt342.2 = 0 then ((table_Best.f bt342.1).bind fun bt346 => (some (bt346.1, bt346.2))) else (some (0, bt342.2)))) = some (r1, r2) := h
 clear h
 replace H := Option.bind_eq_some_iff.mp H
 obtain ⟨⟨t342, t343⟩, A50, H⟩ := H
 replace H : (if t343 = 0 then ((table_Best.f t342).bind fun bt346 => (some (bt346.1, bt346.2))) else (some (0, t343))) = some (r1, r2) := H
 have A5 := ZM A50
 clear A50
 by_cases c6 : t343 = 0
 case neg =>
  rw [if_neg c6] at H
  have c6b0 : (t343 == 0) = false := beq_eq_false_iff_ne.mpr c6
  have c6b1 : (t343 != 0) = true := bne_iff_ne.mpr c6
  simp only [Option.some.injEq, Prod.mk.injEq] at H
  obtain ⟨rfl, rfl⟩ := H
  go_enter Try.func8, Try.ntmps8
  go_wp2_with (first | ((with_reducible refine gate_callee (f := 21) rfl ?_); refine goesL_ (some 17) rfl rfl Try.func21 (by kernel_rfl) rfl #[.int .i64 a0, .slice A1 l1.length c1, .slice A2 l2.length c2, .int .i64 a3] rfl Z2 ?_; (with_reducible refine (soft_lines.calls a0 _ _ l1 _ _ l2 a3 t342 t343 _ ?side1 ?side2 ?side3 ?side4 A5.out).mono ?_); (case side1 => exact Z6); (case side2 => exact HC1.out); (case side3 => exact Z17); (case side4 => exact HC2.out); rintro e w11 ⟨v344, rfl, ho0, hb⟩; refine ⟨_, rfl, ?_⟩; have HO345 := ZM (Kd.R_lower ho0 (zzS Z1)); replace HB := ZM (zzT Z1 hb); (try clear hb); (try clear hb2); (try clear hk); (try clear hi); (try clear ho0)))
  go_ret2
  exact ⟨by first | rfl | (simp [errW_none, errW_some] <;> rfl) | (simp [*, errW_none, errW_some] <;> rfl), by repeat (first | (with_reducible first | exact HB.out | apply zzA | apply zzN | apply zzD) | exact HB.out)⟩
 rw [if_pos c6] at H
 have c6b0 : (t343 == 0) = true := beq_iff_eq.mpr c6
 have c6b1 : (t343 != 0) = false := bne_eq_false_iff_eq.mpr c6
 clear c6
 replace H := Option.bind_eq_some_iff.mp H
 obtain ⟨⟨t346, t347⟩, A70, H⟩ := H
 replace H : (some (t346, t347)) = some (r1, r2) := H
 have A7 := ZM A70
 clear A70
 simp only [Option.some.injEq, Prod.mk.injEq] at H
 obtain ⟨rfl, rfl⟩ := H
 go_enter Try.func8, Try.ntmps8
 go_wp2_with (first | ((with_reducible refine gate_callee (f := 21) rfl ?_); refine goesL_ (some 17) rfl rfl Try.func21 (by kernel_rfl) rfl #[.int .i64 a0, .slice A1 l1.length c1, .slice A2 l2.length c2, .int .i64 a3] rfl Z2 ?_; (with_reducible refine (soft_lines.calls a0 _ _ l1 _ _ l2 a3 t342 t343 _ ?side1 ?side2 ?side3 ?side4 A5.out).mono ?_); (case side1 => exact Z6); (case side2 => exact HC1.out); (case side3 => exact Z17); (case side4 => exact HC2.out); rintro e w8 ⟨v344, rfl, ho0, hb⟩; refine ⟨_, rfl, ?_⟩; have HO345 := ZM (Kd.R_lower ho0 (zzS Z1)); replace HB := ZM (zzT Z1 hb); (try clear hb); (try clear hb2); (try clear hk); (try clear hi); (try clear ho0); obtain ⟨Ao9, co9, eo9⟩ := Kd.R_slice HO345.out; subst eo9) | ((with_reducible refine gate_callee (f := 25) rfl ?_); refine goesL_ (some 24) rfl rfl Try.func25 (by kernel_rfl) rfl #[.slice Ao9 t342.length co9] rfl Z2 ?_; (with_reducible refine (table_Best.calls _ _ t342 t346 t347 _ ?side1 ?side2 A7.out).mono ?_); (case side1 => repeat (first | exact (Kd.R_reads' HO345.out).2.2 | (with_reducible refine ccA ?_ _) | (with_reducible refine ccN ?_ _) | (with_reducible refine ccD ?_))); (case side2 => exact (Kd.R_reads' HO345.out).2.1); rintro e w10 ⟨rfl, hb⟩; refine ⟨_, rfl, ?_⟩; replace HO345 := ZM (Kd.R_below (Zr HO345) hb); replace HB := ZM (zzT Z1 hb); (try clear hb); (try clear hb2); (try clear hk); (try clear hi)))
 go_ret2
 exact ⟨by first | rfl | (simp [errW_none, errW_some] <;> rfl) | (simp [*, errW_none, errW_some] <;> rfl), by repeat (first | (with_reducible first | exact HB.out | apply zzA | apply zzN | apply zzD) | exact HB.out)⟩
def soft_Class.f (a0 : Int) (l1 l2 : List Int) (a3 : Int) : Option (Int × Int) := if V64 l1 ∧ V64 l2 then some (classS a0 l1 l2 a3) else none
theorem soft_Class.of (a0 : Int) (l1 l2 : List Int) (a3 : Int)  (h_ : V64 l1 ∧ V64 l2) : soft_Class.f a0 l1 l2 a3 = some (classS a0 l1 l2 a3) := if_pos h_
theorem soft_ClassP.is (a0 : Int) (l1 l2 : List Int) (a3 : Int) (h1 : V64 l1) (h2 : V64 l2) : soft_ClassP.f a0 l1 l2 a3 = some (classS a0 l1 l2 a3) := by
  unfold soft_ClassP.f classS
  rw [soft_lines.of _ _ _ _ ⟨h1, h2⟩, Option.bind_some]
  by_cases c : (linesS a0 l1 l2 a3).2 = 0
  · rw [if_pos c, if_pos c]; rfl
  · rw [if_neg c, if_neg c]
theorem soft_Class.calls (a0 : Int) (A1 : Option Addr) (c1 : Nat) (l1 : List Int) (A2 : Option Addr) (c2 : Nat) (l2 : List Int) (a3 : Int) (r1 : Int) (r2 : Int) (w : World) (hr1 : Kd.C (Kd.int .i64) w A1 l1.length l1) (hc1 : l1.length ≤ c1) (hr2 : Kd.C (Kd.int .i64) w A2 l2.length l2) (hc2 : l2.length ≤ c2) (h : soft_Class.f a0 l1 l2 a3 = some (r1, r2)) :
    Calls Try.prog 8 #[.int .i64 a0, .slice A1 l1.length c1, .slice A2 l2.length c2, .int .i64 a3] w fun e w' => e = .returned (.tuple #[.int .i64 r1, .int .i64 r2]) ∧ Below w.heap.size w w' := by
  unfold soft_Class.f at h
  split at h
  case isFalse => cases h
  rename_i hv
  exact soft_ClassP.calls a0 A1 c1 l1 A2 c2 l2 a3 r1 r2 w hr1 hc1 hr2 hc2 ((soft_ClassP.is a0 l1 l2 a3 hv.1 hv.2).trans h)


/-! ### thrumref15_ClassP: function 9 -/
def thrumref15_ClassP.f (a0 : Int) (l1 : List Int) (l2 : List Int) (a3 : Int) : Option (Int × Int) := (thrumref15_lines.f a0 l1 l2 a3).bind fun bt348 => (if bt348.2 = 0 then ((thrumref13_Best.f bt348.1).bind fun bt352 => (some (bt352.1, bt352.2))) else (some (0, bt348.2)))
set_option maxHeartbeats 8000000 in
set_option maxRecDepth 100000 in
theorem thrumref15_ClassP.calls (a0 : Int) (A1 : Option Addr) (c1 : Nat) (l1 : List Int) (A2 : Option Addr) (c2 : Nat) (l2 : List Int) (a3 : Int) (r1 : Int) (r2 : Int) (w : World) (hr1 : Kd.C (Kd.int .i64) w A1 l1.length l1) (hc1 : l1.length ≤ c1) (hr2 : Kd.C (Kd.int .i64) w A2 l2.length l2) (hc2 : l2.length ≤ c2) (h : thrumref15_ClassP.f a0 l1 l2 a3 = some (r1, r2)) :
  Calls Try.prog 9 #[.int .i64 a0, .slice A1 l1.length c1, .slice A2 l2.length c2, .int .i64 a3] w fun e w' => e = .returned (.tuple #[.int .i64 r1, .int .i64 r2]) ∧ Below w.heap.size w w' := by
 have HR1 := ZM hr1
 have HC1 := ZM hc1
 clear hr1 hc1
 have HR2 := ZM hr2
 have HC2 := ZM hc2
 clear hr2 hc2
 have HB := ZM (Below.refl w.heap.size w)
 have H : ((thrumref15_lines.f a0 l1 l2 a3).bind fun bt348 => (if bt348.2 = 0 then ((thrumref13_Best.f bt348.1).bind fun bt352 => (some (bt352.1, bt352.2))) else (some (0, bt348.2)))) = some (r1, r2) := h
 clear h
 replace H := Option.bind_eq_some_iff.mp H
 obtain ⟨⟨t348, t349⟩, A50, H⟩ := H
 replace H : (if t349 = 0 then ((thrumref13_Best.f t348).bind fun bt352 => (some (bt352.1, bt352.2))) else (some (0, t349))) = some (r1, r2) := H
 have A5 := ZM A50
 clear A50
 by_cases c6 : t349 = 0
 case neg =>
  rw [if_neg c6] at H
  have c6b0 : (t349 == 0) = false := beq_eq_false_iff_ne.mpr c6
  have c6b1 : (t349 != 0) = true := bne_iff_ne.mpr c6
  simp only [Option.some.injEq, Prod.mk.injEq] at H
  obtain ⟨rfl, rfl⟩ := H
  go_enter Try.func9, Try.ntmps9
  go_wp2_with (first | ((with_reducible refine gate_callee (f := 23) rfl ?_); refine goesL_ (some 17) rfl rfl Try.func23 (by kernel_rfl) rfl #[.int .i64 a0, .slice A1 l1.length c1, .slice A2 l2.length c2, .int .i64 a3] rfl Z2 ?_; (with_reducible refine (thrumref15_lines.calls a0 _ _ l1 _ _ l2 a3 t348 t349 _ ?side1 ?side2 ?side3 ?side4 A5.out).mono ?_); (case side1 => exact Z6); (case side2 => exact HC1.out); (case side3 => exact Z17); (case side4 => exact HC2.out); rintro e w10 ⟨v350, rfl, ho0, hb⟩; refine ⟨_, rfl, ?_⟩; have HO351 := ZM (Kd.R_lower ho0 (zzS Z1)); replace HB := ZM (zzT Z1 hb); (try clear hb); (try clear hb2); (try clear hk); (try clear hi); (try clear ho0)))
  go_ret2
  exact ⟨by first | rfl | (simp [errW_none, errW_some] <;> rfl) | (simp [*, errW_none, errW_some] <;> rfl), by repeat (first | (with_reducible first | exact HB.out | apply zzA | apply zzN | apply zzD) | exact HB.out)⟩
 rw [if_pos c6] at H
 have c6b0 : (t349 == 0) = true := beq_iff_eq.mpr c6
 have c6b1 : (t349 != 0) = false := bne_eq_false_iff_eq.mpr c6
 clear c6
 replace H := Option.bind_eq_some_iff.mp H
 obtain ⟨⟨t352, t353⟩, A70, H⟩ := H
 replace H : (some (t352, t353)) = some (r1, r2) := H
 have A7 := ZM A70
 clear A70
 simp only [Option.some.injEq, Prod.mk.injEq] at H
 obtain ⟨rfl, rfl⟩ := H
 go_enter Try.func9, Try.ntmps9
 go_wp2_with (first | ((with_reducible refine gate_callee (f := 23) rfl ?_); refine goesL_ (some 17) rfl rfl Try.func23 (by kernel_rfl) rfl #[.int .i64 a0, .slice A1 l1.length c1, .slice A2 l2.length c2, .int .i64 a3] rfl Z2 ?_; (with_reducible refine (thrumref15_lines.calls a0 _ _ l1 _ _ l2 a3 t348 t349 _ ?side1 ?side2 ?side3 ?side4 A5.out).mono ?_); (case side1 => exact Z6); (case side2 => exact HC1.out); (case side3 => exact Z17); (case side4 => exact HC2.out); rintro e w8 ⟨v350, rfl, ho0, hb⟩; refine ⟨_, rfl, ?_⟩; have HO351 := ZM (Kd.R_lower ho0 (zzS Z1)); replace HB := ZM (zzT Z1 hb); (try clear hb); (try clear hb2); (try clear hk); (try clear hi); (try clear ho0); obtain ⟨Ao9, co9, eo9⟩ := Kd.R_slice HO351.out; subst eo9) | ((with_reducible refine gate_callee (f := 26) rfl ?_); refine goesL_ (some 24) rfl rfl Try.func26 (by kernel_rfl) rfl #[.slice Ao9 t348.length co9] rfl Z2 ?_; (with_reducible refine (thrumref13_Best.calls _ _ t348 t352 t353 _ ?side1 ?side2 A7.out).mono ?_); (case side1 => repeat (first | exact (Kd.R_reads' HO351.out).2.2 | (with_reducible refine ccA ?_ _) | (with_reducible refine ccN ?_ _) | (with_reducible refine ccD ?_))); (case side2 => exact (Kd.R_reads' HO351.out).2.1); rintro e w' ⟨rfl, ⟨nd, rfl⟩⟩; refine ⟨_, rfl, ?_⟩))
 go_ret2
 exact ⟨by first | rfl | (simp [errW_none, errW_some] <;> rfl) | (simp [*, errW_none, errW_some] <;> rfl), by repeat (first | (with_reducible first | exact HB.out | apply zzA | apply zzN | apply zzD) | exact HB.out)⟩
def thrumref15_Class.f (a0 : Int) (l1 l2 : List Int) (a3 : Int) : Option (Int × Int) := if V64 l1 ∧ V64 l2 then some (classS a0 l1 l2 a3) else none
theorem thrumref15_Class.of (a0 : Int) (l1 l2 : List Int) (a3 : Int)  (h_ : V64 l1 ∧ V64 l2) : thrumref15_Class.f a0 l1 l2 a3 = some (classS a0 l1 l2 a3) := if_pos h_
theorem thrumref15_ClassP.is (a0 : Int) (l1 l2 : List Int) (a3 : Int) (h1 : V64 l1) (h2 : V64 l2) : thrumref15_ClassP.f a0 l1 l2 a3 = some (classS a0 l1 l2 a3) := by
  unfold thrumref15_ClassP.f classS
  rw [thrumref15_lines.of _ _ _ _ ⟨h1, h2⟩, Option.bind_some]
  by_cases c : (linesS a0 l1 l2 a3).2 = 0
  · rw [if_pos c, if_pos c]; rfl
  · rw [if_neg c, if_neg c]
theorem thrumref15_Class.calls (a0 : Int) (A1 : Option Addr) (c1 : Nat) (l1 : List Int) (A2 : Option Addr) (c2 : Nat) (l2 : List Int) (a3 : Int) (r1 : Int) (r2 : Int) (w : World) (hr1 : Kd.C (Kd.int .i64) w A1 l1.length l1) (hc1 : l1.length ≤ c1) (hr2 : Kd.C (Kd.int .i64) w A2 l2.length l2) (hc2 : l2.length ≤ c2) (h : thrumref15_Class.f a0 l1 l2 a3 = some (r1, r2)) :
    Calls Try.prog 9 #[.int .i64 a0, .slice A1 l1.length c1, .slice A2 l2.length c2, .int .i64 a3] w fun e w' => e = .returned (.tuple #[.int .i64 r1, .int .i64 r2]) ∧ Below w.heap.size w w' := by
  unfold thrumref15_Class.f at h
  split at h
  case isFalse => cases h
  rename_i hv
  exact thrumref15_ClassP.calls a0 A1 c1 l1 A2 c2 l2 a3 r1 r2 w hr1 hc1 hr2 hc2 ((thrumref15_ClassP.is a0 l1 l2 a3 hv.1 hv.2).trans h)


/-! ### thrumref15_OffP: function 11 -/
def thrumref15_OffP.f (a0 : Int) (l1 : List Int) (l2_0 : List Int) (a2_1 : Int) (a3 : Int) : Option (List Int × Int) := (thrumref15_Tell.f a0 l1 l2_0 a3).bind fun bt355 => (if bt355.2 = 0 then (if a2_1 < 0 then (some (([] : List Int), 1)) else (if a2_1 ≥ a0 then (some (([] : List Int), 1)) else (if 0 ≤ a2_1 then (if a2_1 < (bt355.1.length : Int) then (if 0 ≤ a3 then (some ((bt355.1.set (a2_1 : Int).toNat (wrap64 ((rd bt355.1 a2_1) - (shl .i64 1 a3)))), 0)) else (none)) else (none)) else (none)))) else (some (([] : List Int), bt355.2)))
def thrumref15_OffP.T6 : Bool × List (List Nat × List Nat) := (true, [([], []), ([], []), ([1], [1]), ([0, 2], [0, 2]), ([3], [3]), ([], []), ([5], [5]), ([4, 6], [4, 6]), ([0, 2, 0, 1, 2, 3, 4, 5, 6, 7], [0, 2]), ([8, 7, 0, 1, 2, 3, 4, 5, 6, 7], [7, 8])])
def thrumref15_OffP.B6 : List Nat := [0, 0, 2, 7, 15, 0, 32, 127, 255, 511]
theorem thrumref15_OffP.tab6 : rtab .any (opsOf Try.f11 6) = thrumref15_OffP.T6 := by kernel_rfl
theorem thrumref15_OffP.bits6 : waitsOk thrumref15_OffP.T6.2 thrumref15_OffP.B6 = true := by kernel_rfl
set_option maxHeartbeats 8000000 in
set_option maxRecDepth 100000 in
theorem thrumref15_OffP.calls (a0 : Int) (A1 : Option Addr) (c1 : Nat) (l1 : List Int) (A2_0 : Option Addr) (c2_0 : Nat) (l2_0 : List Int) (a2_1 : Int) (a3 : Int) (r1 : List Int) (r2 : Int) (w : World) (hr1 : Kd.C (Kd.int .i64) w A1 l1.length l1) (hc1 : l1.length ≤ c1) (hr2_0 : Kd.C (Kd.int .i64) w A2_0 l2_0.length l2_0) (hc2_0 : l2_0.length ≤ c2_0) (h : thrumref15_OffP.f a0 l1 l2_0 a2_1 a3 = some (r1, r2)) :
  Calls Try.prog 11 #[.int .i64 a0, .slice A1 l1.length c1, .agg #[.slice A2_0 l2_0.length c2_0, .int .i64 a2_1], .int .i64 a3] w fun e w' => ∃ v0_ : Value, e = .returned (.tuple #[v0_, .int .i64 r2]) ∧ Kd.R (Kd.int .i64) 2 w' w.heap.size (fun _ => True) v0_ r1 ∧ Below w.heap.size w w' := by
 have hu24 := Try.underlying24
 have HR1 := ZM hr1
 have HC1 := ZM hc1
 clear hr1 hc1
 have HR2_0 := ZM hr2_0
 have HC2_0 := ZM hc2_0
 clear hr2_0 hc2_0
 have HB := ZM (Below.refl w.heap.size w)
 have H : ((thrumref15_Tell.f a0 l1 l2_0 a3).bind fun bt355 => (if bt355.2 = 0 then (if a2_1 < 0 then (some (([] : List Int), 1)) else (if a2_1 ≥ a0 then (some (([] : List Int), 1)) else (if 0 ≤ a2_1 then (if a2_1 < (bt355.1.length : Int) then (if 0 ≤ a3 then (some ((bt355.1.set (a2_1 : Int).toNat (wrap64 ((rd bt355.1 a2_1) - (shl .i64 1 a3)))), 0)) else (none)) else (none)) else (none)))) else (some (([] : List Int), bt355.2)))) = some (r1, r2) := h
 clear h
 replace H := Option.bind_eq_some_iff.mp H
 obtain ⟨⟨t355, t356⟩, A50, H⟩ := H
 replace H : (if t356 = 0 then (if a2_1 < 0 then (some (([] : List Int), 1)) else (if a2_1 ≥ a0 then (some (([] : List Int), 1)) else (if 0 ≤ a2_1 then (if a2_1 < (t355.length : Int) then (if 0 ≤ a3 then (some ((t355.set (a2_1 : Int).toNat (wrap64 ((rd t355 a2_1) - (shl .i64 1 a3)))), 0)) else (none)) else (none)) else (none)))) else (some (([] : List Int), t356))) = some (r1, r2) := H
 have A5 := ZM A50
 clear A50
 by_cases c6 : t356 = 0
 case neg =>
  rw [if_neg c6] at H
  have c6b0 : (t356 == 0) = false := beq_eq_false_iff_ne.mpr c6
  have c6b1 : (t356 != 0) = true := bne_iff_ne.mpr c6
  simp only [Option.some.injEq, Prod.mk.injEq] at H
  obtain ⟨rfl, rfl⟩ := H
  go_enter Try.func11, Try.ntmps11
  go_wp2_with (first | ((with_reducible refine gate_dst (N := 6) rfl ?_); refine box_event ?hg (N := 6) ?hd (cs := #[.slice A2_0 l2_0.length c2_0, .int .i64 a2_1]) (t := 24) ?hr ?_; (case hd => rfl); (case hg => rfl); (case hr => exact Z10); intro gb354 hg w29 hbox hb; have BK354 := ZM (hbox); have GW354 := ZM ((by rw [hg]; exact (zzS Z1) : w.heap.size ≤ gb354)); have GE354 := ZM ((by rw [hg]; exact (zzS Z1) : w.heap.size ≤ gb354)); replace HB := ZM (zzT Z1 hb); clear hb hbox hg; obtain ⟨hcz30_0, hcz30_1, hfz30_0, hfz30_1⟩ := Y2f BK354) | ((with_reducible refine gate_callee (f := 7) rfl ?_); refine goesL_ (some 18) rfl rfl Try.func7 (by kernel_rfl) rfl #[.int .i64 a0, .slice A1 l1.length c1, .slice A2_0 l2_0.length c2_0, .int .i64 a3] rfl Z2 ?_; (with_reducible refine (thrumref15_Tell.calls a0 _ _ l1 _ _ l2_0 a3 t355 t356 _ ?side1 ?side2 ?side3 ?side4 A5.out).mono ?_); (case side1 => exact Z22); (case side2 => exact HC1.out); (case side3 => exact Z28); (case side4 => exact HC2_0.out); rintro e w31 ⟨v357, rfl, ho0, hb⟩; refine ⟨_, rfl, ?_⟩; have HO358 := ZM (Kd.R_lower ho0 (zzS Z15)); replace BK354 := ZM (blk_below (g := gb354) (o := .cells #[.slice A2_0 l2_0.length c2_0, .int .i64 a2_1] 24 (0, 0)) (Zk BK354) hb); replace HB := ZM (zzT Z15 hb); (try clear hb); (try clear hb2); (try clear hk); (try clear hi); (try clear ho0)))
  go_ret2
  exact ⟨_, by first | rfl | (simp [errW_none, errW_some] <;> rfl) | (simp [*, errW_none, errW_some] <;> rfl), by first | exact Kd.R_nil _ _ _ _ _ | exact Kd.N_nil _ _ _ _ _ | exact Kd.V_nil _ _ _ _ _ | exact Kd.Q_nil _ _ _ _ _ | exact Kd.S_nil _ _ _ _ _, by repeat (first | (with_reducible first | exact HB.out | apply zzA | apply zzN | apply zzD | refine below_set ?_ GE354.out) | exact HB.out)⟩
 rw [if_pos c6] at H
 have c6b0 : (t356 == 0) = true := beq_iff_eq.mpr c6
 have c6b1 : (t356 != 0) = false := bne_eq_false_iff_eq.mpr c6
 clear c6
 by_cases c7 : a2_1 < 0
 ·
  rw [if_pos c7] at H
  have c7b0 : decide (a2_1 < 0) = true := decide_eq_true c7
  clear c7
  simp only [Option.some.injEq, Prod.mk.injEq] at H
  obtain ⟨rfl, rfl⟩ := H
  go_enter Try.func11, Try.ntmps11
  go_wp2_with (first | ((with_reducible refine gate_dst (N := 6) rfl ?_); refine box_event ?hg (N := 6) ?hd (cs := #[.slice A2_0 l2_0.length c2_0, .int .i64 a2_1]) (t := 24) ?hr ?_; (case hd => rfl); (case hg => rfl); (case hr => exact Z10); intro gb354 hg w8 hbox hb; have BK354 := ZM (hbox); have GW354 := ZM ((by rw [hg]; exact (zzS Z1) : w.heap.size ≤ gb354)); have GE354 := ZM ((by rw [hg]; exact (zzS Z1) : w.heap.size ≤ gb354)); replace HB := ZM (zzT Z1 hb); clear hb hbox hg; obtain ⟨hcz9_0, hcz9_1, hfz9_0, hfz9_1⟩ := Y2f BK354) | ((with_reducible refine gate_callee (f := 7) rfl ?_); refine goesL_ (some 18) rfl rfl Try.func7 (by kernel_rfl) rfl #[.int .i64 a0, .slice A1 l1.length c1, .slice A2_0 l2_0.length c2_0, .int .i64 a3] rfl Z2 ?_; (with_reducible refine (thrumref15_Tell.calls a0 _ _ l1 _ _ l2_0 a3 t355 t356 _ ?side1 ?side2 ?side3 ?side4 A5.out).mono ?_); (case side1 => exact Z22); (case side2 => exact HC1.out); (case side3 => exact Z28); (case side4 => exact HC2_0.out); rintro e w10 ⟨v357, rfl, ho0, hb⟩; refine ⟨_, rfl, ?_⟩; have HO358 := ZM (Kd.R_lower ho0 (zzS Z15)); replace BK354 := ZM (blk_below (g := gb354) (o := .cells #[.slice A2_0 l2_0.length c2_0, .int .i64 a2_1] 24 (0, 0)) (Zk BK354) hb); replace HB := ZM (zzT Z15 hb); (try clear hb); (try clear hb2); (try clear hk); (try clear hi); (try clear ho0); obtain ⟨hcz11_0, hcz11_1, hfz11_0, hfz11_1⟩ := Y2f BK354))
  go_ret2
  exact ⟨_, by first | rfl | (simp [errW_none, errW_some] <;> rfl) | (simp [*, errW_none, errW_some] <;> rfl), by first | exact Kd.R_nil _ _ _ _ _ | exact Kd.N_nil _ _ _ _ _ | exact Kd.V_nil _ _ _ _ _ | exact Kd.Q_nil _ _ _ _ _ | exact Kd.S_nil _ _ _ _ _, by repeat (first | (with_reducible first | exact HB.out | apply zzA | apply zzN | apply zzD | refine below_set ?_ GE354.out) | exact HB.out)⟩
 rw [if_neg c7] at H
 have c7b0 : decide (a2_1 < 0) = false := decide_eq_false c7
 clear c7
 by_cases c12 : a2_1 ≥ a0
 ·
  rw [if_pos c12] at H
  have c12b0 : decide (a0 ≤ a2_1) = true := decide_eq_true c12
  clear c12
  simp only [Option.some.injEq, Prod.mk.injEq] at H
  obtain ⟨rfl, rfl⟩ := H
  go_enter Try.func11, Try.ntmps11
  go_wp2_with (first | ((with_reducible refine gate_dst (N := 6) rfl ?_); refine box_event ?hg (N := 6) ?hd (cs := #[.slice A2_0 l2_0.length c2_0, .int .i64 a2_1]) (t := 24) ?hr ?_; (case hd => rfl); (case hg => rfl); (case hr => exact Z10); intro gb354 hg w13 hbox hb; have BK354 := ZM (hbox); have GW354 := ZM ((by rw [hg]; exact (zzS Z1) : w.heap.size ≤ gb354)); have GE354 := ZM ((by rw [hg]; exact (zzS Z1) : w.heap.size ≤ gb354)); replace HB := ZM (zzT Z1 hb); clear hb hbox hg; obtain ⟨hcz14_0, hcz14_1, hfz14_0, hfz14_1⟩ := Y2f BK354) | ((with_reducible refine gate_callee (f := 7) rfl ?_); refine goesL_ (some 18) rfl rfl Try.func7 (by kernel_rfl) rfl #[.int .i64 a0, .slice A1 l1.length c1, .slice A2_0 l2_0.length c2_0, .int .i64 a3] rfl Z2 ?_; (with_reducible refine (thrumref15_Tell.calls a0 _ _ l1 _ _ l2_0 a3 t355 t356 _ ?side1 ?side2 ?side3 ?side4 A5.out).mono ?_); (case side1 => exact Z22); (case side2 => exact HC1.out); (case side3 => exact Z28); (case side4 => exact HC2_0.out); rintro e w15 ⟨v357, rfl, ho0, hb⟩; refine ⟨_, rfl, ?_⟩; have HO358 := ZM (Kd.R_lower ho0 (zzS Z15)); replace BK354 := ZM (blk_below (g := gb354) (o := .cells #[.slice A2_0 l2_0.length c2_0, .int .i64 a2_1] 24 (0, 0)) (Zk BK354) hb); replace HB := ZM (zzT Z15 hb); (try clear hb); (try clear hb2); (try clear hk); (try clear hi); (try clear ho0); obtain ⟨hcz16_0, hcz16_1, hfz16_0, hfz16_1⟩ := Y2f BK354))
  go_ret2
  exact ⟨_, by first | rfl | (simp [errW_none, errW_some] <;> rfl) | (simp [*, errW_none, errW_some] <;> rfl), by first | exact Kd.R_nil _ _ _ _ _ | exact Kd.N_nil _ _ _ _ _ | exact Kd.V_nil _ _ _ _ _ | exact Kd.Q_nil _ _ _ _ _ | exact Kd.S_nil _ _ _ _ _, by repeat (first | (with_reducible first | exact HB.out | apply zzA | apply zzN | apply zzD | refine below_set ?_ GE354.out) | exact HB.out)⟩
 rw [if_neg c12] at H
 have c12b0 : decide (a0 ≤ a2_1) = false := decide_eq_false c12
 clear c12
 by_cases c17 : 0 ≤ a2_1
 case neg =>
  rw [if_neg c17] at H
  exact absurd H (by simp)
 rw [if_pos c17] at H
 have c17b0 : decide (0 ≤ a2_1) = true := decide_eq_true c17
 clear c17
 by_cases c18 : a2_1 < (t355.length : Int)
 case neg =>
  rw [if_neg c18] at H
  exact absurd H (by simp)
 rw [if_pos c18] at H
 have c18b0 : decide (a2_1 < (t355.length : Int)) = true := decide_eq_true c18
 clear c18
 by_cases c19 : 0 ≤ a3
 case neg =>
  rw [if_neg c19] at H
  exact absurd H (by simp)
 rw [if_pos c19] at H
 have c19b0 := eq_true c19
 have c19b1 : decide (0 ≤ a3) = true := decide_eq_true c19
 clear c19
 obtain ⟨ji20, hji20⟩ : ∃ j_ : Int, (shl .i64 1 a3) = j_ := ⟨_, rfl⟩
 replace H : (some ((t355.set (a2_1 : Int).toNat (wrap64 ((rd t355 a2_1) - (ji20)))), 0)) = some (r1, r2) := by first | (rw [hji20] at H; exact H) | (simp only [hji20] at H ⊢; exact H)
 (try rw [hji20] at A5)
 have hji20_ : (IntKind.i64.wrap (1 * 2 ^ min a3.toNat 64)) = ji20 := hji20
 have hji20z : a3 ≤ 64 → (IntKind.i64.wrap (1 * 2 ^ a3.toNat)) = ji20 := shl_small hji20
 have hji20u : (IntKind.i64.wrap (2 ^ min a3.toNat 64)) = ji20 := by have h_ := hji20_; rw [Int.one_mul] at h_; exact h_
 have hji20v : a3 ≤ 64 → (IntKind.i64.wrap (2 ^ a3.toNat)) = ji20 := fun hle_ => by have h_ := hji20z hle_; rw [Int.one_mul] at h_; exact h_
 have hji20y : (wrap64 (1 * 2 ^ min a3.toNat 64)) = ji20 := (i64_w _).symm.trans hji20_
 have hji20x : a3 ≤ 64 → (wrap64 (1 * 2 ^ a3.toNat)) = ji20 := fun h_ => (i64_w _).symm.trans (hji20z h_)
 obtain ⟨y360, hy360⟩ : ∃ y_ : List Int, y_ = (t355.set (a2_1 : Int).toNat (wrap64 ((rd t355 a2_1) - (ji20)))) := ⟨_, rfl⟩
 replace H : (some (y360, 0)) = some (r1, r2) := by first | (rw [hy360]; with_reducible exact H) | (have H2_ := (Option.bind_some _ _).symm.trans H; rw [hy360]; with_reducible exact H2_) | (have H2_ := (Option.bind_some _ _).symm.trans H; with_reducible exact H2_) | with_reducible exact H | (rw [hy360]; exact H) | exact H
 have Ny360 := ZM hy360
 clear hy360
 simp only [Option.some.injEq, Prod.mk.injEq] at H
 obtain ⟨rfl, rfl⟩ := H
 go_enter Try.func11, Try.ntmps11
 try go_wp2_with (first | ((with_reducible refine gate_dst (N := 6) rfl ?_); refine box_event ?hg (N := 6) ?hd (cs := #[.slice A2_0 l2_0.length c2_0, .int .i64 a2_1]) (t := 24) ?hr ?_; (case hd => rfl); (case hg => rfl); (case hr => exact Z10); intro gb354 hg w22 hbox hb; have BK354 := ZM (hbox); have GW354 := ZM ((by rw [hg]; exact (zzS Z1) : w.heap.size ≤ gb354)); have GE354 := ZM ((by rw [hg]; exact (zzS Z1) : w.heap.size ≤ gb354)); replace HB := ZM (zzT Z1 hb); clear hb hbox hg; obtain ⟨hcz23_0, hcz23_1, hfz23_0, hfz23_1⟩ := Y2f BK354) | ((with_reducible refine gate_callee (f := 7) rfl ?_); refine goesL_ (some 18) rfl rfl Try.func7 (by kernel_rfl) rfl #[.int .i64 a0, .slice A1 l1.length c1, .slice A2_0 l2_0.length c2_0, .int .i64 a3] rfl Z2 ?_; (with_reducible refine (thrumref15_Tell.calls a0 _ _ l1 _ _ l2_0 a3 t355 t356 _ ?side1 ?side2 ?side3 ?side4 A5.out).mono ?_); (case side1 => exact Z22); (case side2 => exact HC1.out); (case side3 => exact Z28); (case side4 => exact HC2_0.out); rintro e w24 ⟨v357, rfl, ho0, hb⟩; refine ⟨_, rfl, ?_⟩; have HO358 := ZM (Kd.R_lower ho0 (zzS Z15)); replace BK354 := ZM (blk_below (g := gb354) (o := .cells #[.slice A2_0 l2_0.length c2_0, .int .i64 a2_1] 24 (0, 0)) (Zk BK354) hb); replace HB := ZM (zzT Z15 hb); (try clear hb); (try clear hb2); (try clear hk); (try clear hi); (try clear ho0); obtain ⟨hcz25_0, hcz25_1, hfz25_0, hfz25_1⟩ := Y2f BK354))
 have n0_ := ZM (rrD HO358.out)
 have n1_ := ZM (kkD BK354.out)
 have n2_ := ZM (zzD HB.out)
 clear HO358
 clear BK354
 clear HB
 have HO358 := n0_
 have BK354 := n1_
 have HB := n2_
 clear n0_ n1_ n2_
 obtain ⟨Ao27, co27, eo27⟩ := Kd.R_slice HO358.out
 (first | subst eo27 | (injection eo27 with f1_ f2_ f3_; have f4_ := f1_.symm; have f5_ := f3_.symm; clear f1_ f2_ f3_; subst f4_; subst f5_))
 have p359 : 0 ≤ (a2_1 : Int) := of_decide_eq_true Z3
 have q359 : a2_1 < (t355.length : Int) := of_decide_eq_true Z3
 obtain ⟨ad359, e359, hx359_0⟩ := Kd.at_int (Kd.R_reads' HO358.out).2.2 a2_1 p359 q359
 cases e359
 replace p359 := eq_true p359
 replace q359 := eq_true q359
 have p21 : 0 ≤ (a2_1 : Int) := of_decide_eq_true Z3
 have q21 : (a2_1 : Int) < ((t355.length : Int) : Int) := of_decide_eq_true Z3
 obtain ⟨go21, co21, eo21, gb21, gl21, cl21, HG21⟩ := Kd.R_form HO358.out (by omega)
 (first | cases eo21 | (injection eo21 with ea_ en_ ec_; (first | subst ea_ | (injection ea_ with ea_; subst ea_)); subst ec_; clear en_))
 have GB21 := ZM gb21
 have GG21 := ZM HG21
 clear gb21 gl21 HG21
 (first | simp only [add_plain] at hx359_0 | skip)
 obtain ⟨hx21_0, hf21_0⟩ := Kd.R_celln 0 HO358.out (a2_1 : Int) p21 q21
 replace p21 := eq_true p21
 replace q21 := eq_true q21
 have HP28 := Kd.R_putn HO358.out (a2_1 : Int) (wrap64 ((rd t355 a2_1) - (ji20)))
 rw [← Ny360.out] at HP28
 have HQ28 := ZM HP28
 clear HP28
 refine start_ (n := 10) (S := fun w' => w'.cell? ⟨gb354, 0, none⟩ = some (.slice A2_0 l2_0.length c2_0) ∧ w'.cell? ⟨gb354, 1, none⟩ = some (.int .i64 a2_1) ∧ w'.cell? ⟨go21, (a2_1).toNat, none⟩ = some (.int .i64 (rd t355 a2_1))) (ds := [9]) #[false, false, false, false, false, false, false, false, false, false] (by kernel_rfl) rfl rfl ⟨(blk_cell BK354.out 0).trans rfl, (blk_cell BK354.out 1).trans rfl, hx359_0⟩ (fun hHeld => ?_); refine with_tabW thrumref15_OffP.tab6 thrumref15_OffP.bits6 (fun HT_ HW_ => ?_)
 generalize w24.drew = w26 at HO358 BK354 HB GG21 HQ28 hf21_0 hx21_0 hx359_0 hHeld ⊢
 refine pure_ (i := 0) (N := some 33) (v := ?_) (a' := ?_) #[true, false, false, false, false, false, false, false, false, false] rfl rfl (any_of HT_.out (by kernel_rfl)) (fun _ _ _ h => h) (Or.inl ⟨by rfl, ?_⟩) ?_ ?_
 rotate_left
 ·
  intro w'
  go_simp
  with_reducible rfl
 rotate_left
 ·
  simp only [Act.put, Zs]
  rfl
 refine pure_ (i := 1) (N := some 34) (v := ?_) (a' := ?_) #[true, true, false, false, false, false, false, false, false, false] rfl rfl (any_of HT_.out (by kernel_rfl)) (fun _ _ _ h => h) (Or.inl ⟨by rfl, ?_⟩) ?_ ?_
 rotate_left
 ·
  intro w'
  go_simp
  with_reducible rfl
 rotate_left
 ·
  simp only [Act.put, Zs]
  rfl
 refine pure_ (i := 5) (N := some 38) (v := ?_) (a' := ?_) #[true, true, false, false, false, true, false, false, false, false] rfl rfl (any_of HT_.out (by kernel_rfl)) (fun _ _ _ h => h) (Or.inl ⟨by rfl, ?_⟩) ?_ ?_
 rotate_left
 ·
  intro w'
  go_simp
  with_reducible rfl
 rotate_left
 ·
  simp only [Act.put, Zs]
  rfl
 refine pure_ (i := 6) (N := some 39) (v := ?_) (a' := ?_) #[true, true, false, false, false, true, true, false, false, false] rfl rfl (any_of HT_.out (by kernel_rfl)) (fun _ _ _ h => h) (Or.inl ⟨by rfl, ?_⟩) ?_ ?_
 rotate_left
 ·
  intro w'
  go_simp
  with_reducible rfl
 rotate_left
 ·
  simp only [Act.put, Zs]
  rfl
 refine take_ (i := 2) (N := some 35) (v := ?_) (a' := ?_) #[true, true, true, false, false, true, true, false, false, false] rfl rfl (take_ofW HT_.out HW_.out (by kernel_rfl)) (fun _ _ _ h => h) (Or.inl ⟨by rfl, ?_⟩) hHeld ?_ ?_
 rotate_left
 ·
  rintro w' ⟨s0, s1, s2⟩
  go_simp
  with_reducible rfl
 rotate_left
 ·
  simp only [Act.put, Zs]
  rfl
 refine pure_ (i := 3) (N := some 36) (v := ?_) (a' := ?_) #[true, true, true, true, false, true, true, false, false, false] rfl rfl (any_of HT_.out (by kernel_rfl)) (fun _ _ _ h => h) (Or.inl ⟨by rfl, ?_⟩) ?_ ?_
 rotate_left
 ·
  intro w'
  go_simp
  with_reducible rfl
 rotate_left
 ·
  simp only [Act.put, Zs]
  rfl
 refine take_ (i := 4) (N := some 37) (v := ?_) (a' := ?_) #[true, true, true, true, true, true, true, false, false, false] rfl rfl (take_ofW HT_.out HW_.out (by kernel_rfl)) (fun _ _ _ h => h) (Or.inl ⟨by rfl, ?_⟩) hHeld ?_ ?_
 rotate_left
 ·
  rintro w' ⟨s0, s1, s2⟩
  go_simp
  with_reducible rfl
 rotate_left
 ·
  simp only [Act.put, Zs]
  rfl
 refine pure_ (i := 7) (N := some 40) (v := ?_) (a' := ?_) #[true, true, true, true, true, true, true, true, false, false] rfl rfl (any_of HT_.out (by kernel_rfl)) (fun _ _ _ h => h) (Or.inl ⟨by rfl, ?_⟩) ?_ ?_
 rotate_left
 ·
  intro w'
  go_simp
  with_reducible rfl
 rotate_left
 ·
  simp only [Act.put, Zs]
  rfl
 refine pure_ (i := 8) (N := some 41) (v := ?_) (a' := ?_) #[true, true, true, true, true, true, true, true, true, false] rfl rfl (any_of HT_.out (by kernel_rfl)) (fun _ _ _ h => h) (Or.inl ⟨by rfl, ?_⟩) ?_ ?_
 rotate_left
 ·
  intro w'
  go_simp
  with_reducible rfl
 rotate_left
 ·
  simp only [Act.put, Zs]
  rfl
 refine last_ (i := 9) (N := none) #[true, true, true, true, true, true, true, true, true, true] rfl rfl (one_of HT_.out (by kernel_rfl)) (by decide) (fun K hK => ?_)
 refine skip_ (w1 := ?_) (by rfl) rfl ?_ ?_
 rotate_left
 ·
  go_simp
  rfl
 refine hK.out _ _ ?_
 clear hK K
 refine done_ (done_of HT_.out (by kernel_rfl)) ?_
 try go_wp2
 go_ret2
 exact ⟨_, by first | rfl | (simp [errW_none, errW_some] <;> rfl) | (simp only [← hji20]; first | rfl | (simp [errW_none, errW_some] <;> rfl)) | (simp [*, errW_none, errW_some] <;> rfl), by (with_reducible repeat (first | apply rrA | apply rrN | apply rrD)); exact HQ28.out, by repeat (first | (with_reducible first | exact HB.out | apply zzA | apply zzN | apply zzD | refine below_set ?_ GB21.out | refine below_set ?_ GE354.out) | exact HB.out)⟩
def thrumref15_Off.f (a0 : Int) (l1 l2_0 : List Int) (a2_1 a3 : Int) : Option (List Int × Int) := if V64 l1 ∧ V64 l2_0 then some (offS a0 l1 l2_0 a2_1 a3) else none
theorem thrumref15_Off.of (a0 : Int) (l1 l2_0 : List Int) (a2_1 a3 : Int)  (h_ : V64 l1 ∧ V64 l2_0) : thrumref15_Off.f a0 l1 l2_0 a2_1 a3 = some (offS a0 l1 l2_0 a2_1 a3) := if_pos h_
theorem thrumref15_OffP.is (o : Int) (w x : List Int) (y f : Int) (hw : V64 w) (hx : V64 x) : thrumref15_OffP.f o w x y f = some (offS o w x y f) := by
  unfold thrumref15_OffP.f offS
  rw [thrumref15_Tell.of _ _ _ _ ⟨hw, hx⟩, Option.bind_some]
  by_cases c : (tellS o w x f).2 = 0
  · rw [if_pos c, if_pos c]
    obtain ⟨-, -, -, hl, ho2, ho8, hf0, hf1⟩ := tellS_ok c
    by_cases c1 : y < 0
    · rw [if_pos c1, if_pos (.inl c1)]
    · rw [if_neg c1]
      by_cases c2 : y ≥ o
      · rw [if_pos c2, if_pos (.inr c2)]
      · rw [if_neg c2, if_pos (by omega), if_pos (by omega), if_pos hf0, if_neg (show ¬ (y < 0 ∨ y ≥ o) by omega), shl_i64 f (by omega)]
  · rw [if_neg c, if_neg c]
theorem thrumref15_Off.calls (a0 : Int) (A1 : Option Addr) (c1 : Nat) (l1 : List Int) (A2_0 : Option Addr) (c2_0 : Nat) (l2_0 : List Int) (a2_1 : Int) (a3 : Int) (r1 : List Int) (r2 : Int) (w : World) (hr1 : Kd.C (Kd.int .i64) w A1 l1.length l1) (hc1 : l1.length ≤ c1) (hr2_0 : Kd.C (Kd.int .i64) w A2_0 l2_0.length l2_0) (hc2_0 : l2_0.length ≤ c2_0) (h : thrumref15_Off.f a0 l1 l2_0 a2_1 a3 = some (r1, r2)) :
    Calls Try.prog 11 #[.int .i64 a0, .slice A1 l1.length c1, .agg #[.slice A2_0 l2_0.length c2_0, .int .i64 a2_1], .int .i64 a3] w fun e w' => ∃ v0_ : Value, e = .returned (.tuple #[v0_, .int .i64 r2]) ∧ Kd.R (Kd.int .i64) 2 w' w.heap.size (fun _ => True) v0_ r1 ∧ Below w.heap.size w w' := by
  unfold thrumref15_Off.f at h
  split at h
  case isFalse => cases h
  rename_i hv
  exact thrumref15_OffP.calls a0 A1 c1 l1 A2_0 c2_0 l2_0 a2_1 a3 r1 r2 w hr1 hc1 hr2_0 hc2_0 ((thrumref15_OffP.is a0 l1 l2_0 a2_1 a3 hv.1 hv.2).trans h)


end Go.Proofs.Ytihgcjagokippaa.HS
