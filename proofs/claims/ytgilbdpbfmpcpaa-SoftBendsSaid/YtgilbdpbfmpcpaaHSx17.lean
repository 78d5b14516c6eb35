/- What Go functions do, each as a plain Lean function with the same answers, and the proof of it, in every world: printed by the session's driver over the kit's print, with texts by hand. -/
import Derived.Test.YtgilbdpbfmpcpaaHSx0
import Derived.Test.YtgilbdpbfmpcpaaHSx1
import Derived.Test.YtgilbdpbfmpcpaaHSx2
import Derived.Test.YtgilbdpbfmpcpaaHSx6
import Derived.Test.YtgilbdpbfmpcpaaHSx9
import Derived.Test.YtgilbdpbfmpcpaaHSx11
import Derived.Test.YtgilbdpbfmpcpaaHSx15
import Derived.Test.YtgilbdpbfmpcpaaHSx16
import Derived.Test.YtgilbdpbfmpcpaaMini
namespace Go.Proofs.Ytgilbdpbfmpcpaa.HS
open Go.RowKit Go.Proofs.YtgilbdpbfmpcpaaW.PrintWords Go.Proofs.YtgilbdpbfmpcpaaW.PrintLast Go.Proofs.YtgilbdpbfmpcpaaW.PrintMore
attribute [local go_sem] max2_int min2_int max_two min_two max_three min_three max_four min_four   -- for this text's walks alone
open Go.Proofs.Ytgilbdpbfmpcpaa.Sp
attribute [local go_sem] Go.Proofs.Ytgilbdpbfmpcpaa.Sp.u64_not
set_option linter.unusedVariables false
set_option linter.unusedSimpArgs false

/-! ### thrumref15_GradP: function 10 -/
mutual
def thrumref15_GradP.l0 : Nat → Int → List Int → Int → List (S26) → List (List Int) → List (S26) → Int → Int → Option (List Int × Int)
 | 0, _, _, _, _, _, _, _, _ => none
 | k + 1, x0, x1, x2, x3, x11, x28, x29, x30 => if x30 < x29 then (if 0 ≤ x30 then (if x30 < (x28.length : Int) then ((thrumref15_Off.f x0 x1 ((rd_T26 x28 x30).f0) ((rd_T26 x28 x30).f1) x2).bind fun bt403 => (if bt403.2 = 0 then (thrumref15_GradP.l1 k x0 x1 x2 x3 x11 ([] : List Int) x28 x29 x30 bt403.1 (bt403.1.length : Int) 0 ((rd_T26 x28 x30).f0) ((rd_T26 x28 x30).f1)) else (some (([] : List Int), bt403.2)))) else (none)) else (none)) else ((thrumref14_Mean.f (x3.length : Int) x11).bind fun bt397 => (some (bt397.1, bt397.2)))
def thrumref15_GradP.l1 : Nat → Int → List Int → Int → List (S26) → List (List Int) → List Int → List (S26) → Int → Int → List Int → Int → Int → List Int → Int → Option (List Int × Int)
 | 0, _, _, _, _, _, _, _, _, _, _, _, _, _, _ => none
 | k + 1, x0, x1, x2, x3, x11, x16, x28, x29, x30, x45, x46, x47, x403000, x403001 => if x47 < x46 then (if 0 ≤ x47 then (if x47 < (x45.length : Int) then ((thrumref02_Scale.f x403000 (rd x45 x47) x2).bind fun bt408 => (if bt408.2 = 0 then (if x16.length + bt408.1.length < 17592186044416 then ((some (x16 ++ bt408.1 : List Int)).bind fun y412 => (if y412.length < 17592186044416 then (thrumref15_GradP.l1 k x0 x1 x2 x3 x11 (y412 ++ [rd x45 x47]) x28 x29 x30 x45 x46 (wrap64 (x47 + 1)) x403000 x403001) else (none))) else (none)) else (some (([] : List Int), bt408.2)))) else (none)) else (none)) else (if x11.length < 5864062014805 then (thrumref15_GradP.l0 k x0 x1 x2 x3 (x11 ++ [x16]) x28 x29 (wrap64 (x30 + 1))) else (none))
end
def thrumref15_GradP.f (k : Nat) (a0 : Int) (l1 : List Int) (a2 : Int) (l3 : List (S26)) : Option (List Int × Int) := (thrumref15_fit.f a0 l1 l3).bind fun t396 => (if t396 = 0 then (thrumref15_GradP.l0 k a0 l1 a2 l3 ([] : List (List Int)) l3 (l3.length : Int) 0) else (some (([] : List Int), t396)))
theorem thrumref15_GradP.mono_l : ∀ k, (∀ y0 y1 y2 y3 y4 y5 y6 y7, LeO (thrumref15_GradP.l0 k y0 y1 y2 y3 y4 y5 y6 y7) (thrumref15_GradP.l0 (k + 1) y0 y1 y2 y3 y4 y5 y6 y7)) ∧ (∀ y0 y1 y2 y3 y4 y5 y6 y7 y8 y9 y10 y11 y12 y13, LeO (thrumref15_GradP.l1 k y0 y1 y2 y3 y4 y5 y6 y7 y8 y9 y10 y11 y12 y13) (thrumref15_GradP.l1 (k + 1) y0 y1 y2 y3 y4 y5 y6 y7 y8 y9 y10 y11 y12 y13))
 | 0 => ⟨fun _ _ _ _ _ _ _ _ r h => by simp [thrumref15_GradP.l0] at h, fun _ _ _ _ _ _ _ _ _ _ _ _ _ _ r h => by simp [thrumref15_GradP.l1] at h⟩
 | k + 1 => by
  obtain ⟨ih0, ih1⟩ := thrumref15_GradP.mono_l k
  refine ⟨?_, ?_⟩
  ·
   intro y0 y1 y2 y3 y4 y5 y6 y7
   unfold thrumref15_GradP.l0
   repeat' first
   | (with_reducible exact ih0 _ _ _ _ _ _ _ _)
   | (with_reducible exact ih1 _ _ _ _ _ _ _ _ _ _ _ _ _ _)
   | (with_reducible exact LeO.refl _)
   | (with_reducible exact LeO.none _)
   | (with_reducible refine LeO.ite ?_ ?_)
   | (with_reducible refine LeO.bind ?_ (fun _ => ?_))
  ·
   intro y0 y1 y2 y3 y4 y5 y6 y7 y8 y9 y10 y11 y12 y13
   unfold thrumref15_GradP.l1
   repeat' first
   | (with_reducible exact ih0 _ _ _ _ _ _ _ _)
   | (with_reducible exact ih1 _ _ _ _ _ _ _ _ _ _ _ _ _ _)
   | (with_reducible exact LeO.refl _)
   | (with_reducible exact LeO.none _)
   | (with_reducible refine LeO.ite ?_ ?_)
   | (with_reducible refine LeO.bind ?_ (fun _ => ?_))
theorem thrumref15_GradP.mono : ∀ a0 a1 a2 a3 k, LeO (thrumref15_GradP.f k a0 a1 a2 a3) (thrumref15_GradP.f (k + 1) a0 a1 a2 a3) := by
 intro a0 a1 a2 a3 k
 obtain ⟨ih0, ih1⟩ := thrumref15_GradP.mono_l k
 unfold thrumref15_GradP.f
 repeat' first
   | (with_reducible exact ih0 _ _ _ _ _ _ _ _)
   | (with_reducible exact ih1 _ _ _ _ _ _ _ _ _ _ _ _ _ _)
   | (with_reducible exact LeO.refl _)
   | (with_reducible exact LeO.none _)
   | (with_reducible refine LeO.ite ?_ ?_)
   | (with_reducible refine LeO.bind ?_ (fun _ => ?_))
set_option maxHeartbeats 8000000 in
set_option maxRecDepth 100000 in
theorem thrumref15_GradP.calls (k : Nat) (a0 : Int) (A1 : Option Addr) (c1 : Nat) (l1 : List Int) (a2 : Int) (A3 : Option Addr) (c3 : Nat) (l3 : List (S26)) (r1 : List Int) (r2 : Int) (w : World) (hr1 : Kd.C (Kd.int .i64) w A1 l1.length l1) (hc1 : l1.length ≤ c1) (hr3 : Kd.C k26 w A3 l3.length l3) (hc3 : l3.length ≤ c3) (h : thrumref15_GradP.f k a0 l1 a2 l3 = some (r1, r2)) :
  Calls Try.prog 10 #[.int .i64 a0, .slice A1 l1.length c1, .int .i64 a2, .slice A3 l3.length c3] w fun e w' => ∃ v0_ : Value, e = .returned (.tuple #[v0_, .int .i64 r2]) ∧ Kd.R (Kd.int .i64) 2 w' w.heap.size (fun _ => True) v0_ r1 ∧ Below w.heap.size w w' := by
 have hu26 := Try.underlying26
 have HR1 := ZM hr1
 have HC1 := ZM hc1
 clear hr1 hc1
 have HR3 := ZM hr3
 have HC3 := ZM hc3
 clear hr3 hc3
 have HB := ZM (Below.refl w.heap.size w)
 have H : ((thrumref15_fit.f a0 l1 l3).bind fun t396 => (if t396 = 0 then (thrumref15_GradP.l0 k a0 l1 a2 l3 ([] : List (List Int)) l3 (l3.length : Int) 0) else (some (([] : List Int), t396)))) = some (r1, r2) := h
 clear h
 replace H := Option.bind_eq_some_iff.mp H
 obtain ⟨t396, A50, H⟩ := H
 replace H : (if t396 = 0 then (thrumref15_GradP.l0 k a0 l1 a2 l3 ([] : List (List Int)) l3 (l3.length : Int) 0) else (some (([] : List Int), t396))) = some (r1, r2) := H
 have A5 := ZM A50
 clear A50
 by_cases c6 : t396 = 0
 case neg =>
  rw [if_neg c6] at H
  have c6b0 : (t396 == 0) = false := beq_eq_false_iff_ne.mpr c6
  have c6b1 : (t396 != 0) = true := bne_iff_ne.mpr c6
  simp only [Option.some.injEq, Prod.mk.injEq] at H
  obtain ⟨rfl, rfl⟩ := H
  go_enter Try.func10, Try.ntmps10
  go_wp2_with (first | ((with_reducible refine gate_callee (f := 26) rfl ?_); refine goesL_ (some 24) rfl rfl Try.func26 (by kernel_rfl) rfl #[.int .i64 a0, .slice A1 l1.length c1, .slice A3 l3.length c3] rfl Z2 ?_; (with_reducible refine (thrumref15_fit.calls a0 _ _ l1 _ _ l3 t396 _ ?side1 ?side2 ?side3 ?side4 A5.out).mono ?_); (case side1 => exact Z5); (case side2 => exact HC1.out); (case side3 => exact Z25); (case side4 => exact HC3.out); rintro e w40 ⟨rfl, hb⟩; refine ⟨_, rfl, ?_⟩; replace HB := ZM (zzT Z1 hb); (try clear hb); (try clear hb2); (try clear hk); (try clear hi)))
  go_ret2
  exact ⟨_, by first | rfl | (simp [errW_none, errW_some] <;> rfl) | (simp [*, errW_none, errW_some] <;> rfl), by first | exact Kd.R_nil _ _ _ _ _ | exact Kd.N_nil _ _ _ _ _ | exact Kd.V_nil _ _ _ _ _ | exact Kd.Q_nil _ _ _ _ _ | exact Kd.S_nil _ _ _ _ _, by repeat (first | (with_reducible first | exact HB.out | apply zzA | apply zzN | apply zzD) | exact HB.out)⟩
 rw [if_pos c6] at H
 have c6b0 : (t396 == 0) = true := beq_iff_eq.mpr c6
 have c6b1 : (t396 != 0) = false := bne_eq_false_iff_eq.mpr c6
 clear c6
 have H' := ZM H
 clear H
 go_enter Try.func10, Try.ntmps10
 go_wp2_with (first | ((with_reducible refine gate_callee (f := 26) rfl ?_); refine goesL_ (some 24) rfl rfl Try.func26 (by kernel_rfl) rfl #[.int .i64 a0, .slice A1 l1.length c1, .slice A3 l3.length c3] rfl Z2 ?_; (with_reducible refine (thrumref15_fit.calls a0 _ _ l1 _ _ l3 t396 _ ?side1 ?side2 ?side3 ?side4 A5.out).mono ?_); (case side1 => exact Z5); (case side2 => exact HC1.out); (case side3 => exact Z25); (case side4 => exact HC3.out); rintro e w7 ⟨rfl, hb⟩; refine ⟨_, rfl, ?_⟩; replace HB := ZM (zzT Z1 hb); (try clear hb); (try clear hb2); (try clear hk); (try clear hi)))
 go_loopg [11, 30] k (fun kq v11 v30 w' => ∃ (x11_1 : List (List Int)) (x30_1 : Int), v30 = .int .i64 x30_1 ∧ Aside0 (thrumref15_GradP.l0 kq a0 l1 a2 l3 x11_1 l3 (l3.length : Int) x30_1 = some (r1, r2)) ∧ Aside0 (kq ≤ k) ∧ Aside0 (Kd.S (Kd.slice 2 (Kd.int .i64)) 22 w' w.heap.size (fun _ => True) v11 x11_1) ∧ Aside0 (Below w.heap.size w w'))
 case atStart => exact ⟨(([] : List (List Int))), (0), Z4, H', ⟨Nat.le_refl _⟩, ⟨by first | exact Kd.S_nil _ _ _ _ _ | exact Kd.N_nil _ _ _ _ _ | exact Kd.V_nil _ _ _ _ _ | exact Kd.Q_nil _ _ _ _ _ | exact Kd.R_nil _ _ _ _ _⟩, ⟨by repeat (first | (with_reducible first | exact HB.out | apply zzA | apply zzN | apply zzD) | exact HB.out)⟩⟩
 case round =>
  clear H'
  try clear c1
  try clear c2
  try clear p2
  try clear c3
  try clear c6
  try clear c6b0
  try clear c6b1
  obtain ⟨x11_1, x30_1, rfl, HA, HK1, HO_11, HB⟩ := hrel
  cases gk with
  | zero => exact absurd HA.out (by simp [thrumref15_GradP.l0])
  | succ k1 =>
   have H := HA.out
   clear HA
   simp only [thrumref15_GradP.l0] at H
   by_cases c8 : x30_1 < (l3.length : Int)
   case neg =>
    rw [if_neg c8] at H
    have c8b0 : decide (x30_1 < (l3.length : Int)) = false := decide_eq_false c8
    clear c8
    replace H := Option.bind_eq_some_iff.mp H
    obtain ⟨⟨t397, t398⟩, A370, H⟩ := H
    replace H : (some (t397, t398)) = some (r1, r2) := H
    have A37 := ZM A370
    clear A370
    simp only [Option.some.injEq, Prod.mk.injEq] at H
    obtain ⟨rfl, rfl⟩ := H
    obtain ⟨Ao38, co38, eo38⟩ := Kd.S_slice HO_11.out
    subst eo38
    go_wp2_with (first | ((with_reducible refine gate_callee (f := 29) rfl ?_); refine goesL_ (some 77) rfl rfl Try.func29 (by kernel_rfl) rfl #[.int .i64 (l3.length : Int), .slice Ao38 x11_1.length co38] rfl Z2 ?_; (with_reducible refine (thrumref14_Mean.calls (l3.length : Int) _ _ x11_1 t397 t398 _ ?side1 ?side2 A37.out).mono ?_); (case side1 => exact Z49); (case side2 => exact (Kd.S_reads' HO_11.out).2.1); rintro e w39 ⟨v399, rfl, ho0, hb⟩; refine ⟨_, rfl, ?_⟩; replace HO_11 := ZM (Kd.S_elder' Z11 (Kd.R_base ho0) hb); have HO400 := ZM (Kd.R_lower ho0 (zzS Z1)); replace HB := ZM (zzT Z1 hb); (try clear hb); (try clear hb2); (try clear hk); (try clear hi); (try clear ho0)))
    go_ret2
    exact ⟨_, by first | rfl | (simp [errW_none, errW_some] <;> rfl) | (simp [*, errW_none, errW_some] <;> rfl), by (with_reducible repeat (first | apply rrA | apply rrN | apply rrD)); exact HO400.out, by repeat (first | (with_reducible first | exact HB.out | apply zzA | apply zzN | apply zzD) | exact HB.out)⟩
   rw [if_pos c8] at H
   have c8b0 : decide (x30_1 < (l3.length : Int)) = true := decide_eq_true c8
   clear c8
   by_cases c9 : 0 ≤ x30_1
   case neg =>
    rw [if_neg c9] at H
    exact absurd H (by simp)
   rw [if_pos c9] at H
   have c9b0 : decide (0 ≤ x30_1) = true := decide_eq_true c9
   clear c9
   by_cases c10 : x30_1 < (l3.length : Int)
   case neg =>
    rw [if_neg c10] at H
    exact absurd H (by simp)
   rw [if_pos c10] at H
   have c10b0 : decide (x30_1 < (l3.length : Int)) = true := decide_eq_true c10
   clear c10
   replace H := Option.bind_eq_some_iff.mp H
   obtain ⟨⟨t403, t406⟩, A110, H⟩ := H
   replace H : (if t406 = 0 then (thrumref15_GradP.l1 k1 a0 l1 a2 l3 x11_1 ([] : List Int) l3 (l3.length : Int) x30_1 t403 (t403.length : Int) 0 ((rd_T26 l3 x30_1).f0) ((rd_T26 l3 x30_1).f1)) else (some (([] : List Int), t406))) = some (r1, r2) := H
   have A11 := ZM A110
   clear A110
   by_cases c12 : t406 = 0
   case neg =>
    rw [if_neg c12] at H
    have c12b0 : (t406 == 0) = false := beq_eq_false_iff_ne.mpr c12
    have c12b1 : (t406 != 0) = true := bne_iff_ne.mpr c12
    simp only [Option.some.injEq, Prod.mk.injEq] at H
    obtain ⟨rfl, rfl⟩ := H
    have p401 : 0 ≤ (x30_1 : Int) := of_decide_eq_true Z3
    have q401 : x30_1 < (l3.length : Int) := of_decide_eq_true Z3
    obtain ⟨ad401, A401_0, c401_0, e401, hx401_0, hx401_1, hl401_0, hi401_0⟩ := at_T26 HR3.out x30_1 p401 q401
    cases e401
    replace hx401_0 := (HB.out.cell (World.block_lt_of_cell? w _ hx401_0)).trans hx401_0
    replace hx401_1 := (HB.out.cell (World.block_lt_of_cell? w _ hx401_1)).trans hx401_1
    have HR401_0 := ZM hi401_0
    have HC401_0 := ZM hl401_0
    clear hi401_0 hl401_0
    replace p401 := eq_true p401
    replace q401 := eq_true q401
    go_wp2_with (first | ((with_reducible refine gate_dst (N := 13) rfl ?_); refine box_event ?hg (N := 13) ?hd (cs := #[.slice none 0 0, .int .i64 0]) (t := 26) ?hr ?_; (case hd => rfl); (case hg => rfl); (case hr => exact Z9); intro gb402 hg w34 hbox hb; replace HO_11 := ZM (Kd.S_below Z11 hb); have BK402 := ZM (hbox); have GW402 := ZM ((by rw [hg]; exact (zzS Z1) : w.heap.size ≤ gb402)); have GE402 := ZM ((by rw [hg]; exact (zzS Z1) : w.heap.size ≤ gb402)); replace HB := ZM (zzT Z1 hb); clear hb hbox hg; obtain ⟨hcz35_0, hcz35_1, hfz35_0, hfz35_1⟩ := Y2f BK402) | ((with_reducible refine gate_callee (f := 27) rfl ?_); refine goesL_ (some 39) rfl rfl Try.func27 (by kernel_rfl) rfl #[.int .i64 a0, .slice A1 l1.length c1, .agg #[.slice A401_0 ((rd_T26 l3 x30_1).f0).length c401_0, .int .i64 ((rd_T26 l3 x30_1).f1)], .int .i64 a2] rfl Z2 ?_; (with_reducible refine (thrumref15_Off.calls a0 _ _ l1 _ _ ((rd_T26 l3 x30_1).f0) ((rd_T26 l3 x30_1).f1) a2 t403 t406 _ ?side1 ?side2 ?side3 ?side4 A11.out).mono ?_); (case side1 => exact Kd.C_below HR1.out Z6); (case side2 => exact HC1.out); (case side3 => exact Kd.C_below HR401_0.out Z6); (case side4 => exact HC401_0.out); rintro e w36 ⟨v404, rfl, ho0, hb⟩; refine ⟨_, rfl, ?_⟩; replace HO_11 := ZM (Kd.S_elder' Z34 (Kd.R_base ho0) hb); have HO405 := ZM (Kd.R_lower ho0 (zzS Z6)); replace BK402 := ZM (blk_below (g := gb402) (o := .cells #[.slice A401_0 ((rd_T26 l3 x30_1).f0).length c401_0, .int .i64 ((rd_T26 l3 x30_1).f1)] 26 (0, 0)) Z32 hb); replace HB := ZM (zzT Z6 hb); (try clear hb); (try clear hb2); (try clear hk); (try clear hi); (try clear ho0)))
    go_ret2
    exact ⟨_, by first | rfl | (simp [errW_none, errW_some] <;> rfl) | (simp [*, errW_none, errW_some] <;> rfl), by first | exact Kd.R_nil _ _ _ _ _ | exact Kd.N_nil _ _ _ _ _ | exact Kd.V_nil _ _ _ _ _ | exact Kd.Q_nil _ _ _ _ _ | exact Kd.S_nil _ _ _ _ _, by repeat (first | (with_reducible first | exact HB.out | apply zzA | apply zzN | apply zzD | refine below_set ?_ GE402.out) | exact HB.out)⟩
   rw [if_pos c12] at H
   have c12b0 : (t406 == 0) = true := beq_iff_eq.mpr c12
   have c12b1 : (t406 != 0) = false := bne_eq_false_iff_eq.mpr c12
   clear c12
   have H' := ZM H
   clear H
   have p401 : 0 ≤ (x30_1 : Int) := of_decide_eq_true Z3
   have q401 : x30_1 < (l3.length : Int) := of_decide_eq_true Z3
   obtain ⟨ad401, A401_0, c401_0, e401, hx401_0, hx401_1, hl401_0, hi401_0⟩ := at_T26 HR3.out x30_1 p401 q401
   cases e401
   replace hx401_0 := (HB.out.cell (World.block_lt_of_cell? w _ hx401_0)).trans hx401_0
   replace hx401_1 := (HB.out.cell (World.block_lt_of_cell? w _ hx401_1)).trans hx401_1
   have HR401_0 := ZM hi401_0
   have HC401_0 := ZM hl401_0
   clear hi401_0 hl401_0
   replace p401 := eq_true p401
   replace q401 := eq_true q401
   go_wp2_with (first | ((with_reducible refine gate_dst (N := 13) rfl ?_); refine box_event ?hg (N := 13) ?hd (cs := #[.slice none 0 0, .int .i64 0]) (t := 26) ?hr ?_; (case hd => rfl); (case hg => rfl); (case hr => exact Z9); intro gb402 hg w13 hbox hb; replace HO_11 := ZM (Kd.S_below Z11 hb); have BK402 := ZM (hbox); have GW402 := ZM ((by rw [hg]; exact (zzS Z1) : w.heap.size ≤ gb402)); have GE402 := ZM ((by rw [hg]; exact (zzS Z1) : w.heap.size ≤ gb402)); replace HB := ZM (zzT Z1 hb); clear hb hbox hg; obtain ⟨hcz14_0, hcz14_1, hfz14_0, hfz14_1⟩ := Y2f BK402) | ((with_reducible refine gate_callee (f := 27) rfl ?_); refine goesL_ (some 39) rfl rfl Try.func27 (by kernel_rfl) rfl #[.int .i64 a0, .slice A1 l1.length c1, .agg #[.slice A401_0 ((rd_T26 l3 x30_1).f0).length c401_0, .int .i64 ((rd_T26 l3 x30_1).f1)], .int .i64 a2] rfl Z2 ?_; (with_reducible refine (thrumref15_Off.calls a0 _ _ l1 _ _ ((rd_T26 l3 x30_1).f0) ((rd_T26 l3 x30_1).f1) a2 t403 t406 _ ?side1 ?side2 ?side3 ?side4 A11.out).mono ?_); (case side1 => exact Kd.C_below HR1.out Z6); (case side2 => exact HC1.out); (case side3 => exact Kd.C_below HR401_0.out Z6); (case side4 => exact HC401_0.out); rintro e w15 ⟨v404, rfl, ho0, hb⟩; refine ⟨_, rfl, ?_⟩; replace HO_11 := ZM (Kd.S_elder' Z34 (Kd.R_base ho0) hb); have HO405 := ZM (Kd.R_lower ho0 (zzS Z6)); replace BK402 := ZM (blk_below (g := gb402) (o := .cells #[.slice A401_0 ((rd_T26 l3 x30_1).f0).length c401_0, .int .i64 ((rd_T26 l3 x30_1).f1)] 26 (0, 0)) Z32 hb); replace HB := ZM (zzT Z6 hb); (try clear hb); (try clear hb2); (try clear hk); (try clear hi); (try clear ho0); obtain ⟨Ao16, co16, eo16⟩ := Kd.R_slice HO405.out; subst eo16))
   go_loopg [16, 47] k1 (fun kq v16 v47 w' => ∃ (x16_2 : List Int) (x47_2 : Int), v47 = .int .i64 x47_2 ∧ Aside0 (thrumref15_GradP.l1 kq a0 l1 a2 l3 x11_1 x16_2 l3 (l3.length : Int) x30_1 t403 (t403.length : Int) x47_2 ((rd_T26 l3 x30_1).f0) ((rd_T26 l3 x30_1).f1) = some (r1, r2)) ∧ Aside0 (kq ≤ k1) ∧ Aside0 (Kd.S (Kd.slice 2 (Kd.int .i64)) 22 w' w.heap.size (fun k_ => some k_ ≠ (v16 : Value).ownBlock ∧ some k_ ≠ ((.slice Ao16 t403.length co16) : Value).ownBlock) u11 x11_1) ∧ Aside0 (Kd.R (Kd.int .i64) 2 w' w.heap.size (fun k_ => some k_ ≠ ((.slice Ao16 t403.length co16) : Value).ownBlock) v16 x16_2) ∧ Aside0 (Kd.R (Kd.int .i64) 2 w' w.heap.size (fun k_ => some k_ ≠ (v16 : Value).ownBlock) (.slice Ao16 t403.length co16) t403) ∧ Aside0 (w'.heap[gb402]? = some (.cells #[(.slice A401_0 ((rd_T26 l3 x30_1).f0).length c401_0), .int .i64 ((rd_T26 l3 x30_1).f1)] 26 (0, 0))) ∧ Aside0 (Below w.heap.size w w'))
   case atStart => exact ⟨(([] : List Int)), (0), Z4, H', ⟨Nat.le_refl _⟩, ⟨by (with_reducible repeat (first | apply Kd.S_alloc | apply Kd.S_drewN | apply Kd.S_drew)); exact Kd.S_mono HO_11.out (fun _ hk => ⟨(by simp [Value.ownBlock]), hk.2⟩)⟩, ⟨by first | exact Kd.R_nil _ _ _ _ _ | exact Kd.N_nil _ _ _ _ _ | exact Kd.V_nil _ _ _ _ _ | exact Kd.Q_nil _ _ _ _ _ | exact Kd.S_nil _ _ _ _ _⟩, ⟨by (with_reducible repeat (first | apply rrA | apply rrN | apply rrD)); exact Kd.R_mono HO405.out (fun _ hk => (by simp [Value.ownBlock]))⟩, ⟨by (with_reducible repeat (first | refine kkN ?_ _ | refine kkD ?_ | refine kkA ?_ _)); exact BK402.out⟩, ⟨by repeat (first | (with_reducible first | exact HB.out | apply zzA | apply zzN | apply zzD | refine below_set ?_ GE402.out) | exact HB.out)⟩⟩
   case round =>
    clear H'
    try clear c1
    try clear c2
    try clear p2
    try clear c3
    try clear c4
    try clear p4
    try clear q4
    try clear hx4
    try clear c6
    try clear c6b0
    try clear c6b1
    try clear c8
    try clear c8b0
    try clear c9
    try clear c9b0
    try clear c10
    try clear c10b0
    try clear c12
    try clear c12b0
    try clear c12b1
    try clear hcz14_0
    try clear hcz14_1
    try clear hfz14_0
    try clear hfz14_1
    try clear hx401_0
    try clear hx401_1
    try clear p2
    try clear p401
    try clear q401
    obtain ⟨x16_2, x47_2, rfl, HA, HK2, HO_11, HO_16, HO_45, BK402, HB⟩ := hrel
    cases gk with
    | zero => exact absurd HA.out (by simp [thrumref15_GradP.l1])
    | succ k2 =>
     have H := HA.out
     clear HA
     simp only [thrumref15_GradP.l1] at H
     by_cases c17 : x47_2 < (t403.length : Int)
     case neg =>
      rw [if_neg c17] at H
      have c17b0 : decide (x47_2 < (t403.length : Int)) = false := decide_eq_false c17
      clear c17
      by_cases c31 : x11_1.length < 5864062014805
      case neg =>
       rw [if_neg c31] at H
       exact absurd H (by simp)
      rw [if_pos c31] at H
      have LMc31 := ZM c31
      clear c31
      obtain ⟨y418, hy418⟩ : ∃ y_ : List (List Int), y_ = (x11_1 ++ [x16_2]) := ⟨_, rfl⟩
      replace H : (thrumref15_GradP.l0 k2 a0 l1 a2 l3 y418 l3 (l3.length : Int) (wrap64 (x30_1 + 1))) = some (r1, r2) := by first | (rw [hy418]; with_reducible exact H) | (have H2_ := (Option.bind_some _ _).symm.trans H; rw [hy418]; with_reducible exact H2_) | (have H2_ := (Option.bind_some _ _).symm.trans H; with_reducible exact H2_) | with_reducible exact H | (rw [hy418]; exact H) | exact H
      have Ny418 := ZM hy418
      clear hy418
      have H' := ZM H
      clear H
      obtain ⟨Ao33, co33, eo33⟩ := Kd.R_slice HO_16.out
      subst eo33
      go_wp2_with (first | ((with_reducible refine gate_builtin (b := .append) (xs := #[.tmp 69, .tmp 71]) rfl ?_); at_builtin; refine Kd.S_append (Kd.slice 2 (Kd.int .i64)) (w0 := w) w.heap.size rfl (.tmp 69) (.tmp 71) 27 22 (.slice none 0 0) 24 rfl Try.underlying27 info22 rfl (by decide) (by omega) u11 x11_1 x16_2 [.slice Ao33 x16_2.length co33] (fun k_ => some k_ ≠ (.slice Ao16 t403.length co16 : Value).ownBlock) (fun k_ => some k_ = (.slice Ao33 x16_2.length co33 : Value).ownBlock) rfl rfl ?aP (fun k_ hk_ => ((Kd.R_mono (ok' := fun k_ => ((fun k_ => some k_ ≠ (.slice Ao16 t403.length co16 : Value).ownBlock)) k_ ∧ some k_ ≠ (u11 : Value).ownBlock) (Kd.R_apart' (HO_16.out) (Kd.S_typed HO_11.out) (by decide)) (fun k_ hk => ⟨hk.1, hk.2⟩))).1 k_ hk_.symm) ?aF ?aO ?aB ?aS ?aL ?_; (case aP => exact Kd.M_row (Kd.R_mono (Kd.R_tight rfl (Kd.R_mono (ok' := fun k_ => ((fun k_ => some k_ ≠ (.slice Ao16 t403.length co16 : Value).ownBlock)) k_ ∧ some k_ ≠ (u11 : Value).ownBlock) (Kd.R_apart' (HO_16.out) (Kd.S_typed HO_11.out) (by decide)) (fun k_ hk => ⟨hk.1, hk.2⟩))) (fun _ h_ => h_))); (case aB => exact Z6); (case aF => exact (fun k_ hk => Kd.fresh' (Kd.R_lt (Zr HO_45)) k_ hk)); (case aO => exact (by (with_reducible repeat (first | apply Kd.S_alloc | apply Kd.S_drewN | apply Kd.S_drew)); exact Kd.S_mono HO_11.out (fun k_ hk => ⟨hk.2, fun e_ => hk.1 e_⟩))); (case aS => exact (zzS Z6)); (case aL => have := LMc31.out; omega); intro v419 w32 ho hb hg hat; rw [← Ny418.out] at ho; replace HO_45 := ZM (Kd.R_over' (Zr HO_45) (Kd.S_typed Z11) (by decide) hg); replace BK402 := ZM (blk_grown (g := gb402) (o := .cells #[.slice A401_0 ((rd_T26 l3 x30_1).f0).length c401_0, .int .i64 ((rd_T26 l3 x30_1).f1)] 26 (0, 0)) (Zk BK402) hg (Kd.S_ne HO_11.out BK402.out (by decide))); have HO420 := ZM (ho); replace HB := ZM (hb); clear HO_11 HO_16; clear ho hb hg hat))
      go_roundg k2
      case measure => have := HK1.out; have := HK2.out; omega
      case rel => exact ⟨(y418), (wrap64 (x30_1 + 1)), Z4, H', ⟨by have := HK1.out; have := HK2.out; omega⟩, ⟨by (with_reducible repeat (first | apply Kd.S_alloc | apply Kd.S_drewN | apply Kd.S_drew)); exact Kd.S_mono HO420.out (fun _ hk => trivial)⟩, ⟨by repeat (first | (with_reducible first | exact HB.out | apply zzA | apply zzN | apply zzD | refine below_set ?_ GE402.out) | exact HB.out)⟩⟩
     rw [if_pos c17] at H
     have c17b0 : decide (x47_2 < (t403.length : Int)) = true := decide_eq_true c17
     clear c17
     by_cases c18 : 0 ≤ x47_2
     case neg =>
      rw [if_neg c18] at H
      exact absurd H (by simp)
     rw [if_pos c18] at H
     have c18b0 : decide (0 ≤ x47_2) = true := decide_eq_true c18
     clear c18
     by_cases c19 : x47_2 < (t403.length : Int)
     case neg =>
      rw [if_neg c19] at H
      exact absurd H (by simp)
     rw [if_pos c19] at H
     have c19b0 : decide (x47_2 < (t403.length : Int)) = true := decide_eq_true c19
     clear c19
     replace H := Option.bind_eq_some_iff.mp H
     obtain ⟨⟨t408, t409⟩, A200, H⟩ := H
     replace H : (if t409 = 0 then (if x16_2.length + t408.length < 17592186044416 then ((some (x16_2 ++ t408 : List Int)).bind fun y412 => (if y412.length < 17592186044416 then (thrumref15_GradP.l1 k2 a0 l1 a2 l3 x11_1 (y412 ++ [rd t403 x47_2]) l3 (l3.length : Int) x30_1 t403 (t403.length : Int) (wrap64 (x47_2 + 1)) ((rd_T26 l3 x30_1).f0) ((rd_T26 l3 x30_1).f1)) else (none))) else (none)) else (some (([] : List Int), t409))) = some (r1, r2) := H
     have A20 := ZM A200
     clear A200
     by_cases c21 : t409 = 0
     case neg =>
      rw [if_neg c21] at H
      have c21b0 : (t409 == 0) = false := beq_eq_false_iff_ne.mpr c21
      have c21b1 : (t409 != 0) = true := bne_iff_ne.mpr c21
      simp only [Option.some.injEq, Prod.mk.injEq] at H
      obtain ⟨rfl, rfl⟩ := H
      have p407 : 0 ≤ (x47_2 : Int) := of_decide_eq_true Z3
      have q407 : x47_2 < (t403.length : Int) := of_decide_eq_true Z3
      obtain ⟨ad407, e407, hx407_0⟩ := Kd.at_int (Kd.R_reads' HO_45.out).2.2 x47_2 p407 q407
      cases e407
      replace p407 := eq_true p407
      replace q407 := eq_true q407
      obtain ⟨hcz29_0, hcz29_1, hfz29_0, hfz29_1⟩ := Y2f BK402
      go_wp2_with (first | ((with_reducible refine gate_callee (f := 28) rfl ?_); refine goesL_ (some 56) rfl rfl Try.func28 (by kernel_rfl) rfl #[.slice A401_0 ((rd_T26 l3 x30_1).f0).length c401_0, .int .i64 (rd t403 x47_2), .int .i64 a2] rfl Z2 ?_; (with_reducible refine (thrumref02_Scale.calls _ _ ((rd_T26 l3 x30_1).f0) (rd t403 x47_2) a2 t408 t409 _ ?side1 ?side2 A20.out).mono ?_); (case side1 => exact Z45); (case side2 => exact HC401_0.out); rintro e w30 ⟨v410, rfl, ho0, hb⟩; refine ⟨_, rfl, ?_⟩; have n0_ := ZM (Kd.S_elder' Z11 (Kd.R_base ho0) hb); have n1_ := ZM (Kd.R_elder' (Zr HO_16) (Kd.R_base ho0) hb); have n2_ := ZM (Kd.R_elder' (Zr HO_45) (Kd.R_base ho0) hb); have n3_ := ZM (Kd.R_lower (Kd.R_new' (Kd.R_new' ho0 (Kd.R_lt (Zr HO_16))) (Kd.R_lt (Zr HO_45))) (zzS Z6)); have n4_ := ZM (blk_below (g := gb402) (o := .cells #[.slice A401_0 ((rd_T26 l3 x30_1).f0).length c401_0, .int .i64 ((rd_T26 l3 x30_1).f1)] 26 (0, 0)) (Zk BK402) hb); have n5_ := ZM (zzT Z6 hb); clear HO_11; clear HO_16; clear HO_45; clear BK402; clear HB; have HO_11 := n0_; have HO_16 := n1_; have HO_45 := n2_; have HO411 := n3_; have BK402 := n4_; have HB := n5_; clear n0_ n1_ n2_ n3_ n4_ n5_; (try clear hb); (try clear hb2); (try clear hk); (try clear hi); (try clear ho0)))
      go_ret2
      exact ⟨_, by first | rfl | (simp [errW_none, errW_some] <;> rfl) | (simp [*, errW_none, errW_some] <;> rfl), by first | exact Kd.R_nil _ _ _ _ _ | exact Kd.N_nil _ _ _ _ _ | exact Kd.V_nil _ _ _ _ _ | exact Kd.Q_nil _ _ _ _ _ | exact Kd.S_nil _ _ _ _ _, by repeat (first | (with_reducible first | exact HB.out | apply zzA | apply zzN | apply zzD | refine below_set ?_ GE402.out) | exact HB.out)⟩
     rw [if_pos c21] at H
     have c21b0 : (t409 == 0) = true := beq_iff_eq.mpr c21
     have c21b1 : (t409 != 0) = false := bne_eq_false_iff_eq.mpr c21
     clear c21
     by_cases c22 : x16_2.length + t408.length < 17592186044416
     case neg =>
      rw [if_neg c22] at H
      exact absurd H (by simp)
     rw [if_pos c22] at H
     have LMc22 := ZM c22
     clear c22
     obtain ⟨y412, hy412⟩ : ∃ y_ : List Int, y_ = (x16_2 ++ t408) := ⟨_, rfl⟩
     replace H : (if y412.length < 17592186044416 then (thrumref15_GradP.l1 k2 a0 l1 a2 l3 x11_1 (y412 ++ [rd t403 x47_2]) l3 (l3.length : Int) x30_1 t403 (t403.length : Int) (wrap64 (x47_2 + 1)) ((rd_T26 l3 x30_1).f0) ((rd_T26 l3 x30_1).f1)) else (none)) = some (r1, r2) := by first | (rw [hy412]; with_reducible exact H) | (have H2_ := (Option.bind_some _ _).symm.trans H; rw [hy412]; with_reducible exact H2_) | (have H2_ := (Option.bind_some _ _).symm.trans H; with_reducible exact H2_) | with_reducible exact H | (rw [hy412]; exact H) | exact H
     have Ny412 := ZM hy412
     clear hy412
     by_cases c23 : y412.length < 17592186044416
     case neg =>
      rw [if_neg c23] at H
      exact absurd H (by simp)
     rw [if_pos c23] at H
     have LMc23 := ZM c23
     clear c23
     obtain ⟨y415, hy415⟩ : ∃ y_ : List Int, y_ = (y412 ++ [rd t403 x47_2]) := ⟨_, rfl⟩
     replace H : (thrumref15_GradP.l1 k2 a0 l1 a2 l3 x11_1 y415 l3 (l3.length : Int) x30_1 t403 (t403.length : Int) (wrap64 (x47_2 + 1)) ((rd_T26 l3 x30_1).f0) ((rd_T26 l3 x30_1).f1)) = some (r1, r2) := by first | (rw [hy415]; with_reducible exact H) | (have H2_ := (Option.bind_some _ _).symm.trans H; rw [hy415]; with_reducible exact H2_) | (have H2_ := (Option.bind_some _ _).symm.trans H; with_reducible exact H2_) | with_reducible exact H | (rw [hy415]; exact H) | exact H
     have Ny415 := ZM hy415
     clear hy415
     have H' := ZM H
     clear H
     have p407 : 0 ≤ (x47_2 : Int) := of_decide_eq_true Z3
     have q407 : x47_2 < (t403.length : Int) := of_decide_eq_true Z3
     obtain ⟨ad407, e407, hx407_0⟩ := Kd.at_int (Kd.R_reads' HO_45.out).2.2 x47_2 p407 q407
     cases e407
     replace p407 := eq_true p407
     replace q407 := eq_true q407
     obtain ⟨hcz24_0, hcz24_1, hfz24_0, hfz24_1⟩ := Y2f BK402
     go_wp2_with (first | ((with_reducible refine gate_callee (f := 28) rfl ?_); refine goesL_ (some 56) rfl rfl Try.func28 (by kernel_rfl) rfl #[.slice A401_0 ((rd_T26 l3 x30_1).f0).length c401_0, .int .i64 (rd t403 x47_2), .int .i64 a2] rfl Z2 ?_; (with_reducible refine (thrumref02_Scale.calls _ _ ((rd_T26 l3 x30_1).f0) (rd t403 x47_2) a2 t408 t409 _ ?side1 ?side2 A20.out).mono ?_); (case side1 => exact Z45); (case side2 => exact HC401_0.out); rintro e w25 ⟨v410, rfl, ho0, hb⟩; refine ⟨_, rfl, ?_⟩; have n0_ := ZM (Kd.S_elder' Z11 (Kd.R_base ho0) hb); have n1_ := ZM (Kd.R_elder' (Zr HO_16) (Kd.R_base ho0) hb); have n2_ := ZM (Kd.R_elder' (Zr HO_45) (Kd.R_base ho0) hb); have n3_ := ZM (Kd.R_lower (Kd.R_new' (Kd.R_new' ho0 (Kd.R_lt (Zr HO_16))) (Kd.R_lt (Zr HO_45))) (zzS Z6)); have n4_ := ZM (blk_below (g := gb402) (o := .cells #[.slice A401_0 ((rd_T26 l3 x30_1).f0).length c401_0, .int .i64 ((rd_T26 l3 x30_1).f1)] 26 (0, 0)) (Zk BK402) hb); have n5_ := ZM (zzT Z6 hb); clear HO_11; clear HO_16; clear HO_45; clear BK402; clear HB; have HO_11 := n0_; have HO_16 := n1_; have HO_45 := n2_; have HO411 := n3_; have BK402 := n4_; have HB := n5_; clear n0_ n1_ n2_ n3_ n4_ n5_; (try clear hb); (try clear hb2); (try clear hk); (try clear hi); (try clear ho0); obtain ⟨Ao27, co27, eo27⟩ := Kd.R_slice HO411.out; subst eo27) | ((with_reducible refine gate_builtin (b := .append) (xs := #[.tmp 62, .tmp 63]) rfl ?_); at_builtin; refine Kd.R_append_rows (Kd.int .i64) (w0 := w) w.heap.size rfl (.tmp 62) (.tmp 63) 22 2 (.int .i64 0) 8 rfl Try.underlying22 info2 rfl (by decide) (by omega) u16 x16_2 t408 _ _ _ (fun k_ => some k_ ≠ (.slice (some ad407) t403.length co16 : Value).ownBlock ∧ some k_ ≠ (.slice Ao27 t408.length co27 : Value).ownBlock) (fun _ => False) rfl rfl ?aO ?aR (fun _ _ h => h) (fun _ h => h.elim) ?aF ?aB ?aS ?aL ?_; (case aR => repeat (first | exact (Kd.R_reads' HO411.out).2.2 | (with_reducible refine ccA ?_ _) | (with_reducible refine ccN ?_ _) | (with_reducible refine ccD ?_))); (case aB => exact Z6); (case aF => exact (fun k_ hk => ⟨Kd.fresh' (Kd.R_lt (Zr HO_45)) k_ hk, Kd.fresh' (Kd.R_lt (Zr HO411)) k_ hk⟩)); (case aO => exact (Zr HO_16)); (case aS => exact (zzS Z6)); (case aL => have := LMc22.out; omega); intro v413 w26 ho hb hg hat; rw [← Ny412.out] at ho; replace HO_11 := ZM (Kd.S_after (ok := (fun k_ => some k_ ≠ (.slice (some ad407) t403.length co16 : Value).ownBlock ∧ some k_ ≠ (.slice Ao27 t408.length co27 : Value).ownBlock)) (by (with_reducible repeat (first | apply Kd.S_alloc | apply Kd.S_drewN | apply Kd.S_drew)); exact Kd.S_mono HO_11.out (fun _ hk => ⟨⟨hk.1.2, hk.2⟩, hk.1.1⟩)) hg hat); replace HO_45 := ZM (Kd.R_after (ok := (fun k_ => some k_ ≠ (.slice Ao27 t408.length co27 : Value).ownBlock)) (by (with_reducible repeat (first | apply rrA | apply rrN | apply rrD)); exact Kd.R_mono HO_45.out (fun _ hk => ⟨hk.2, hk.1⟩)) hg hat); replace BK402 := ZM (blk_grown (g := gb402) (o := .cells #[.slice A401_0 ((rd_T26 l3 x30_1).f0).length c401_0, .int .i64 ((rd_T26 l3 x30_1).f1)] 26 (0, 0)) (Zk BK402) hg (Kd.R_ne HO_16.out BK402.out (by decide))); replace HO411 := ZM (Kd.R_after (ok := (fun k_ => some k_ ≠ (.slice (some ad407) t403.length co16 : Value).ownBlock)) (by (with_reducible repeat (first | apply rrA | apply rrN | apply rrD)); exact Kd.R_mono HO411.out (fun _ hk => ⟨hk.2, hk.1.2⟩)) hg hat); have HO414 := ZM (ho); replace HB := ZM (hb); clear HO_16; clear ho hb hg hat) | ((with_reducible refine gate_builtin (b := .append) (xs := #[.tmp 64, .tmp 66]) rfl ?_); at_builtin; refine Kd.R_append (Kd.int .i64) (w0 := w) w.heap.size rfl (.tmp 64) (.tmp 66) 22 2 (.int .i64 0) 8 rfl Try.underlying22 info2 rfl (by decide) (by omega) v413 y412 (rd t403 x47_2) [.int .i64 (rd t403 x47_2)] (fun k_ => some k_ ≠ (.slice (some ad407) t403.length co16 : Value).ownBlock ∧ some k_ ≠ (.slice Ao27 t408.length co27 : Value).ownBlock) (fun _ => False) rfl rfl ?aP (fun _ hk => hk.elim) ?aF ?aO ?aB ?aS ?aL ?_; (case aP => exact rfl); (case aB => exact Z6); (case aF => exact (fun k_ hk => ⟨Kd.fresh' (Kd.R_lt (Zr HO_45)) k_ hk, Kd.fresh' (Kd.R_lt (Zr HO411)) k_ hk⟩)); (case aO => exact (Zr HO414)); (case aS => exact (zzS Z6)); (case aL => have := LMc23.out; omega); intro v416 w28 ho hb hg hat; rw [← Ny415.out] at ho; replace HO_11 := ZM (Kd.S_after (ok := (fun k_ => some k_ ≠ (.slice (some ad407) t403.length co16 : Value).ownBlock ∧ some k_ ≠ (.slice Ao27 t408.length co27 : Value).ownBlock)) Z11 hg hat); replace HO_45 := ZM (Kd.R_after (ok := (fun k_ => some k_ ≠ (.slice Ao27 t408.length co27 : Value).ownBlock)) (Zr HO_45) hg hat); replace BK402 := ZM (blk_grown (g := gb402) (o := .cells #[.slice A401_0 ((rd_T26 l3 x30_1).f0).length c401_0, .int .i64 ((rd_T26 l3 x30_1).f1)] 26 (0, 0)) (Zk BK402) hg (Kd.R_ne HO414.out BK402.out (by decide))); replace HO411 := ZM (Kd.R_after (ok := (fun k_ => some k_ ≠ (.slice (some ad407) t403.length co16 : Value).ownBlock)) (Zr HO411) hg hat); have HO417 := ZM (ho); replace HB := ZM (hb); clear HO414; clear ho hb hg hat))
     go_roundg k2
     case measure => have := HK1.out; have := HK2.out; omega
     case rel => exact ⟨(y415), (wrap64 (x47_2 + 1)), Z4, H', ⟨by have := HK1.out; have := HK2.out; omega⟩, ⟨by (with_reducible repeat (first | apply Kd.S_alloc | apply Kd.S_drewN | apply Kd.S_drew)); exact Kd.S_mono HO_11.out (fun _ hk => ⟨hk.2, hk.1.1⟩)⟩, ⟨by (with_reducible repeat (first | apply rrA | apply rrN | apply rrD)); exact Kd.R_mono HO417.out (fun _ hk => hk.1)⟩, ⟨by (with_reducible repeat (first | apply rrA | apply rrN | apply rrD)); exact Kd.R_mono HO_45.out (fun _ hk => hk.2)⟩, ⟨by (with_reducible repeat (first | refine kkN ?_ _ | refine kkD ?_ | refine kkA ?_ _)); exact BK402.out⟩, ⟨by repeat (first | (with_reducible first | exact HB.out | apply zzA | apply zzN | apply zzD | refine below_set ?_ GE402.out) | exact HB.out)⟩⟩
def thrumref15_Grad.f (a0 : Int) (l1 : List Int) (a2 : Int) (l3 : List S26) : Option (List Int × Int) := if V64 l1 ∧ (∀ s ∈ l3, Sm64 s) then some (gradS a0 l1 a2 (l3.map sm)) else none
theorem thrumref15_Grad.of (a0 : Int) (l1 : List Int) (a2 : Int) (l3 : List S26)  (h_ : V64 l1 ∧ (∀ s ∈ l3, Sm64 s)) : thrumref15_Grad.f a0 l1 a2 l3 = some (gradS a0 l1 a2 (l3.map sm)) := if_pos h_
theorem thrumref15_GradP.inner (o : Int) (w : List Int) (f : Int) (l rest : List S26) (all : List (List Int)) (ll i : Int) (x : List Int) (y : Int) (off : List Int) (hx : V64 x) (ho : V64 off) (hl : off.length ≤ 8) (hxl : x.length ≤ 16) (K : Nat) : ∀ (e j : Nat) (g : List Int), e + j = off.length → g.length ≤ 17 * j →
    thrumref15_GradP.l1 (e + 1 + K) o w f l all g rest ll i off (off.length : Int) (j : Int) x y = if (bendRows x f (off.drop j)).2 = 0 then (if all.length < 5864062014805 then thrumref15_GradP.l0 K o w f l (all ++ [g ++ (bendRows x f (off.drop j)).1]) rest ll (wrap64 (i + 1)) else none) else some ([], (bendRows x f (off.drop j)).2) := by
  intro e
  induction e with
  | zero =>
    intro j g hd hg
    rw [show 0 + 1 + K = K + 1 by omega, thrumref15_GradP.l1, if_neg (by omega), List.drop_eq_nil_of_le (by omega), bendRows, if_pos rfl, List.append_nil]
  | succ e ih =>
    intro j g hd hg
    have hj : j < off.length := by omega
    have hrd : rd off (j : Int) = off[j] := by unfold rd; rw [Int.toNat_natCast, List.getD_eq_getElem?_getD, List.getElem?_eq_getElem hj, Option.getD_some]
    have hle := scaleV_xlen x off[j] f
    rw [show e + 1 + 1 + K = (e + 1 + K) + 1 by omega, thrumref15_GradP.l1, if_pos (by omega), if_pos (by omega), if_pos (by omega), hrd, thrumref02_Scale.of _ _ _ ⟨hx, ho _ (List.getElem_mem hj)⟩, Option.bind_some, List.drop_eq_getElem_cons hj, bendRows]
    by_cases c : (scaleV x off[j] f).2 = 0
    · rw [if_pos c, if_pos c, if_pos (by omega), Option.bind_some, if_pos (by rw [List.length_append]; omega), wrap64_of (x := (j : Int) + 1) (by unfold I64; omega), show (j : Int) + 1 = ((j + 1 : Nat) : Int) by omega,
        ih (j + 1) _ (by omega) (by rw [List.length_append, List.length_append, List.length_singleton]; omega)]
      by_cases c2 : (bendRows x f (off.drop (j + 1))).2 = 0
      · rw [if_pos c2, if_pos c2, if_pos rfl, List.append_assoc, List.append_assoc]; rfl
      · rw [if_neg c2, if_neg c2, if_neg c2]
    · rw [if_neg c, if_neg c, if_neg c]
theorem thrumref15_GradP.good (o : Int) (w : List Int) (f : Int) (l : List S26) (hw : V64 w) (hs : ∀ s ∈ l, Sm64 s) (hx : ∀ s ∈ l, s.f0.length ≤ 16) (hb : l.length ≤ 64) : ∀ (d i : Nat) (acc : List (List Int)) (K : Nat), 10 * d + 1 ≤ K → d + i = l.length → acc.length ≤ i → (∀ v ∈ acc, V64 v) →
    thrumref15_GradP.l0 K o w f l acc l (l.length : Int) (i : Int) = some (if (rowsFrom (fun s : S26 => bendS o w f (sm s)) (l.drop i) acc).2 = 0 then meanL l.length (rowsFrom (fun s : S26 => bendS o w f (sm s)) (l.drop i) acc).1 else ([], (rowsFrom (fun s : S26 => bendS o w f (sm s)) (l.drop i) acc).2)) := by
  intro d
  induction d with
  | zero =>
    intro i acc K hK hd ha hv
    obtain ⟨k, rfl⟩ : ∃ k, K = k + 1 := ⟨K - 1, by omega⟩
    rw [thrumref15_GradP.l0, if_neg (by omega), List.drop_eq_nil_of_le (by omega), rowsFrom_nil, thrumref14_Mean.of _ _ ⟨by unfold I64; omega, hv⟩]
    rfl
  | succ d ih =>
    intro i acc K hK hd ha hv
    have hi : i < l.length := by omega
    have hm := List.getElem_mem hi
    have h1 := hs _ hm
    have hbd : bendS o w f (sm l[i]) = if (offS o w l[i].f0 l[i].f1 f).2 = 0 then bendRows l[i].f0 f (offS o w l[i].f0 l[i].f1 f).1 else ([], (offS o w l[i].f0 l[i].f1 f).2) := rfl
    have hbg := bendS_good o w f (sm l[i])
    obtain ⟨k, rfl⟩ : ∃ k, K = k + 1 := ⟨K - 1, by omega⟩
    rw [thrumref15_GradP.l0, if_pos (by omega), if_pos (by omega), if_pos (by omega), rd_sm hi, thrumref15_Off.of _ _ _ _ _ ⟨hw, h1.1⟩, Option.bind_some, List.drop_eq_getElem_cons hi]
    by_cases c : (offS o w l[i].f0 l[i].f1 f).2 = 0
    · rw [if_pos c] at hbd
      obtain ⟨hl, h2, h8, hov⟩ := offS_good c
      obtain ⟨K', rfl⟩ : ∃ K', k = (offS o w l[i].f0 l[i].f1 f).1.length + 1 + K' := ⟨k - ((offS o w l[i].f0 l[i].f1 f).1.length + 1), by omega⟩
      have hin := thrumref15_GradP.inner o w f l l acc (l.length : Int) (i : Int) l[i].f0 l[i].f1 (offS o w l[i].f0 l[i].f1 f).1 h1.1 hov (by omega) (hx _ hm) K' (offS o w l[i].f0 l[i].f1 f).1.length 0 [] (by omega) (by simp)
      rw [List.drop_zero, List.nil_append, show ((0 : Nat) : Int) = 0 from rfl] at hin
      rw [if_pos c, hin, wrap64_of (by unfold I64; omega), show (i : Int) + 1 = ((i + 1 : Nat) : Int) by omega]
      by_cases c2 : (bendRows l[i].f0 f (offS o w l[i].f0 l[i].f1 f).1).2 = 0
      · rw [if_pos c2, if_pos (by omega), rowsFrom_ok (g := fun s : S26 => bendS o w f (sm s)) (by simp only [hbd]; exact c2)]
        simp only [hbd]
        rw [hbd] at hbg
        refine ih (i + 1) _ K' (by omega) (by omega) Z39 ?_
        intro v hv'
        rcases List.mem_append.1 hv' with e | e
        · exact hv v e
        · rw [List.mem_singleton.1 e]; exact hbg.1
      · rw [if_neg c2, rowsFrom_bad (g := fun s : S26 => bendS o w f (sm s)) (by simp only [hbd]; exact c2)]
        simp only [hbd, if_neg c2]
    · rw [if_neg c] at hbd
      rw [if_neg c, rowsFrom_bad (g := fun s : S26 => bendS o w f (sm s)) (by simp only [hbd]; exact c)]
      simp only [hbd, if_neg c]
theorem rowsL_smR (o : Int) (w : List Int) (f : Int) : ∀ l : List S26, rowsL (bendS o w f) (l.map sm) = rowsL (fun s => bendS o w f (sm s)) l
  | [] => rfl
  | x :: l => by simp only [List.map_cons, rowsL, rowsL_smR o w f l]
theorem thrumref15_GradP.is (o : Int) (w : List Int) (f : Int) (l : List S26) (hw : V64 w) (hs : ∀ s ∈ l, Sm64 s) : thrumref15_GradP.f (10 * l.length + 1) o w f l = some (gradS o w f (l.map sm)) := by
  unfold thrumref15_GradP.f gradS thrumref15_fit.f
  rw [Option.bind_some]
  by_cases c : fitS o w (l.map sm) = 0
  · obtain ⟨h1, h2⟩ := fitS_ok c
    rw [List.length_map] at h1
    have hk := thrumref15_GradP.good o w f l hw hs (fun s h => h2 (sm s) (List.mem_map_of_mem h)) h1 l.length 0 [] (10 * l.length + 1) (Nat.le_refl _) (by omega) (by simp) (fun v hv => by cases hv)
    rw [List.drop_zero, rowsFrom_start, show ((0 : Nat) : Int) = 0 from rfl] at hk
    rw [if_pos c, if_pos c, List.length_map, rowsL_smR]
    exact hk
  · rw [if_neg c, if_neg c]
theorem thrumref15_Grad.calls (a0 : Int) (A1 : Option Addr) (c1 : Nat) (l1 : List Int) (a2 : Int) (A3 : Option Addr) (c3 : Nat) (l3 : List (S26)) (r1 : List Int) (r2 : Int) (w : World) (hr1 : Kd.C (Kd.int .i64) w A1 l1.length l1) (hc1 : l1.length ≤ c1) (hr3 : Kd.C k26 w A3 l3.length l3) (hc3 : l3.length ≤ c3) (h : thrumref15_Grad.f a0 l1 a2 l3 = some (r1, r2)) :
    Calls Try.prog 10 #[.int .i64 a0, .slice A1 l1.length c1, .int .i64 a2, .slice A3 l3.length c3] w fun e w' => ∃ v0_ : Value, e = .returned (.tuple #[v0_, .int .i64 r2]) ∧ Kd.R (Kd.int .i64) 2 w' w.heap.size (fun _ => True) v0_ r1 ∧ Below w.heap.size w w' := by
  unfold thrumref15_Grad.f at h
  split at h
  case isFalse => cases h
  rename_i hv
  exact thrumref15_GradP.calls (10 * l3.length + 1) a0 A1 c1 l1 a2 A3 c3 l3 r1 r2 w hr1 hc1 hr3 hc3 ((thrumref15_GradP.is a0 l1 a2 l3 hv.1 hv.2).trans h)


/-! ### soft_ClassP: function 30 -/
def soft_ClassP.f (a0 : Int) (l1 : List Int) (l2 : List Int) (a3 : Int) : Option (Int × Int) := (soft_lines.f a0 l1 l2 a3).bind fun bt421 => (if bt421.2 = 0 then ((table_Best.f bt421.1).bind fun bt425 => (some (bt425.1, bt425.2))) else (some (0, bt421.2)))
set_option maxHeartbeats 8000000 in
set_option maxRecDepth 100000 in
theorem soft_ClassP.calls (a0 : Int) (A1 : Option Addr) (c1 : Nat) (l1 : List Int) (A2 : Option Addr) (c2 : Nat) (l2 : List Int) (a3 : Int) (r1 : Int) (r2 : Int) (w : World) (hr1 : Kd.C (Kd.int .i64) w A1 l1.length l1) (hc1 : l1.length ≤ c1) (hr2 : Kd.C (Kd.int .i64) w A2 l2.length l2) (hc2 : l2.length ≤ c2) (h : soft_ClassP.f a0 l1 l2 a3 = some (r1, r2)) :
  Calls Try.prog 30 #[.int .i64 a0, .slice A1 l1.length c1, .slice A2 l2.length c2, .int .i64 a3] w fun e w' => e = .returned (.tuple #[.int .i64 r1, .int .i64 r2]) ∧ Below w.heap.size w w' := by
 have HR1 := ZM hr1
 have HC1 := ZM hc1
 clear hr1 hc1
 have HR2 := ZM hr2
 have HC2 := ZM hc2
 clear hr2 hc2
 have HB := ZM (Below.refl w.heap.size w)
 have H : ((soft_lines.f a0 l1 l2 a3).bind fun bt421 => (if bt421.2 = 0 then ((table_Best.f bt421.1).bind fun bt425 => (some (bt425.1, bt425.2))) else (some (0, bt421.2)))) = some (r1, r2) := h
 clear h
 replace H := Option.bind_eq_some_iff.mp H
 obtain ⟨⟨t421, t422⟩, A50, H⟩ := H
 replace H : (if t422 = 0 then ((table_Best.f t421).bind fun bt425 => (some (bt425.1, bt425.2))) else (some (0, t422))) = some (r1, r2) := H
 have A5 := ZM A50
 clear A50
 by_cases c6 : t422 = 0
 case neg =>
  rw [if_neg c6] at H
  have c6b0 : (t422 == 0) = false := beq_eq_false_iff_ne.mpr c6
  have c6b1 : (t422 != 0) = true := bne_iff_ne.mpr c6
  simp only [Option.some.injEq, Prod.mk.injEq] at H
  obtain ⟨rfl, rfl⟩ := H
  go_enter Try.func30, Try.ntmps30
  go_wp2_with (first | ((with_reducible refine gate_callee (f := 20) rfl ?_); refine goesL_ (some 17) rfl rfl Try.func20 (by kernel_rfl) rfl #[.int .i64 a0, .slice A1 l1.length c1, .slice A2 l2.length c2, .int .i64 a3] rfl Z2 ?_; (with_reducible refine (soft_lines.calls a0 _ _ l1 _ _ l2 a3 t421 t422 _ ?side1 ?side2 ?side3 ?side4 A5.out).mono ?_); (case side1 => exact Z5); (case side2 => exact HC1.out); (case side3 => exact Z18); (case side4 => exact HC2.out); rintro e w11 ⟨v423, rfl, ho0, hb⟩; refine ⟨_, rfl, ?_⟩; have HO424 := ZM (Kd.R_lower ho0 (zzS Z1)); replace HB := ZM (zzT Z1 hb); (try clear hb); (try clear hb2); (try clear hk); (try clear hi); (try clear ho0)))
  go_ret2
  exact ⟨by first | rfl | (simp [errW_none, errW_some] <;> rfl) | (simp [*, errW_none, errW_some] <;> rfl), by repeat (first | (with_reducible first | exact HB.out | apply zzA | apply zzN | apply zzD) | exact HB.out)⟩
 rw [if_pos c6] at H
 have c6b0 : (t422 == 0) = true := beq_iff_eq.mpr c6
 have c6b1 : (t422 != 0) = false := bne_eq_false_iff_eq.mpr c6
 clear c6
 replace H := Option.bind_eq_some_iff.mp H
 obtain ⟨⟨t425, t426⟩, A70, H⟩ := H
 replace H : (some (t425, t426)) = some (r1, r2) := H
 have A7 := ZM A70
 clear A70
 simp only [Option.some.injEq, Prod.mk.injEq] at H
 obtain ⟨rfl, rfl⟩ := H
 go_enter Try.func30, Try.ntmps30
 go_wp2_with (first | ((with_reducible refine gate_callee (f := 20) rfl ?_); refine goesL_ (some 17) rfl rfl Try.func20 (by kernel_rfl) rfl #[.int .i64 a0, .slice A1 l1.length c1, .slice A2 l2.length c2, .int .i64 a3] rfl Z2 ?_; (with_reducible refine (soft_lines.calls a0 _ _ l1 _ _ l2 a3 t421 t422 _ ?side1 ?side2 ?side3 ?side4 A5.out).mono ?_); (case side1 => exact Z5); (case side2 => exact HC1.out); (case side3 => exact Z18); (case side4 => exact HC2.out); rintro e w8 ⟨v423, rfl, ho0, hb⟩; refine ⟨_, rfl, ?_⟩; have HO424 := ZM (Kd.R_lower ho0 (zzS Z1)); replace HB := ZM (zzT Z1 hb); (try clear hb); (try clear hb2); (try clear hk); (try clear hi); (try clear ho0); obtain ⟨Ao9, co9, eo9⟩ := Kd.R_slice HO424.out; subst eo9) | ((with_reducible refine gate_callee (f := 39) rfl ?_); refine goesL_ (some 24) rfl rfl Try.func39 (by kernel_rfl) rfl #[.slice Ao9 t421.length co9] rfl Z2 ?_; (with_reducible refine (table_Best.calls _ _ t421 t425 t426 _ ?side1 ?side2 A7.out).mono ?_); (case side1 => repeat (first | exact (Kd.R_reads' HO424.out).2.2 | (with_reducible refine ccA ?_ _) | (with_reducible refine ccN ?_ _) | (with_reducible refine ccD ?_))); (case side2 => exact (Kd.R_reads' HO424.out).2.1); rintro e w10 ⟨rfl, hb⟩; refine ⟨_, rfl, ?_⟩; replace HO424 := ZM (Kd.R_below (Zr HO424) hb); replace HB := ZM (zzT Z1 hb); (try clear hb); (try clear hb2); (try clear hk); (try clear hi)))
 go_ret2
 exact ⟨by first | rfl | (simp [errW_none, errW_some] <;> rfl) | (simp [*, errW_none, errW_some] <;> rfl), by repeat (first | (with_reducible first | exact HB.out | apply zzA | apply zzN | apply zzD) | exact HB.out)⟩
def soft_Class.f (a0 : Int) (l1 l2 : List Int) (a3 : Int) : Option (Int × Int) := if V64 l1 ∧ V64 l2 then some (classS a0 l1 l2 a3) else none
theorem soft_Class.of (a0 : Int) (l1 l2 : List Int) (a3 : Int)  (h_ : V64 l1 ∧ V64 l2) : soft_Class.f a0 l1 l2 a3 = some (classS a0 l1 l2 a3) := if_pos h_
theorem soft_ClassP.is (a0 : Int) (l1 l2 : List Int) (a3 : Int) (h1 : V64 l1) (h2 : V64 l2) : soft_ClassP.f a0 l1 l2 a3 = some (classS a0 l1 l2 a3) := by
  unfold soft_ClassP.f classS
  rw [soft_lines.of _ _ _ _ ⟨h1, h2⟩, Option.bind_some]
  by_cases c : (linesS a0 l1 l2 a3).2 = 0
  · rw [if_pos c, if_pos c]; rfl
  · rw [if_neg c, if_neg c]
theorem soft_Class.calls (a0 : Int) (A1 : Option Addr) (c1 : Nat) (l1 : List Int) (A2 : Option Addr) (c2 : Nat) (l2 : List Int) (a3 : Int) (r1 : Int) (r2 : Int) (w : World) (hr1 : Kd.C (Kd.int .i64) w A1 l1.length l1) (hc1 : l1.length ≤ c1) (hr2 : Kd.C (Kd.int .i64) w A2 l2.length l2) (hc2 : l2.length ≤ c2) (h : soft_Class.f a0 l1 l2 a3 = some (r1, r2)) :
    Calls Try.prog 30 #[.int .i64 a0, .slice A1 l1.length c1, .slice A2 l2.length c2, .int .i64 a3] w fun e w' => e = .returned (.tuple #[.int .i64 r1, .int .i64 r2]) ∧ Below w.heap.size w w' := by
  unfold soft_Class.f at h
  split at h
  case isFalse => cases h
  rename_i hv
  exact soft_ClassP.calls a0 A1 c1 l1 A2 c2 l2 a3 r1 r2 w hr1 hc1 hr2 hc2 ((soft_ClassP.is a0 l1 l2 a3 hv.1 hv.2).trans h)


/-! ### soft_RightP: function 11 -/
def soft_RightP.l0 : Nat → Int → List Int → Int → Int → List (S26) → Int → Int → Option (Int × Int)
 | 0, _, _, _, _, _, _, _ => none
 | k + 1, x0, x1, x2, x8, x22, x23, x24 => if x24 < x23 then (if 0 ≤ x24 then (if x24 < (x22.length : Int) then ((soft_Class.f x0 x1 ((rd_T26 x22 x24).f0) x2).bind fun bt430 => (if bt430.2 = 0 then (if bt430.1 = ((rd_T26 x22 x24).f1) then (soft_RightP.l0 k x0 x1 x2 (wrap64 (x8 + 1)) x22 x23 (wrap64 (x24 + 1))) else (soft_RightP.l0 k x0 x1 x2 x8 x22 x23 (wrap64 (x24 + 1)))) else (some (0, bt430.2)))) else (none)) else (none)) else (some (x8, 0))
def soft_RightP.f (k : Nat) (a0 : Int) (l1 : List Int) (a2 : Int) (l3 : List (S26)) : Option (Int × Int) := (soft_fits.f a0 l1 l3).bind fun t427 => (if t427 = 0 then (soft_RightP.l0 k a0 l1 a2 0 l3 (l3.length : Int) 0) else (some (0, t427)))
theorem soft_RightP.mono_l : ∀ k, (∀ y0 y1 y2 y3 y4 y5 y6, LeO (soft_RightP.l0 k y0 y1 y2 y3 y4 y5 y6) (soft_RightP.l0 (k + 1) y0 y1 y2 y3 y4 y5 y6))
 | 0 => fun _ _ _ _ _ _ _ r h => by simp [soft_RightP.l0] at h
 | k + 1 => by
  have ih0 := soft_RightP.mono_l k
  ·
   intro y0 y1 y2 y3 y4 y5 y6
   unfold soft_RightP.l0
   repeat' first
   | (with_reducible exact ih0 _ _ _ _ _ _ _)
   | (with_reducible exact LeO.refl _)
   | (with_reducible exact LeO.none _)
   | (with_reducible refine LeO.ite ?_ ?_)
   | (with_reducible refine LeO.bind ?_ (fun _ => ?_))
theorem soft_RightP.mono : ∀ a0 a1 a2 a3 k, LeO (soft_RightP.f k a0 a1 a2 a3) (soft_RightP.f (k + 1) a0 a1 a2 a3) := by
 intro a0 a1 a2 a3 k
 have ih0 := soft_RightP.mono_l k
 unfold soft_RightP.f
 repeat' first
   | (with_reducible exact ih0 _ _ _ _ _ _ _)
   | (with_reducible exact LeO.refl _)
   | (with_reducible exact LeO.none _)
   | (with_reducible refine LeO.ite ?_ ?_)
   | (with_reducible refine LeO.bind ?_ (fun _ => ?_))
set_option maxHeartbeats 8000000 in
set_option maxRecDepth 100000 in
theorem soft_RightP.calls (k : Nat) (a0 : Int) (A1 : Option Addr) (c1 : Nat) (l1 : List Int) (a2 : Int) (A3 : Option Addr) (c3 : Nat) (l3 : List (S26)) (r1 : Int) (r2 : Int) (w : World) (hr1 : Kd.C (Kd.int .i64) w A1 l1.length l1) (hc1 : l1.length ≤ c1) (hr3 : Kd.C k26 w A3 l3.length l3) (hc3 : l3.length ≤ c3) (h : soft_RightP.f k a0 l1 a2 l3 = some (r1, r2)) :
  Calls Try.prog 11 #[.int .i64 a0, .slice A1 l1.length c1, .int .i64 a2, .slice A3 l3.length c3] w fun e w' => e = .returned (.tuple #[.int .i64 r1, .int .i64 r2]) ∧ Below w.heap.size w w' := by
 have hu26 := Try.underlying26
 have HR1 := ZM hr1
 have HC1 := ZM hc1
 clear hr1 hc1
 have HR3 := ZM hr3
 have HC3 := ZM hc3
 clear hr3 hc3
 have HB := ZM (Below.refl w.heap.size w)
 have H : ((soft_fits.f a0 l1 l3).bind fun t427 => (if t427 = 0 then (soft_RightP.l0 k a0 l1 a2 0 l3 (l3.length : Int) 0) else (some (0, t427)))) = some (r1, r2) := h
 clear h
 replace H := Option.bind_eq_some_iff.mp H
 obtain ⟨t427, A50, H⟩ := H
 replace H : (if t427 = 0 then (soft_RightP.l0 k a0 l1 a2 0 l3 (l3.length : Int) 0) else (some (0, t427))) = some (r1, r2) := H
 have A5 := ZM A50
 clear A50
 by_cases c6 : t427 = 0
 case neg =>
  rw [if_neg c6] at H
  have c6b0 : (t427 == 0) = false := beq_eq_false_iff_ne.mpr c6
  have c6b1 : (t427 != 0) = true := bne_iff_ne.mpr c6
  simp only [Option.some.injEq, Prod.mk.injEq] at H
  obtain ⟨rfl, rfl⟩ := H
  go_enter Try.func11, Try.ntmps11
  go_wp2_with (first | ((with_reducible refine gate_callee (f := 22) rfl ?_); refine goesL_ (some 18) rfl rfl Try.func22 (by kernel_rfl) rfl #[.int .i64 a0, .slice A1 l1.length c1, .slice A3 l3.length c3] rfl Z2 ?_; (with_reducible refine (soft_fits.calls a0 _ _ l1 _ _ l3 t427 _ ?side1 ?side2 ?side3 ?side4 A5.out).mono ?_); (case side1 => exact Z5); (case side2 => exact HC1.out); (case side3 => exact Z25); (case side4 => exact HC3.out); rintro e w25 ⟨rfl, hb⟩; refine ⟨_, rfl, ?_⟩; replace HB := ZM (zzT Z1 hb); (try clear hb); (try clear hb2); (try clear hk); (try clear hi)))
  go_ret2
  exact ⟨by first | rfl | (simp [errW_none, errW_some] <;> rfl) | (simp [*, errW_none, errW_some] <;> rfl), by repeat (first | (with_reducible first | exact HB.out | apply zzA | apply zzN | apply zzD) | exact HB.out)⟩
 rw [if_pos c6] at H
 have c6b0 : (t427 == 0) = true := beq_iff_eq.mpr c6
 have c6b1 : (t427 != 0) = false := bne_eq_false_iff_eq.mpr c6
 clear c6
 have H' := ZM H
 clear H
 go_enter Try.func11, Try.ntmps11
 go_wp2_with (first | ((with_reducible refine gate_callee (f := 22) rfl ?_); refine goesL_ (some 18) rfl rfl Try.func22 (by kernel_rfl) rfl #[.int .i64 a0, .slice A1 l1.length c1, .slice A3 l3.length c3] rfl Z2 ?_; (with_reducible refine (soft_fits.calls a0 _ _ l1 _ _ l3 t427 _ ?side1 ?side2 ?side3 ?side4 A5.out).mono ?_); (case side1 => exact Z5); (case side2 => exact HC1.out); (case side3 => exact Z25); (case side4 => exact HC3.out); rintro e w7 ⟨rfl, hb⟩; refine ⟨_, rfl, ?_⟩; replace HB := ZM (zzT Z1 hb); (try clear hb); (try clear hb2); (try clear hk); (try clear hi)))
 go_loopg [8, 24] k (fun kq v8 v24 w' => ∃ (x8_1 : Int) (x24_1 : Int), v8 = .int .i64 x8_1 ∧ v24 = .int .i64 x24_1 ∧ Aside0 (soft_RightP.l0 kq a0 l1 a2 x8_1 l3 (l3.length : Int) x24_1 = some (r1, r2)) ∧ Aside0 (kq ≤ k) ∧ Aside0 (Below w.heap.size w w'))
 case atStart => exact ⟨(0), (0), Z4, Z4, H', ⟨Nat.le_refl _⟩, ⟨by repeat (first | (with_reducible first | exact HB.out | apply zzA | apply zzN | apply zzD) | exact HB.out)⟩⟩
 case round =>
  clear H'
  try clear c1
  try clear c2
  try clear p2
  try clear c3
  try clear c6
  try clear c6b0
  try clear c6b1
  obtain ⟨x8_1, x24_1, rfl, rfl, HA, HK1, HB⟩ := hrel
  cases gk with
  | zero => exact absurd HA.out (by simp [soft_RightP.l0])
  | succ k1 =>
   have H := HA.out
   clear HA
   simp only [soft_RightP.l0] at H
   by_cases c8 : x24_1 < (l3.length : Int)
   case neg =>
    rw [if_neg c8] at H
    have c8b0 : decide (x24_1 < (l3.length : Int)) = false := decide_eq_false c8
    clear c8
    simp only [Option.some.injEq, Prod.mk.injEq] at H
    obtain ⟨rfl, rfl⟩ := H
    go_wp2
    go_ret2
    exact ⟨by first | rfl | (simp [errW_none, errW_some] <;> rfl) | (simp [*, errW_none, errW_some] <;> rfl), by repeat (first | (with_reducible first | exact HB.out | apply zzA | apply zzN | apply zzD) | exact HB.out)⟩
   rw [if_pos c8] at H
   have c8b0 : decide (x24_1 < (l3.length : Int)) = true := decide_eq_true c8
   clear c8
   by_cases c9 : 0 ≤ x24_1
   case neg =>
    rw [if_neg c9] at H
    exact absurd H (by simp)
   rw [if_pos c9] at H
   have c9b0 : decide (0 ≤ x24_1) = true := decide_eq_true c9
   clear c9
   by_cases c10 : x24_1 < (l3.length : Int)
   case neg =>
    rw [if_neg c10] at H
    exact absurd H (by simp)
   rw [if_pos c10] at H
   have c10b0 : decide (x24_1 < (l3.length : Int)) = true := decide_eq_true c10
   clear c10
   replace H := Option.bind_eq_some_iff.mp H
   obtain ⟨⟨t430, t431⟩, A110, H⟩ := H
   replace H : (if t431 = 0 then (if t430 = ((rd_T26 l3 x24_1).f1) then (soft_RightP.l0 k1 a0 l1 a2 (wrap64 (x8_1 + 1)) l3 (l3.length : Int) (wrap64 (x24_1 + 1))) else (soft_RightP.l0 k1 a0 l1 a2 x8_1 l3 (l3.length : Int) (wrap64 (x24_1 + 1)))) else (some (0, t431))) = some (r1, r2) := H
   have A11 := ZM A110
   clear A110
   by_cases c12 : t431 = 0
   case neg =>
    rw [if_neg c12] at H
    have c12b0 : (t431 == 0) = false := beq_eq_false_iff_ne.mpr c12
    have c12b1 : (t431 != 0) = true := bne_iff_ne.mpr c12
    simp only [Option.some.injEq, Prod.mk.injEq] at H
    obtain ⟨rfl, rfl⟩ := H
    have p428 : 0 ≤ (x24_1 : Int) := of_decide_eq_true Z3
    have q428 : x24_1 < (l3.length : Int) := of_decide_eq_true Z3
    obtain ⟨ad428, A428_0, c428_0, e428, hx428_0, hx428_1, hl428_0, hi428_0⟩ := at_T26 HR3.out x24_1 p428 q428
    cases e428
    replace hx428_0 := (HB.out.cell (World.block_lt_of_cell? w _ hx428_0)).trans hx428_0
    replace hx428_1 := (HB.out.cell (World.block_lt_of_cell? w _ hx428_1)).trans hx428_1
    have HR428_0 := ZM hi428_0
    have HC428_0 := ZM hl428_0
    clear hi428_0 hl428_0
    replace p428 := eq_true p428
    replace q428 := eq_true q428
    go_wp2_with (first | ((with_reducible refine gate_dst (N := 12) rfl ?_); refine box_event ?hg (N := 12) ?hd (cs := #[.slice none 0 0, .int .i64 0]) (t := 26) ?hr ?_; (case hd => rfl); (case hg => rfl); (case hr => exact Z9); intro gb429 hg w22 hbox hb; have BK429 := ZM (hbox); have GW429 := ZM ((by rw [hg]; exact (zzS Z1) : w.heap.size ≤ gb429)); have GE429 := ZM ((by rw [hg]; exact (zzS Z1) : w.heap.size ≤ gb429)); replace HB := ZM (zzT Z1 hb); clear hb hbox hg; obtain ⟨hcz23_0, hcz23_1, hfz23_0, hfz23_1⟩ := Y2f BK429) | ((with_reducible refine gate_callee (f := 30) rfl ?_); refine goesL_ (some 34) rfl rfl Try.func30 (by kernel_rfl) rfl #[.int .i64 a0, .slice A1 l1.length c1, .slice A428_0 ((rd_T26 l3 x24_1).f0).length c428_0, .int .i64 a2] rfl Z2 ?_; (with_reducible refine (soft_Class.calls a0 _ _ l1 _ _ ((rd_T26 l3 x24_1).f0) a2 t430 t431 _ ?side1 ?side2 ?side3 ?side4 A11.out).mono ?_); (case side1 => exact Kd.C_below HR1.out Z13); (case side2 => exact HC1.out); (case side3 => exact Kd.C_below HR428_0.out Z13); (case side4 => exact HC428_0.out); rintro e w24 ⟨rfl, hb⟩; refine ⟨_, rfl, ?_⟩; replace BK429 := ZM (blk_below (g := gb429) (o := .cells #[.slice A428_0 ((rd_T26 l3 x24_1).f0).length c428_0, .int .i64 ((rd_T26 l3 x24_1).f1)] 26 (0, 0)) Z22 hb); replace HB := ZM (zzT Z13 hb); (try clear hb); (try clear hb2); (try clear hk); (try clear hi)))
    go_ret2
    exact ⟨by first | rfl | (simp [errW_none, errW_some] <;> rfl) | (simp [*, errW_none, errW_some] <;> rfl), by repeat (first | (with_reducible first | exact HB.out | apply zzA | apply zzN | apply zzD | refine below_set ?_ GE429.out) | exact HB.out)⟩
   rw [if_pos c12] at H
   have c12b0 : (t431 == 0) = true := beq_iff_eq.mpr c12
   have c12b1 : (t431 != 0) = false := bne_eq_false_iff_eq.mpr c12
   clear c12
   by_cases c13 : t430 = ((rd_T26 l3 x24_1).f1)
   case neg =>
    rw [if_neg c13] at H
    have c13b0 : (t430 == ((rd_T26 l3 x24_1).f1)) = false := beq_eq_false_iff_ne.mpr c13
    have c13b1 : (t430 != ((rd_T26 l3 x24_1).f1)) = true := bne_iff_ne.mpr c13
    have H' := ZM H
    clear H
    have p428 : 0 ≤ (x24_1 : Int) := of_decide_eq_true Z3
    have q428 : x24_1 < (l3.length : Int) := of_decide_eq_true Z3
    obtain ⟨ad428, A428_0, c428_0, e428, hx428_0, hx428_1, hl428_0, hi428_0⟩ := at_T26 HR3.out x24_1 p428 q428
    cases e428
    replace hx428_0 := (HB.out.cell (World.block_lt_of_cell? w _ hx428_0)).trans hx428_0
    replace hx428_1 := (HB.out.cell (World.block_lt_of_cell? w _ hx428_1)).trans hx428_1
    have HR428_0 := ZM hi428_0
    have HC428_0 := ZM hl428_0
    clear hi428_0 hl428_0
    replace p428 := eq_true p428
    replace q428 := eq_true q428
    go_wp2_with (first | ((with_reducible refine gate_dst (N := 12) rfl ?_); refine box_event ?hg (N := 12) ?hd (cs := #[.slice none 0 0, .int .i64 0]) (t := 26) ?hr ?_; (case hd => rfl); (case hg => rfl); (case hr => exact Z9); intro gb429 hg w18 hbox hb; have BK429 := ZM (hbox); have GW429 := ZM ((by rw [hg]; exact (zzS Z1) : w.heap.size ≤ gb429)); have GE429 := ZM ((by rw [hg]; exact (zzS Z1) : w.heap.size ≤ gb429)); replace HB := ZM (zzT Z1 hb); clear hb hbox hg; obtain ⟨hcz19_0, hcz19_1, hfz19_0, hfz19_1⟩ := Y2f BK429) | ((with_reducible refine gate_callee (f := 30) rfl ?_); refine goesL_ (some 34) rfl rfl Try.func30 (by kernel_rfl) rfl #[.int .i64 a0, .slice A1 l1.length c1, .slice A428_0 ((rd_T26 l3 x24_1).f0).length c428_0, .int .i64 a2] rfl Z2 ?_; (with_reducible refine (soft_Class.calls a0 _ _ l1 _ _ ((rd_T26 l3 x24_1).f0) a2 t430 t431 _ ?side1 ?side2 ?side3 ?side4 A11.out).mono ?_); (case side1 => exact Kd.C_below HR1.out Z13); (case side2 => exact HC1.out); (case side3 => exact Kd.C_below HR428_0.out Z13); (case side4 => exact HC428_0.out); rintro e w20 ⟨rfl, hb⟩; refine ⟨_, rfl, ?_⟩; replace BK429 := ZM (blk_below (g := gb429) (o := .cells #[.slice A428_0 ((rd_T26 l3 x24_1).f0).length c428_0, .int .i64 ((rd_T26 l3 x24_1).f1)] 26 (0, 0)) Z22 hb); replace HB := ZM (zzT Z13 hb); (try clear hb); (try clear hb2); (try clear hk); (try clear hi); obtain ⟨hcz21_0, hcz21_1, hfz21_0, hfz21_1⟩ := Y2f BK429))
    go_roundg k1
    case measure => have := HK1.out; omega
    case rel => exact ⟨(x8_1), (wrap64 (x24_1 + 1)), Z4, Z4, H', ⟨by have := HK1.out; omega⟩, ⟨by repeat (first | (with_reducible first | exact HB.out | apply zzA | apply zzN | apply zzD | refine below_set ?_ GE429.out) | exact HB.out)⟩⟩
   rw [if_pos c13] at H
   have c13b0 : (t430 == ((rd_T26 l3 x24_1).f1)) = true := beq_iff_eq.mpr c13
   have c13b1 : (t430 != ((rd_T26 l3 x24_1).f1)) = false := bne_eq_false_iff_eq.mpr c13
   clear c13
   have H' := ZM H
   clear H
   have p428 : 0 ≤ (x24_1 : Int) := of_decide_eq_true Z3
   have q428 : x24_1 < (l3.length : Int) := of_decide_eq_true Z3
   obtain ⟨ad428, A428_0, c428_0, e428, hx428_0, hx428_1, hl428_0, hi428_0⟩ := at_T26 HR3.out x24_1 p428 q428
   cases e428
   replace hx428_0 := (HB.out.cell (World.block_lt_of_cell? w _ hx428_0)).trans hx428_0
   replace hx428_1 := (HB.out.cell (World.block_lt_of_cell? w _ hx428_1)).trans hx428_1
   have HR428_0 := ZM hi428_0
   have HC428_0 := ZM hl428_0
   clear hi428_0 hl428_0
   replace p428 := eq_true p428
   replace q428 := eq_true q428
   go_wp2_with (first | ((with_reducible refine gate_dst (N := 12) rfl ?_); refine box_event ?hg (N := 12) ?hd (cs := #[.slice none 0 0, .int .i64 0]) (t := 26) ?hr ?_; (case hd => rfl); (case hg => rfl); (case hr => exact Z9); intro gb429 hg w14 hbox hb; have BK429 := ZM (hbox); have GW429 := ZM ((by rw [hg]; exact (zzS Z1) : w.heap.size ≤ gb429)); have GE429 := ZM ((by rw [hg]; exact (zzS Z1) : w.heap.size ≤ gb429)); replace HB := ZM (zzT Z1 hb); clear hb hbox hg; obtain ⟨hcz15_0, hcz15_1, hfz15_0, hfz15_1⟩ := Y2f BK429) | ((with_reducible refine gate_callee (f := 30) rfl ?_); refine goesL_ (some 34) rfl rfl Try.func30 (by kernel_rfl) rfl #[.int .i64 a0, .slice A1 l1.length c1, .slice A428_0 ((rd_T26 l3 x24_1).f0).length c428_0, .int .i64 a2] rfl Z2 ?_; (with_reducible refine (soft_Class.calls a0 _ _ l1 _ _ ((rd_T26 l3 x24_1).f0) a2 t430 t431 _ ?side1 ?side2 ?side3 ?side4 A11.out).mono ?_); (case side1 => exact Kd.C_below HR1.out Z13); (case side2 => exact HC1.out); (case side3 => exact Kd.C_below HR428_0.out Z13); (case side4 => exact HC428_0.out); rintro e w16 ⟨rfl, hb⟩; refine ⟨_, rfl, ?_⟩; replace BK429 := ZM (blk_below (g := gb429) (o := .cells #[.slice A428_0 ((rd_T26 l3 x24_1).f0).length c428_0, .int .i64 ((rd_T26 l3 x24_1).f1)] 26 (0, 0)) Z22 hb); replace HB := ZM (zzT Z13 hb); (try clear hb); (try clear hb2); (try clear hk); (try clear hi); obtain ⟨hcz17_0, hcz17_1, hfz17_0, hfz17_1⟩ := Y2f BK429))
   go_roundg k1
   case measure => have := HK1.out; omega
   case rel => exact ⟨(wrap64 (x8_1 + 1)), (wrap64 (x24_1 + 1)), Z4, Z4, H', ⟨by have := HK1.out; omega⟩, ⟨by repeat (first | (with_reducible first | exact HB.out | apply zzA | apply zzN | apply zzD | refine below_set ?_ GE429.out) | exact HB.out)⟩⟩
def soft_Right.f (a0 : Int) (l1 : List Int) (a2 : Int) (l3 : List S26) : Option (Int × Int) := if V64 l1 ∧ (∀ s ∈ l3, Sm64 s) ∧ l3.length ≤ 9223372036854775806 then some (rightF a0 l1 a2 (l3.map sm)) else none
theorem soft_Right.of (a0 : Int) (l1 : List Int) (a2 : Int) (l3 : List S26)  (h_ : V64 l1 ∧ (∀ s ∈ l3, Sm64 s) ∧ l3.length ≤ 9223372036854775806) : soft_Right.f a0 l1 a2 l3 = some (rightF a0 l1 a2 (l3.map sm)) := if_pos h_
theorem soft_RightP.loop (o : Int) (w : List Int) (f : Int) (l : List S26) (hw : V64 w) (hs : ∀ s ∈ l, Sm64 s) (hb : l.length ≤ 9223372036854775806) : ∀ (d i : Nat) (m : Int), d + i = l.length → 0 ≤ m → m ≤ i →
    soft_RightP.l0 (d + 1) o w f m l (l.length : Int) (i : Int) = some (countS o w f ((l.drop i).map sm) m) := by
  intro d
  induction d with
  | zero =>
    intro i m hd h0 h1
    rw [soft_RightP.l0, if_neg (by omega), List.drop_eq_nil_of_le (by omega)]
    rfl
  | succ d ih =>
    intro i m hd h0 h1
    have hi : i < l.length := by omega
    have hx := hs _ (List.getElem_mem hi)
    rw [soft_RightP.l0, if_pos (by omega), if_pos (by omega), if_pos (by omega), rd_sm hi, soft_Class.of _ _ _ _ ⟨hw, hx.1⟩, Option.bind_some, List.drop_eq_getElem_cons hi, List.map_cons, countS]
    by_cases c : (classS o w l[i].f0 f).2 = 0
    · rw [if_pos c, if_pos (show (classS o w (sm l[i]).1 f).2 = 0 from c)]
      by_cases c2 : (classS o w l[i].f0 f).1 = l[i].f1
      · rw [if_pos c2, if_pos (show (classS o w (sm l[i]).1 f).1 = (sm l[i]).2 from c2), wrap64_of (x := m + 1) (by unfold I64; omega), wrap64_of (by unfold I64; omega), show (i : Int) + 1 = ((i + 1 : Nat) : Int) by omega, ih (i + 1) _ (by omega) (by omega) (by omega)]
      · rw [if_neg c2, if_neg (show ¬ (classS o w (sm l[i]).1 f).1 = (sm l[i]).2 from c2), wrap64_of (by unfold I64; omega), show (i : Int) + 1 = ((i + 1 : Nat) : Int) by omega, ih (i + 1) _ (by omega) h0 (by omega)]
    · rw [if_neg c, if_neg (show ¬ (classS o w (sm l[i]).1 f).2 = 0 from c)]; rfl
theorem soft_RightP.is (o : Int) (w : List Int) (f : Int) (l : List S26) (hw : V64 w) (hs : ∀ s ∈ l, Sm64 s) (hb : l.length ≤ 9223372036854775806) : soft_RightP.f (l.length + 1) o w f l = some (rightF o w f (l.map sm)) := by
  unfold soft_RightP.f rightF soft_fits.f
  rw [Option.bind_some]
  by_cases c : fitS o w (l.map sm) = 0
  · have := soft_RightP.loop o w f l hw hs hb l.length 0 0 (by omega) (by omega) (by omega)
    rw [show ((0 : Nat) : Int) = 0 from rfl, List.drop_zero] at this
    rw [if_pos c, if_pos c, this]
  · rw [if_neg c, if_neg c]
theorem soft_Right.calls (a0 : Int) (A1 : Option Addr) (c1 : Nat) (l1 : List Int) (a2 : Int) (A3 : Option Addr) (c3 : Nat) (l3 : List (S26)) (r1 : Int) (r2 : Int) (w : World) (hr1 : Kd.C (Kd.int .i64) w A1 l1.length l1) (hc1 : l1.length ≤ c1) (hr3 : Kd.C k26 w A3 l3.length l3) (hc3 : l3.length ≤ c3) (h : soft_Right.f a0 l1 a2 l3 = some (r1, r2)) :
    Calls Try.prog 11 #[.int .i64 a0, .slice A1 l1.length c1, .int .i64 a2, .slice A3 l3.length c3] w fun e w' => e = .returned (.tuple #[.int .i64 r1, .int .i64 r2]) ∧ Below w.heap.size w w' := by
  unfold soft_Right.f at h
  split at h
  case isFalse => cases h
  rename_i hv
  exact soft_RightP.calls (l3.length + 1) a0 A1 c1 l1 a2 A3 c3 l3 r1 r2 w hr1 hc1 hr3 hc3 ((soft_RightP.is a0 l1 a2 l3 hv.1 hv.2.1 hv.2.2).trans h)


/-! ### thrumref15_ClassP: function 31 -/
def thrumref15_ClassP.f (a0 : Int) (l1 : List Int) (l2 : List Int) (a3 : Int) : Option (Int × Int) := (thrumref15_lines.f a0 l1 l2 a3).bind fun bt432 => (if bt432.2 = 0 then ((thrumref13_Best.f bt432.1).bind fun bt436 => (some (bt436.1, bt436.2))) else (some (0, bt432.2)))
set_option maxHeartbeats 8000000 in
set_option maxRecDepth 100000 in
theorem thrumref15_ClassP.calls (a0 : Int) (A1 : Option Addr) (c1 : Nat) (l1 : List Int) (A2 : Option Addr) (c2 : Nat) (l2 : List Int) (a3 : Int) (r1 : Int) (r2 : Int) (w : World) (hr1 : Kd.C (Kd.int .i64) w A1 l1.length l1) (hc1 : l1.length ≤ c1) (hr2 : Kd.C (Kd.int .i64) w A2 l2.length l2) (hc2 : l2.length ≤ c2) (h : thrumref15_ClassP.f a0 l1 l2 a3 = some (r1, r2)) :
  Calls Try.prog 31 #[.int .i64 a0, .slice A1 l1.length c1, .slice A2 l2.length c2, .int .i64 a3] w fun e w' => e = .returned (.tuple #[.int .i64 r1, .int .i64 r2]) ∧ Below w.heap.size w w' := by
 have HR1 := ZM hr1
 have HC1 := ZM hc1
 clear hr1 hc1
 have HR2 := ZM hr2
 have HC2 := ZM hc2
 clear hr2 hc2
 have HB := ZM (Below.refl w.heap.size w)
 have H : ((thrumref15_lines.f a0 l1 l2 a3).bind fun bt432 => (if bt432.2 = 0 then ((thrumref13_Best.f bt432.1).bind fun bt436 => (some (bt436.1, bt436.2))) else (some (0, bt432.2)))) = some (r1, r2) := h
 clear h
 replace H := Option.bind_eq_some_iff.mp H
 obtain ⟨⟨t432, t433⟩, A50, H⟩ := H
 replace H : (if t433 = 0 then ((thrumref13_Best.f t432).bind fun bt436 => (some (bt436.1, bt436.2))) else (some (0, t433))) = some (r1, r2) := H
 have A5 := ZM A50
 clear A50
 by_cases c6 : t433 = 0
 case neg =>
  rw [if_neg c6] at H
  have c6b0 : (t433 == 0) = false := beq_eq_false_iff_ne.mpr c6
  have c6b1 : (t433 != 0) = true := bne_iff_ne.mpr c6
  simp only [Option.some.injEq, Prod.mk.injEq] at H
  obtain ⟨rfl, rfl⟩ := H
  go_enter Try.func31, Try.ntmps31
  go_wp2_with (first | ((with_reducible refine gate_callee (f := 51) rfl ?_); refine goesL_ (some 17) rfl rfl Try.func51 (by kernel_rfl) rfl #[.int .i64 a0, .slice A1 l1.length c1, .slice A2 l2.length c2, .int .i64 a3] rfl Z2 ?_; (with_reducible refine (thrumref15_lines.calls a0 _ _ l1 _ _ l2 a3 t432 t433 _ ?side1 ?side2 ?side3 ?side4 A5.out).mono ?_); (case side1 => exact Z5); (case side2 => exact HC1.out); (case side3 => exact Z18); (case side4 => exact HC2.out); rintro e w10 ⟨v434, rfl, ho0, hb⟩; refine ⟨_, rfl, ?_⟩; have HO435 := ZM (Kd.R_lower ho0 (zzS Z1)); replace HB := ZM (zzT Z1 hb); (try clear hb); (try clear hb2); (try clear hk); (try clear hi); (try clear ho0)))
  go_ret2
  exact ⟨by first | rfl | (simp [errW_none, errW_some] <;> rfl) | (simp [*, errW_none, errW_some] <;> rfl), by repeat (first | (with_reducible first | exact HB.out | apply zzA | apply zzN | apply zzD) | exact HB.out)⟩
 rw [if_pos c6] at H
 have c6b0 : (t433 == 0) = true := beq_iff_eq.mpr c6
 have c6b1 : (t433 != 0) = false := bne_eq_false_iff_eq.mpr c6
 clear c6
 replace H := Option.bind_eq_some_iff.mp H
 obtain ⟨⟨t436, t437⟩, A70, H⟩ := H
 replace H : (some (t436, t437)) = some (r1, r2) := H
 have A7 := ZM A70
 clear A70
 simp only [Option.some.injEq, Prod.mk.injEq] at H
 obtain ⟨rfl, rfl⟩ := H
 go_enter Try.func31, Try.ntmps31
 go_wp2_with (first | ((with_reducible refine gate_callee (f := 51) rfl ?_); refine goesL_ (some 17) rfl rfl Try.func51 (by kernel_rfl) rfl #[.int .i64 a0, .slice A1 l1.length c1, .slice A2 l2.length c2, .int .i64 a3] rfl Z2 ?_; (with_reducible refine (thrumref15_lines.calls a0 _ _ l1 _ _ l2 a3 t432 t433 _ ?side1 ?side2 ?side3 ?side4 A5.out).mono ?_); (case side1 => exact Z5); (case side2 => exact HC1.out); (case side3 => exact Z18); (case side4 => exact HC2.out); rintro e w8 ⟨v434, rfl, ho0, hb⟩; refine ⟨_, rfl, ?_⟩; have HO435 := ZM (Kd.R_lower ho0 (zzS Z1)); replace HB := ZM (zzT Z1 hb); (try clear hb); (try clear hb2); (try clear hk); (try clear hi); (try clear ho0); obtain ⟨Ao9, co9, eo9⟩ := Kd.R_slice HO435.out; subst eo9) | ((with_reducible refine gate_callee (f := 52) rfl ?_); refine goesL_ (some 24) rfl rfl Try.func52 (by kernel_rfl) rfl #[.slice Ao9 t432.length co9] rfl Z2 ?_; (with_reducible refine (thrumref13_Best.calls _ _ t432 t436 t437 _ ?side1 ?side2 A7.out).mono ?_); (case side1 => repeat (first | exact (Kd.R_reads' HO435.out).2.2 | (with_reducible refine ccA ?_ _) | (with_reducible refine ccN ?_ _) | (with_reducible refine ccD ?_))); (case side2 => exact (Kd.R_reads' HO435.out).2.1); rintro e w' ⟨rfl, ⟨nd, rfl⟩⟩; refine ⟨_, rfl, ?_⟩))
 go_ret2
 exact ⟨by first | rfl | (simp [errW_none, errW_some] <;> rfl) | (simp [*, errW_none, errW_some] <;> rfl), by repeat (first | (with_reducible first | exact HB.out | apply zzA | apply zzN | apply zzD) | exact HB.out)⟩
def thrumref15_Class.f (a0 : Int) (l1 l2 : List Int) (a3 : Int) : Option (Int × Int) := if V64 l1 ∧ V64 l2 then some (classS a0 l1 l2 a3) else none
theorem thrumref15_Class.of (a0 : Int) (l1 l2 : List Int) (a3 : Int)  (h_ : V64 l1 ∧ V64 l2) : thrumref15_Class.f a0 l1 l2 a3 = some (classS a0 l1 l2 a3) := if_pos h_
theorem thrumref15_ClassP.is (a0 : Int) (l1 l2 : List Int) (a3 : Int) (h1 : V64 l1) (h2 : V64 l2) : thrumref15_ClassP.f a0 l1 l2 a3 = some (classS a0 l1 l2 a3) := by
  unfold thrumref15_ClassP.f classS
  rw [thrumref15_lines.of _ _ _ _ ⟨h1, h2⟩, Option.bind_some]
  by_cases c : (linesS a0 l1 l2 a3).2 = 0
  · rw [if_pos c, if_pos c]; rfl
  · rw [if_neg c, if_neg c]
theorem thrumref15_Class.calls (a0 : Int) (A1 : Option Addr) (c1 : Nat) (l1 : List Int) (A2 : Option Addr) (c2 : Nat) (l2 : List Int) (a3 : Int) (r1 : Int) (r2 : Int) (w : World) (hr1 : Kd.C (Kd.int .i64) w A1 l1.length l1) (hc1 : l1.length ≤ c1) (hr2 : Kd.C (Kd.int .i64) w A2 l2.length l2) (hc2 : l2.length ≤ c2) (h : thrumref15_Class.f a0 l1 l2 a3 = some (r1, r2)) :
    Calls Try.prog 31 #[.int .i64 a0, .slice A1 l1.length c1, .slice A2 l2.length c2, .int .i64 a3] w fun e w' => e = .returned (.tuple #[.int .i64 r1, .int .i64 r2]) ∧ Below w.heap.size w w' := by
  unfold thrumref15_Class.f at h
  split at h
  case isFalse => cases h
  rename_i hv
  exact thrumref15_ClassP.calls a0 A1 c1 l1 A2 c2 l2 a3 r1 r2 w hr1 hc1 hr2 hc2 ((thrumref15_ClassP.is a0 l1 l2 a3 hv.1 hv.2).trans h)


end Go.Proofs.Ytgilbdpbfmpcpaa.HS
