/- What Go functions do, each as a plain Lean function with the same answers, and the proof of it, in every world: printed by the session's driver over the kit's print, with texts by hand. -/
import Derived.Test.YtgilbdpbfmpcpaaHSx0
import Derived.Test.YtgilbdpbfmpcpaaHSx1
import Derived.Test.YtgilbdpbfmpcpaaHSx9
import Derived.Test.YtgilbdpbfmpcpaaHSx17
import Derived.Test.YtgilbdpbfmpcpaaMini
namespace Go.Proofs.Ytgilbdpbfmpcpaa.HS
open Go.RowKit Go.Proofs.YtgilbdpbfmpcpaaW.PrintWords Go.Proofs.YtgilbdpbfmpcpaaW.PrintLast Go.Proofs.YtgilbdpbfmpcpaaW.PrintMore
attribute [local go_sem] max2_int min2_int max_two min_two max_three min_three max_four min_four   -- for this text's walks alone
open Go.Proofs.Ytgilbdpbfmpcpaa.Sp
attribute [local go_sem] Go.Proofs.Ytgilbdpbfmpcpaa.Sp.u64_not
set_option linter.unusedVariables false
set_option linter.unusedSimpArgs false

/-! ### thrumref15_RightP: function 12 -/
def thrumref15_RightP.l0 : Nat → Int → List Int → Int → Int → List (S26) → Int → Int → Option (Int × Int)
 | 0, _, _, _, _, _, _, _ => none
 | k + 1, x0, x1, x2, x11, x23, x24, x25 => if x25 < x24 then (if 0 ≤ x25 then (if x25 < (x23.length : Int) then ((thrumref15_Class.f x0 x1 ((rd_T26 x23 x25).f0) x2).bind fun bt441 => (if bt441.2 = 0 then (if bt441.1 = ((rd_T26 x23 x25).f1) then (thrumref15_RightP.l0 k x0 x1 x2 (wrap64 (x11 + 1)) x23 x24 (wrap64 (x25 + 1))) else (thrumref15_RightP.l0 k x0 x1 x2 x11 x23 x24 (wrap64 (x25 + 1)))) else (some (0, bt441.2)))) else (none)) else (none)) else (some (x11, 0))
def thrumref15_RightP.f (k : Nat) (a0 : Int) (l1 : List Int) (a2 : Int) (l3 : List (S26)) : Option (Int × Int) := (thrumref15_fit.f a0 l1 l3).bind fun t438 => (if t438 = 0 then (thrumref15_RightP.l0 k a0 l1 a2 0 l3 (l3.length : Int) 0) else (some (0, t438)))
theorem thrumref15_RightP.mono_l : ∀ k, (∀ y0 y1 y2 y3 y4 y5 y6, LeO (thrumref15_RightP.l0 k y0 y1 y2 y3 y4 y5 y6) (thrumref15_RightP.l0 (k + 1) y0 y1 y2 y3 y4 y5 y6))
 | 0 => fun _ _ _ _ _ _ _ r h => by simp [thrumref15_RightP.l0] at h
 | k + 1 => by
  have ih0 := thrumref15_RightP.mono_l k
  ·
   intro y0 y1 y2 y3 y4 y5 y6
   unfold thrumref15_RightP.l0
   repeat' first
   | (with_reducible exact ih0 _ _ _ _ _ _ _)
   | (with_reducible exact LeO.refl _)
   | (with_reducible exact LeO.none _)
   | (with_reducible refine LeO.ite ?_ ?_)
   | (with_reducible refine LeO.bind ?_ (fun _ => ?_))
theorem thrumref15_RightP.mono : ∀ a0 a1 a2 a3 k, LeO (thrumref15_RightP.f k a0 a1 a2 a3) (thrumref15_RightP.f (k + 1) a0 a1 a2 a3) := by
 intro a0 a1 a2 a3 k
 have ih0 := thrumref15_RightP.mono_l k
 unfold thrumref15_RightP.f
 repeat' first
   | (with_reducible exact ih0 _ _ _ _ _ _ _)
   | (with_reducible exact LeO.refl _)
   | (with_reducible exact LeO.none _)
   | (with_reducible refine LeO.ite ?_ ?_)
   | (with_reducible refine LeO.bind ?_ (fun _ => ?_))
set_option maxHeartbeats 8000000 in
set_option maxRecDepth 100000 in
theorem thrumref15_RightP.calls (k : Nat) (a0 : Int) (A1 : Option Addr) (c1 : Nat) (l1 : List Int) (a2 : Int) (A3 : Option Addr) (c3 : Nat) (l3 : List (S26)) (r1 : Int) (r2 : Int) (w : World) (hr1 : Kd.C (Kd.int .i64) w A1 l1.length l1) (hc1 : l1.length ≤ c1) (hr3 : Kd.C k26 w A3 l3.length l3) (hc3 : l3.length ≤ c3) (h : thrumref15_RightP.f k a0 l1 a2 l3 = some (r1, r2)) :
  Calls Try.prog 12 #[.int .i64 a0, .slice A1 l1.length c1, .int .i64 a2, .slice A3 l3.length c3] w fun e w' => e = .returned (.tuple #[.int .i64 r1, .int .i64 r2]) ∧ Below w.heap.size w w' := by
 have hu26 := Try.underlying26
 have HR1 := ZM hr1
 have HC1 := ZM hc1
 clear hr1 hc1
 have HR3 := ZM hr3
 have HC3 := ZM hc3
 clear hr3 hc3
 have HB := ZM (Below.refl w.heap.size w)
 have H : ((thrumref15_fit.f a0 l1 l3).bind fun t438 => (if t438 = 0 then (thrumref15_RightP.l0 k a0 l1 a2 0 l3 (l3.length : Int) 0) else (some (0, t438)))) = some (r1, r2) := h
 clear h
 replace H := Option.bind_eq_some_iff.mp H
 obtain ⟨t438, A50, H⟩ := H
 replace H : (if t438 = 0 then (thrumref15_RightP.l0 k a0 l1 a2 0 l3 (l3.length : Int) 0) else (some (0, t438))) = some (r1, r2) := H
 have A5 := ZM A50
 clear A50
 by_cases c6 : t438 = 0
 case neg =>
  rw [if_neg c6] at H
  have c6b0 : (t438 == 0) = false := beq_eq_false_iff_ne.mpr c6
  have c6b1 : (t438 != 0) = true := bne_iff_ne.mpr c6
  simp only [Option.some.injEq, Prod.mk.injEq] at H
  obtain ⟨rfl, rfl⟩ := H
  go_enter Try.func12, Try.ntmps12
  go_wp2_with (first | ((with_reducible refine gate_callee (f := 26) rfl ?_); refine goesL_ (some 19) rfl rfl Try.func26 (by kernel_rfl) rfl #[.int .i64 a0, .slice A1 l1.length c1, .slice A3 l3.length c3] rfl Z2 ?_; (with_reducible refine (thrumref15_fit.calls a0 _ _ l1 _ _ l3 t438 _ ?side1 ?side2 ?side3 ?side4 A5.out).mono ?_); (case side1 => exact Z5); (case side2 => exact HC1.out); (case side3 => exact Z25); (case side4 => exact HC3.out); rintro e w25 ⟨rfl, hb⟩; refine ⟨_, rfl, ?_⟩; replace HB := ZM (zzT Z1 hb); (try clear hb); (try clear hb2); (try clear hk); (try clear hi)))
  go_ret2
  exact ⟨by first | rfl | (simp [errW_none, errW_some] <;> rfl) | (simp [*, errW_none, errW_some] <;> rfl), by repeat (first | (with_reducible first | exact HB.out | apply zzA | apply zzN | apply zzD) | exact HB.out)⟩
 rw [if_pos c6] at H
 have c6b0 : (t438 == 0) = true := beq_iff_eq.mpr c6
 have c6b1 : (t438 != 0) = false := bne_eq_false_iff_eq.mpr c6
 clear c6
 have H' := ZM H
 clear H
 go_enter Try.func12, Try.ntmps12
 go_wp2_with (first | ((with_reducible refine gate_callee (f := 26) rfl ?_); refine goesL_ (some 19) rfl rfl Try.func26 (by kernel_rfl) rfl #[.int .i64 a0, .slice A1 l1.length c1, .slice A3 l3.length c3] rfl Z2 ?_; (with_reducible refine (thrumref15_fit.calls a0 _ _ l1 _ _ l3 t438 _ ?side1 ?side2 ?side3 ?side4 A5.out).mono ?_); (case side1 => exact Z5); (case side2 => exact HC1.out); (case side3 => exact Z25); (case side4 => exact HC3.out); rintro e w7 ⟨rfl, hb⟩; refine ⟨_, rfl, ?_⟩; replace HB := ZM (zzT Z1 hb); (try clear hb); (try clear hb2); (try clear hk); (try clear hi)))
 go_loopg [11, 25] k (fun kq v11 v25 w' => ∃ (x11_1 : Int) (x25_1 : Int), v11 = .int .i64 x11_1 ∧ v25 = .int .i64 x25_1 ∧ Aside0 (thrumref15_RightP.l0 kq a0 l1 a2 x11_1 l3 (l3.length : Int) x25_1 = some (r1, r2)) ∧ Aside0 (kq ≤ k) ∧ Aside0 (Below w.heap.size w w'))
 case atStart => exact ⟨(0), (0), Z4, Z4, H', ⟨Nat.le_refl _⟩, ⟨by repeat (first | (with_reducible first | exact HB.out | apply zzA | apply zzN | apply zzD) | exact HB.out)⟩⟩
 case round =>
  clear H'
  try clear c1
  try clear c2
  try clear p2
  try clear c3
  try clear c6
  try clear c6b0
  try clear c6b1
  obtain ⟨x11_1, x25_1, rfl, rfl, HA, HK1, HB⟩ := hrel
  cases gk with
  | zero => exact absurd HA.out (by simp [thrumref15_RightP.l0])
  | succ k1 =>
   have H := HA.out
   clear HA
   simp only [thrumref15_RightP.l0] at H
   by_cases c8 : x25_1 < (l3.length : Int)
   case neg =>
    rw [if_neg c8] at H
    have c8b0 : decide (x25_1 < (l3.length : Int)) = false := decide_eq_false c8
    clear c8
    simp only [Option.some.injEq, Prod.mk.injEq] at H
    obtain ⟨rfl, rfl⟩ := H
    go_wp2
    go_ret2
    exact ⟨by first | rfl | (simp [errW_none, errW_some] <;> rfl) | (simp [*, errW_none, errW_some] <;> rfl), by repeat (first | (with_reducible first | exact HB.out | apply zzA | apply zzN | apply zzD) | exact HB.out)⟩
   rw [if_pos c8] at H
   have c8b0 : decide (x25_1 < (l3.length : Int)) = true := decide_eq_true c8
   clear c8
   by_cases c9 : 0 ≤ x25_1
   case neg =>
    rw [if_neg c9] at H
    exact absurd H (by simp)
   rw [if_pos c9] at H
   have c9b0 : decide (0 ≤ x25_1) = true := decide_eq_true c9
   clear c9
   by_cases c10 : x25_1 < (l3.length : Int)
   case neg =>
    rw [if_neg c10] at H
    exact absurd H (by simp)
   rw [if_pos c10] at H
   have c10b0 : decide (x25_1 < (l3.length : Int)) = true := decide_eq_true c10
   clear c10
   replace H := Option.bind_eq_some_iff.mp H
   obtain ⟨⟨t441, t442⟩, A110, H⟩ := H
   replace H : (if t442 = 0 then (if t441 = ((rd_T26 l3 x25_1).f1) then (thrumref15_RightP.l0 k1 a0 l1 a2 (wrap64 (x11_1 + 1)) l3 (l3.length : Int) (wrap64 (x25_1 + 1))) else (thrumref15_RightP.l0 k1 a0 l1 a2 x11_1 l3 (l3.length : Int) (wrap64 (x25_1 + 1)))) else (some (0, t442))) = some (r1, r2) := H
   have A11 := ZM A110
   clear A110
   by_cases c12 : t442 = 0
   case neg =>
    rw [if_neg c12] at H
    have c12b0 : (t442 == 0) = false := beq_eq_false_iff_ne.mpr c12
    have c12b1 : (t442 != 0) = true := bne_iff_ne.mpr c12
    simp only [Option.some.injEq, Prod.mk.injEq] at H
    obtain ⟨rfl, rfl⟩ := H
    have p439 : 0 ≤ (x25_1 : Int) := of_decide_eq_true Z3
    have q439 : x25_1 < (l3.length : Int) := of_decide_eq_true Z3
    obtain ⟨ad439, A439_0, c439_0, e439, hx439_0, hx439_1, hl439_0, hi439_0⟩ := at_T26 HR3.out x25_1 p439 q439
    cases e439
    replace hx439_0 := (HB.out.cell (World.block_lt_of_cell? w _ hx439_0)).trans hx439_0
    replace hx439_1 := (HB.out.cell (World.block_lt_of_cell? w _ hx439_1)).trans hx439_1
    have HR439_0 := ZM hi439_0
    have HC439_0 := ZM hl439_0
    clear hi439_0 hl439_0
    replace p439 := eq_true p439
    replace q439 := eq_true q439
    go_wp2_with (first | ((with_reducible refine gate_dst (N := 13) rfl ?_); refine box_event ?hg (N := 13) ?hd (cs := #[.slice none 0 0, .int .i64 0]) (t := 26) ?hr ?_; (case hd => rfl); (case hg => rfl); (case hr => exact Z9); intro gb440 hg w22 hbox hb; have BK440 := ZM (hbox); have GW440 := ZM ((by rw [hg]; exact (zzS Z1) : w.heap.size ≤ gb440)); have GE440 := ZM ((by rw [hg]; exact (zzS Z1) : w.heap.size ≤ gb440)); replace HB := ZM (zzT Z1 hb); clear hb hbox hg; obtain ⟨hcz23_0, hcz23_1, hfz23_0, hfz23_1⟩ := Y2f BK440) | ((with_reducible refine gate_callee (f := 31) rfl ?_); refine goesL_ (some 35) rfl rfl Try.func31 (by kernel_rfl) rfl #[.int .i64 a0, .slice A1 l1.length c1, .slice A439_0 ((rd_T26 l3 x25_1).f0).length c439_0, .int .i64 a2] rfl Z2 ?_; (with_reducible refine (thrumref15_Class.calls a0 _ _ l1 _ _ ((rd_T26 l3 x25_1).f0) a2 t441 t442 _ ?side1 ?side2 ?side3 ?side4 A11.out).mono ?_); (case side1 => exact Kd.C_below HR1.out Z14); (case side2 => exact HC1.out); (case side3 => exact Kd.C_below HR439_0.out Z14); (case side4 => exact HC439_0.out); rintro e w24 ⟨rfl, hb⟩; refine ⟨_, rfl, ?_⟩; replace BK440 := ZM (blk_below (g := gb440) (o := .cells #[.slice A439_0 ((rd_T26 l3 x25_1).f0).length c439_0, .int .i64 ((rd_T26 l3 x25_1).f1)] 26 (0, 0)) Z23 hb); replace HB := ZM (zzT Z14 hb); (try clear hb); (try clear hb2); (try clear hk); (try clear hi)))
    go_ret2
    exact ⟨by first | rfl | (simp [errW_none, errW_some] <;> rfl) | (simp [*, errW_none, errW_some] <;> rfl), by repeat (first | (with_reducible first | exact HB.out | apply zzA | apply zzN | apply zzD | refine below_set ?_ GE440.out) | exact HB.out)⟩
   rw [if_pos c12] at H
   have c12b0 : (t442 == 0) = true := beq_iff_eq.mpr c12
   have c12b1 : (t442 != 0) = false := bne_eq_false_iff_eq.mpr c12
   clear c12
   by_cases c13 : t441 = ((rd_T26 l3 x25_1).f1)
   case neg =>
    rw [if_neg c13] at H
    have c13b0 : (t441 == ((rd_T26 l3 x25_1).f1)) = false := beq_eq_false_iff_ne.mpr c13
    have c13b1 : (t441 != ((rd_T26 l3 x25_1).f1)) = true := bne_iff_ne.mpr c13
    have H' := ZM H
    clear H
    have p439 : 0 ≤ (x25_1 : Int) := of_decide_eq_true Z3
    have q439 : x25_1 < (l3.length : Int) := of_decide_eq_true Z3
    obtain ⟨ad439, A439_0, c439_0, e439, hx439_0, hx439_1, hl439_0, hi439_0⟩ := at_T26 HR3.out x25_1 p439 q439
    cases e439
    replace hx439_0 := (HB.out.cell (World.block_lt_of_cell? w _ hx439_0)).trans hx439_0
    replace hx439_1 := (HB.out.cell (World.block_lt_of_cell? w _ hx439_1)).trans hx439_1
    have HR439_0 := ZM hi439_0
    have HC439_0 := ZM hl439_0
    clear hi439_0 hl439_0
    replace p439 := eq_true p439
    replace q439 := eq_true q439
    go_wp2_with (first | ((with_reducible refine gate_dst (N := 13) rfl ?_); refine box_event ?hg (N := 13) ?hd (cs := #[.slice none 0 0, .int .i64 0]) (t := 26) ?hr ?_; (case hd => rfl); (case hg => rfl); (case hr => exact Z9); intro gb440 hg w18 hbox hb; have BK440 := ZM (hbox); have GW440 := ZM ((by rw [hg]; exact (zzS Z1) : w.heap.size ≤ gb440)); have GE440 := ZM ((by rw [hg]; exact (zzS Z1) : w.heap.size ≤ gb440)); replace HB := ZM (zzT Z1 hb); clear hb hbox hg; obtain ⟨hcz19_0, hcz19_1, hfz19_0, hfz19_1⟩ := Y2f BK440) | ((with_reducible refine gate_callee (f := 31) rfl ?_); refine goesL_ (some 35) rfl rfl Try.func31 (by kernel_rfl) rfl #[.int .i64 a0, .slice A1 l1.length c1, .slice A439_0 ((rd_T26 l3 x25_1).f0).length c439_0, .int .i64 a2] rfl Z2 ?_; (with_reducible refine (thrumref15_Class.calls a0 _ _ l1 _ _ ((rd_T26 l3 x25_1).f0) a2 t441 t442 _ ?side1 ?side2 ?side3 ?side4 A11.out).mono ?_); (case side1 => exact Kd.C_below HR1.out Z14); (case side2 => exact HC1.out); (case side3 => exact Kd.C_below HR439_0.out Z14); (case side4 => exact HC439_0.out); rintro e w20 ⟨rfl, hb⟩; refine ⟨_, rfl, ?_⟩; replace BK440 := ZM (blk_below (g := gb440) (o := .cells #[.slice A439_0 ((rd_T26 l3 x25_1).f0).length c439_0, .int .i64 ((rd_T26 l3 x25_1).f1)] 26 (0, 0)) Z23 hb); replace HB := ZM (zzT Z14 hb); (try clear hb); (try clear hb2); (try clear hk); (try clear hi); obtain ⟨hcz21_0, hcz21_1, hfz21_0, hfz21_1⟩ := Y2f BK440))
    go_roundg k1
    case measure => have := HK1.out; omega
    case rel => exact ⟨(x11_1), (wrap64 (x25_1 + 1)), Z4, Z4, H', ⟨by have := HK1.out; omega⟩, ⟨by repeat (first | (with_reducible first | exact HB.out | apply zzA | apply zzN | apply zzD | refine below_set ?_ GE440.out) | exact HB.out)⟩⟩
   rw [if_pos c13] at H
   have c13b0 : (t441 == ((rd_T26 l3 x25_1).f1)) = true := beq_iff_eq.mpr c13
   have c13b1 : (t441 != ((rd_T26 l3 x25_1).f1)) = false := bne_eq_false_iff_eq.mpr c13
   clear c13
   have H' := ZM H
   clear H
   have p439 : 0 ≤ (x25_1 : Int) := of_decide_eq_true Z3
   have q439 : x25_1 < (l3.length : Int) := of_decide_eq_true Z3
   obtain ⟨ad439, A439_0, c439_0, e439, hx439_0, hx439_1, hl439_0, hi439_0⟩ := at_T26 HR3.out x25_1 p439 q439
   cases e439
   replace hx439_0 := (HB.out.cell (World.block_lt_of_cell? w _ hx439_0)).trans hx439_0
   replace hx439_1 := (HB.out.cell (World.block_lt_of_cell? w _ hx439_1)).trans hx439_1
   have HR439_0 := ZM hi439_0
   have HC439_0 := ZM hl439_0
   clear hi439_0 hl439_0
   replace p439 := eq_true p439
   replace q439 := eq_true q439
   go_wp2_with (first | ((with_reducible refine gate_dst (N := 13) rfl ?_); refine box_event ?hg (N := 13) ?hd (cs := #[.slice none 0 0, .int .i64 0]) (t := 26) ?hr ?_; (case hd => rfl); (case hg => rfl); (case hr => exact Z9); intro gb440 hg w14 hbox hb; have BK440 := ZM (hbox); have GW440 := ZM ((by rw [hg]; exact (zzS Z1) : w.heap.size ≤ gb440)); have GE440 := ZM ((by rw [hg]; exact (zzS Z1) : w.heap.size ≤ gb440)); replace HB := ZM (zzT Z1 hb); clear hb hbox hg; obtain ⟨hcz15_0, hcz15_1, hfz15_0, hfz15_1⟩ := Y2f BK440) | ((with_reducible refine gate_callee (f := 31) rfl ?_); refine goesL_ (some 35) rfl rfl Try.func31 (by kernel_rfl) rfl #[.int .i64 a0, .slice A1 l1.length c1, .slice A439_0 ((rd_T26 l3 x25_1).f0).length c439_0, .int .i64 a2] rfl Z2 ?_; (with_reducible refine (thrumref15_Class.calls a0 _ _ l1 _ _ ((rd_T26 l3 x25_1).f0) a2 t441 t442 _ ?side1 ?side2 ?side3 ?side4 A11.out).mono ?_); (case side1 => exact Kd.C_below HR1.out Z14); (case side2 => exact HC1.out); (case side3 => exact Kd.C_below HR439_0.out Z14); (case side4 => exact HC439_0.out); rintro e w16 ⟨rfl, hb⟩; refine ⟨_, rfl, ?_⟩; replace BK440 := ZM (blk_below (g := gb440) (o := .cells #[.slice A439_0 ((rd_T26 l3 x25_1).f0).length c439_0, .int .i64 ((rd_T26 l3 x25_1).f1)] 26 (0, 0)) Z23 hb); replace HB := ZM (zzT Z14 hb); (try clear hb); (try clear hb2); (try clear hk); (try clear hi); obtain ⟨hcz17_0, hcz17_1, hfz17_0, hfz17_1⟩ := Y2f BK440))
   go_roundg k1
   case measure => have := HK1.out; omega
   case rel => exact ⟨(wrap64 (x11_1 + 1)), (wrap64 (x25_1 + 1)), Z4, Z4, H', ⟨by have := HK1.out; omega⟩, ⟨by repeat (first | (with_reducible first | exact HB.out | apply zzA | apply zzN | apply zzD | refine below_set ?_ GE440.out) | exact HB.out)⟩⟩
def thrumref15_Right.f (a0 : Int) (l1 : List Int) (a2 : Int) (l3 : List S26) : Option (Int × Int) := if V64 l1 ∧ (∀ s ∈ l3, Sm64 s) ∧ l3.length ≤ 9223372036854775806 then some (rightF a0 l1 a2 (l3.map sm)) else none
theorem thrumref15_Right.of (a0 : Int) (l1 : List Int) (a2 : Int) (l3 : List S26)  (h_ : V64 l1 ∧ (∀ s ∈ l3, Sm64 s) ∧ l3.length ≤ 9223372036854775806) : thrumref15_Right.f a0 l1 a2 l3 = some (rightF a0 l1 a2 (l3.map sm)) := if_pos h_
theorem thrumref15_RightP.loop (o : Int) (w : List Int) (f : Int) (l : List S26) (hw : V64 w) (hs : ∀ s ∈ l, Sm64 s) (hb : l.length ≤ 9223372036854775806) : ∀ (d i : Nat) (m : Int), d + i = l.length → 0 ≤ m → m ≤ i →
    thrumref15_RightP.l0 (d + 1) o w f m l (l.length : Int) (i : Int) = some (countS o w f ((l.drop i).map sm) m) := by
  intro d
  induction d with
  | zero =>
    intro i m hd h0 h1
    rw [thrumref15_RightP.l0, if_neg (by omega), List.drop_eq_nil_of_le (by omega)]
    rfl
  | succ d ih =>
    intro i m hd h0 h1
    have hi : i < l.length := by omega
    have hx := hs _ (List.getElem_mem hi)
    rw [thrumref15_RightP.l0, if_pos (by omega), if_pos (by omega), if_pos (by omega), rd_sm hi, thrumref15_Class.of _ _ _ _ ⟨hw, hx.1⟩, Option.bind_some, List.drop_eq_getElem_cons hi, List.map_cons, countS]
    by_cases c : (classS o w l[i].f0 f).2 = 0
    · rw [if_pos c, if_pos (show (classS o w (sm l[i]).1 f).2 = 0 from c)]
      by_cases c2 : (classS o w l[i].f0 f).1 = l[i].f1
      · rw [if_pos c2, if_pos (show (classS o w (sm l[i]).1 f).1 = (sm l[i]).2 from c2), wrap64_of (x := m + 1) (by unfold I64; omega), wrap64_of (by unfold I64; omega), show (i : Int) + 1 = ((i + 1 : Nat) : Int) by omega, ih (i + 1) _ (by omega) (by omega) (by omega)]
      · rw [if_neg c2, if_neg (show ¬ (classS o w (sm l[i]).1 f).1 = (sm l[i]).2 from c2), wrap64_of (by unfold I64; omega), show (i : Int) + 1 = ((i + 1 : Nat) : Int) by omega, ih (i + 1) _ (by omega) h0 (by omega)]
    · rw [if_neg c, if_neg (show ¬ (classS o w (sm l[i]).1 f).2 = 0 from c)]; rfl
theorem thrumref15_RightP.is (o : Int) (w : List Int) (f : Int) (l : List S26) (hw : V64 w) (hs : ∀ s ∈ l, Sm64 s) (hb : l.length ≤ 9223372036854775806) : thrumref15_RightP.f (l.length + 1) o w f l = some (rightF o w f (l.map sm)) := by
  unfold thrumref15_RightP.f rightF thrumref15_fit.f
  rw [Option.bind_some]
  by_cases c : fitS o w (l.map sm) = 0
  · have := thrumref15_RightP.loop o w f l hw hs hb l.length 0 0 (by omega) (by omega) (by omega)
    rw [show ((0 : Nat) : Int) = 0 from rfl, List.drop_zero] at this
    rw [if_pos c, if_pos c, this]
  · rw [if_neg c, if_neg c]
theorem thrumref15_Right.calls (a0 : Int) (A1 : Option Addr) (c1 : Nat) (l1 : List Int) (a2 : Int) (A3 : Option Addr) (c3 : Nat) (l3 : List (S26)) (r1 : Int) (r2 : Int) (w : World) (hr1 : Kd.C (Kd.int .i64) w A1 l1.length l1) (hc1 : l1.length ≤ c1) (hr3 : Kd.C k26 w A3 l3.length l3) (hc3 : l3.length ≤ c3) (h : thrumref15_Right.f a0 l1 a2 l3 = some (r1, r2)) :
    Calls Try.prog 12 #[.int .i64 a0, .slice A1 l1.length c1, .int .i64 a2, .slice A3 l3.length c3] w fun e w' => e = .returned (.tuple #[.int .i64 r1, .int .i64 r2]) ∧ Below w.heap.size w w' := by
  unfold thrumref15_Right.f at h
  split at h
  case isFalse => cases h
  rename_i hv
  exact thrumref15_RightP.calls (l3.length + 1) a0 A1 c1 l1 a2 A3 c3 l3 r1 r2 w hr1 hc1 hr3 hc3 ((thrumref15_RightP.is a0 l1 a2 l3 hv.1 hv.2.1 hv.2.2).trans h)
























































































































































































































































































































































































































































































































































































































































































































































































































































































































































































































































































































































end Go.Proofs.Ytgilbdpbfmpcpaa.HS
