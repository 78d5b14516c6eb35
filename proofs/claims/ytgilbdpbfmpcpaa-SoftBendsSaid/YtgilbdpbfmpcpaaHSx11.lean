/- What Go functions do, each as a plain Lean function with the same answers, and the proof of it, in every world: printed by the session's driver over the kit's print, with texts by hand. -/
import Derived.Test.YtgilbdpbfmpcpaaHSx0
import Derived.Test.YtgilbdpbfmpcpaaHSx9
import Derived.Test.YtgilbdpbfmpcpaaHSx10
import Derived.Test.YtgilbdpbfmpcpaaMini
namespace Go.Proofs.Ytgilbdpbfmpcpaa.HS
open Go.RowKit Go.Proofs.YtgilbdpbfmpcpaaW.PrintWords Go.Proofs.YtgilbdpbfmpcpaaW.PrintLast Go.Proofs.YtgilbdpbfmpcpaaW.PrintMore
attribute [local go_sem] max2_int min2_int max_two min_two max_three min_three max_four min_four   -- for this text's walks alone
open Go.Proofs.Ytgilbdpbfmpcpaa.Sp
attribute [local go_sem] Go.Proofs.Ytgilbdpbfmpcpaa.Sp.u64_not
set_option linter.unusedVariables false
set_option linter.unusedSimpArgs false

/-! ### thrumref15_linesP: function 51 -/
mutual
def thrumref15_linesP.j0 : Nat → List Int → Int → List (List Int) → Bool → Option (List Int × Int)
 | 0, _, _, _, _ => none
 | k + 1, x2, x3, x10, x39 => if x39 = true then (some (([] : List Int), 1)) else (thrumref15_linesP.l0 k x2 x3 ([] : List Int) x10 (x10.length : Int) 0)
def thrumref15_linesP.l0 : Nat → List Int → Int → List Int → List (List Int) → Int → Int → Option (List Int × Int)
 | 0, _, _, _, _, _, _ => none
 | k + 1, x2, x3, x12, x40, x41, x42 => if x42 < x41 then (if 0 ≤ x42 then (if x42 < (x40.length : Int) then ((thrumref14_Tell.f (rd_L1 x40 x42) x2 x3).bind fun bt307 => (if bt307.2 = 0 then (if x12.length < 17592186044416 then (thrumref15_linesP.l0 k x2 x3 (x12 ++ [bt307.1]) x40 x41 (wrap64 (x42 + 1))) else (none)) else (some (([] : List Int), bt307.2)))) else (none)) else (none)) else (some (x12, 0))
end
def thrumref15_linesP.f (k : Nat) (a0 : Int) (l1 : List Int) (l2 : List Int) (a3 : Int) : Option (List Int × Int) := (thrumref15_Rows.f a0 l1).bind fun bt301 => (if bt301.2 = 0 then (if 0 < (bt301.1.length : Int) then (if ((rd_L1 bt301.1 0).length : Int) = (wrap64 ((l2.length : Int) + 1)) then (if a3 < 0 then (thrumref15_linesP.j0 k l2 a3 bt301.1 true) else (thrumref15_linesP.j0 k l2 a3 bt301.1 (decide (a3 > 30)))) else (some (([] : List Int), 4))) else (none)) else (some (([] : List Int), bt301.2)))
theorem thrumref15_linesP.mono_l : ∀ k, (∀ y0 y1 y2 y3, LeO (thrumref15_linesP.j0 k y0 y1 y2 y3) (thrumref15_linesP.j0 (k + 1) y0 y1 y2 y3)) ∧ (∀ y0 y1 y2 y3 y4 y5, LeO (thrumref15_linesP.l0 k y0 y1 y2 y3 y4 y5) (thrumref15_linesP.l0 (k + 1) y0 y1 y2 y3 y4 y5))
 | 0 => ⟨fun _ _ _ _ r h => by simp [thrumref15_linesP.j0] at h, fun _ _ _ _ _ _ r h => by simp [thrumref15_linesP.l0] at h⟩
 | k + 1 => by
  obtain ⟨ih0, ih1⟩ := thrumref15_linesP.mono_l k
  refine ⟨?_, ?_⟩
  ·
   intro y0 y1 y2 y3
   unfold thrumref15_linesP.j0
   repeat' first
   | (with_reducible exact ih0 _ _ _ _)
   | (with_reducible exact ih1 _ _ _ _ _ _)
   | (with_reducible exact LeO.refl _)
   | (with_reducible exact LeO.none _)
   | (with_reducible refine LeO.ite ?_ ?_)
   | (with_reducible refine LeO.bind ?_ (fun _ => ?_))
  ·
   intro y0 y1 y2 y3 y4 y5
   unfold thrumref15_linesP.l0
   repeat' first
   | (with_reducible exact ih0 _ _ _ _)
   | (with_reducible exact ih1 _ _ _ _ _ _)
   | (with_reducible exact LeO.refl _)
   | (with_reducible exact LeO.none _)
   | (with_reducible refine LeO.ite ?_ ?_)
   | (with_reducible refine LeO.bind ?_ (fun _ => ?_))
theorem thrumref15_linesP.mono : ∀ a0 a1 a2 a3 k, LeO (thrumref15_linesP.f k a0 a1 a2 a3) (thrumref15_linesP.f (k + 1) a0 a1 a2 a3) := by
 intro a0 a1 a2 a3 k
 obtain ⟨ih0, ih1⟩ := thrumref15_linesP.mono_l k
 unfold thrumref15_linesP.f
 repeat' first
   | (with_reducible exact ih0 _ _ _ _)
   | (with_reducible exact ih1 _ _ _ _ _ _)
   | (with_reducible exact LeO.refl _)
   | (with_reducible exact LeO.none _)
   | (with_reducible refine LeO.ite ?_ ?_)
   | (with_reducible refine LeO.bind ?_ (fun _ => ?_))
set_option maxHeartbeats 8000000 in
set_option maxRecDepth 100000 in
theorem thrumref15_linesP.calls (k : Nat) (a0 : Int) (A1 : Option Addr) (c1 : Nat) (l1 : List Int) (A2 : Option Addr) (c2 : Nat) (l2 : List Int) (a3 : Int) (r1 : List Int) (r2 : Int) (w : World) (hr1 : Kd.C (Kd.int .i64) w A1 l1.length l1) (hc1 : l1.length ≤ c1) (hr2 : Kd.C (Kd.int .i64) w A2 l2.length l2) (hc2 : l2.length ≤ c2) (h : thrumref15_linesP.f k a0 l1 l2 a3 = some (r1, r2)) :
  Calls Try.prog 51 #[.int .i64 a0, .slice A1 l1.length c1, .slice A2 l2.length c2, .int .i64 a3] w fun e w' => ∃ v0_ : Value, e = .returned (.tuple #[v0_, .int .i64 r2]) ∧ Kd.R (Kd.int .i64) 2 w' w.heap.size (fun _ => True) v0_ r1 ∧ Below w.heap.size w w' := by
 have HR1 := ZM hr1
 have HC1 := ZM hc1
 clear hr1 hc1
 have HR2 := ZM hr2
 have HC2 := ZM hc2
 clear hr2 hc2
 have HB := ZM (Below.refl w.heap.size w)
 have H : ((thrumref15_Rows.f a0 l1).bind fun bt301 => (if bt301.2 = 0 then (if 0 < (bt301.1.length : Int) then (if ((rd_L1 bt301.1 0).length : Int) = (wrap64 ((l2.length : Int) + 1)) then (if a3 < 0 then (thrumref15_linesP.j0 k l2 a3 bt301.1 true) else (thrumref15_linesP.j0 k l2 a3 bt301.1 (decide (a3 > 30)))) else (some (([] : List Int), 4))) else (none)) else (some (([] : List Int), bt301.2)))) = some (r1, r2) := h
 clear h
 replace H := Option.bind_eq_some_iff.mp H
 obtain ⟨⟨t301, t302⟩, A50, H⟩ := H
 replace H : (if t302 = 0 then (if 0 < (t301.length : Int) then (if ((rd_L1 t301 0).length : Int) = (wrap64 ((l2.length : Int) + 1)) then (if a3 < 0 then (thrumref15_linesP.j0 k l2 a3 t301 true) else (thrumref15_linesP.j0 k l2 a3 t301 (decide (a3 > 30)))) else (some (([] : List Int), 4))) else (none)) else (some (([] : List Int), t302))) = some (r1, r2) := H
 have A5 := ZM A50
 clear A50
 by_cases c6 : t302 = 0
 case neg =>
  rw [if_neg c6] at H
  have c6b0 : (t302 == 0) = false := beq_eq_false_iff_ne.mpr c6
  have c6b1 : (t302 != 0) = true := bne_iff_ne.mpr c6
  simp only [Option.some.injEq, Prod.mk.injEq] at H
  obtain ⟨rfl, rfl⟩ := H
  go_enter Try.func51, Try.ntmps51
  go_wp2_with (first | ((with_reducible refine gate_callee (f := 46) rfl ?_); refine goesL_ (some 20) rfl rfl Try.func46 (by kernel_rfl) rfl #[.int .i64 a0, .slice A1 l1.length c1] rfl Z2 ?_; (with_reducible refine (thrumref15_Rows.calls a0 _ _ l1 t301 t302 _ ?side1 ?side2 A5.out).mono ?_); (case side1 => exact Z5); (case side2 => exact HC1.out); rintro e w25 ⟨v303, rfl, ho0, hb⟩; refine ⟨_, rfl, ?_⟩; have HO304 := ZM (Kd.S_lower ho0 (zzS Z1)); replace HB := ZM (zzT Z1 hb); (try clear hb); (try clear hb2); (try clear hk); (try clear hi); (try clear ho0)))
  go_ret2
  exact ⟨_, by first | rfl | (simp [errW_none, errW_some] <;> rfl) | (simp [*, errW_none, errW_some] <;> rfl), by first | exact Kd.R_nil _ _ _ _ _ | exact Kd.N_nil _ _ _ _ _ | exact Kd.V_nil _ _ _ _ _ | exact Kd.Q_nil _ _ _ _ _ | exact Kd.S_nil _ _ _ _ _, by repeat (first | (with_reducible first | exact HB.out | apply zzA | apply zzN | apply zzD) | exact HB.out)⟩
 rw [if_pos c6] at H
 have c6b0 : (t302 == 0) = true := beq_iff_eq.mpr c6
 have c6b1 : (t302 != 0) = false := bne_eq_false_iff_eq.mpr c6
 clear c6
 by_cases c7 : 0 < (t301.length : Int)
 case neg =>
  rw [if_neg c7] at H
  exact absurd H (by simp)
 rw [if_pos c7] at H
 have c7b0 : decide (0 < (t301.length : Int)) = true := decide_eq_true c7
 have c7b1 : decide (0 < t301.length) = true := decide_eq_true (by omega)
 clear c7
 by_cases c8 : ((rd_L1 t301 0).length : Int) = (wrap64 ((l2.length : Int) + 1))
 case neg =>
  rw [if_neg c8] at H
  have c8b0 : (((rd_L1 t301 0).length : Int) == (wrap64 ((l2.length : Int) + 1))) = false := beq_eq_false_iff_ne.mpr c8
  have c8b1 : (((rd_L1 t301 0).length : Int) != (wrap64 ((l2.length : Int) + 1))) = true := bne_iff_ne.mpr c8
  simp only [Option.some.injEq, Prod.mk.injEq] at H
  obtain ⟨rfl, rfl⟩ := H
  go_enter Try.func51, Try.ntmps51
  go_wp2_with (first | ((with_reducible refine gate_callee (f := 46) rfl ?_); refine goesL_ (some 20) rfl rfl Try.func46 (by kernel_rfl) rfl #[.int .i64 a0, .slice A1 l1.length c1] rfl Z2 ?_; (with_reducible refine (thrumref15_Rows.calls a0 _ _ l1 t301 t302 _ ?side1 ?side2 A5.out).mono ?_); (case side1 => exact Z5); (case side2 => exact HC1.out); rintro e w23 ⟨v303, rfl, ho0, hb⟩; refine ⟨_, rfl, ?_⟩; have HO304 := ZM (Kd.S_lower ho0 (zzS Z1)); replace HB := ZM (zzT Z1 hb); (try clear hb); (try clear hb2); (try clear hk); (try clear hi); (try clear ho0); obtain ⟨Ao24, co24, eo24⟩ := Kd.S_slice HO304.out; subst eo24; have p305 : 0 ≤ (0 : Int) := (by omega); have q305 : 0 < (t301.length : Int) := of_decide_eq_true Z3; obtain ⟨ad305, A305_0, c305_0, e305, hx305_0, hl305_0, hi305_0⟩ := at_L1 (Kd.S_reads' HO304.out).2.2 0 p305 q305; cases e305; obtain ⟨ce305, hce305, hMe305, hcc305⟩ := Kd.S_get HO304.out [] 0 p305 (by first | exact q305 | exact of_decide_eq_true Z3 | (have e_ := (Kd.S_reads' HO304.out).1; omega)); obtain ⟨ve305_0, rfl, ge305_0⟩ := hMe305; have hv305_0 := hcc305 0 _ rfl; rw [Nat.add_zero, show ((Kd.slice 2 (Kd.int .i64))).sz = 1 from rfl, Nat.mul_one] at hv305_0; replace hv305_0 := Option.some.inj (hv305_0.symm.trans hx305_0); rw [hv305_0] at ge305_0; have HL305_0 := ZM (show Kd.R (Kd.int .i64) 2 _ _ _ _ (rd_L1 t301 0) from ge305_0); clear hv305_0 ge305_0; clear hcc305 hce305; have qi305 : (0 < t301.length) = True := eq_true (by omega); (try rw [show ((0 : Int)).toNat = 0 from rfl] at hx305_0); (try rw [Addr.add_zero'] at hx305_0); have HR305_0 := ZM hi305_0; have HC305_0 := ZM hl305_0; clear hi305_0 hl305_0; replace p305 := eq_true p305; replace q305 := eq_true q305))
  go_ret2
  exact ⟨_, by first | rfl | (simp [errW_none, errW_some] <;> rfl) | (simp [*, errW_none, errW_some] <;> rfl), by first | exact Kd.R_nil _ _ _ _ _ | exact Kd.N_nil _ _ _ _ _ | exact Kd.V_nil _ _ _ _ _ | exact Kd.Q_nil _ _ _ _ _ | exact Kd.S_nil _ _ _ _ _, by repeat (first | (with_reducible first | exact HB.out | apply zzA | apply zzN | apply zzD) | exact HB.out)⟩
 rw [if_pos c8] at H
 have c8b0 : (((rd_L1 t301 0).length : Int) == (wrap64 ((l2.length : Int) + 1))) = true := beq_iff_eq.mpr c8
 have c8b1 : (((rd_L1 t301 0).length : Int) != (wrap64 ((l2.length : Int) + 1))) = false := bne_eq_false_iff_eq.mpr c8
 clear c8
 have HC9 := ZM H
 clear H
 go_enter Try.func51, Try.ntmps51
 go_upto_region 6 with (first | ((with_reducible refine gate_callee (f := 46) rfl ?_); refine goesL_ (some 20) rfl rfl Try.func46 (by kernel_rfl) rfl #[.int .i64 a0, .slice A1 l1.length c1] rfl Z2 ?_; (with_reducible refine (thrumref15_Rows.calls a0 _ _ l1 t301 t302 _ ?side1 ?side2 A5.out).mono ?_); (case side1 => exact Z5); (case side2 => exact HC1.out); rintro e w10 ⟨v303, rfl, ho0, hb⟩; refine ⟨_, rfl, ?_⟩; have HO304 := ZM (Kd.S_lower ho0 (zzS Z1)); replace HB := ZM (zzT Z1 hb); (try clear hb); (try clear hb2); (try clear hk); (try clear hi); (try clear ho0); obtain ⟨Ao11, co11, eo11⟩ := Kd.S_slice HO304.out; subst eo11; have p305 : 0 ≤ (0 : Int) := (by omega); have q305 : 0 < (t301.length : Int) := of_decide_eq_true Z3; obtain ⟨ad305, A305_0, c305_0, e305, hx305_0, hl305_0, hi305_0⟩ := at_L1 (Kd.S_reads' HO304.out).2.2 0 p305 q305; cases e305; obtain ⟨ce305, hce305, hMe305, hcc305⟩ := Kd.S_get HO304.out [] 0 p305 (by first | exact q305 | exact of_decide_eq_true Z3 | (have e_ := (Kd.S_reads' HO304.out).1; omega)); obtain ⟨ve305_0, rfl, ge305_0⟩ := hMe305; have hv305_0 := hcc305 0 _ rfl; rw [Nat.add_zero, show ((Kd.slice 2 (Kd.int .i64))).sz = 1 from rfl, Nat.mul_one] at hv305_0; replace hv305_0 := Option.some.inj (hv305_0.symm.trans hx305_0); rw [hv305_0] at ge305_0; have HL305_0 := ZM (show Kd.R (Kd.int .i64) 2 _ _ _ _ (rd_L1 t301 0) from ge305_0); clear hv305_0 ge305_0; clear hcc305 hce305; have qi305 : (0 < t301.length) = True := eq_true (by omega); (try rw [show ((0 : Int)).toNat = 0 from rfl] at hx305_0); (try rw [Addr.add_zero'] at hx305_0); have HR305_0 := ZM hi305_0; have HC305_0 := ZM hl305_0; clear hi305_0 hl305_0; replace p305 := eq_true p305; replace q305 := eq_true q305))
 (try simp only [Act.put, Zt])
 go_cut [39] (fun v39 wc => ∃ (kq : Nat) (x39_8 : Bool), v39 = .bool x39_8 ∧ Aside0 (thrumref15_linesP.j0 kq l2 a3 t301 x39_8 = some (r1, r2)) ∧ Aside0 (kq ≤ k) ∧ Aside0 (Kd.S (Kd.slice 2 (Kd.int .i64)) 22 wc w.heap.size (fun _ => True) (.slice (some ad305) t301.length co11) t301) ∧ Aside0 (Kd.C (Kd.int .i64) wc A305_0 (rd_L1 t301 0).length (rd_L1 t301 0)) ∧ Aside0 (Below w.heap.size w wc))
 case first =>
  have H := HC9.out
  clear HC9
  by_cases c12 : a3 < 0
  case neg =>
   rw [if_neg c12] at H
   have c12b0 : decide (a3 < 0) = false := decide_eq_false c12
   clear c12
   (first | rw [c12b0] | (simp only [i64_w, i32_w]; rw [c12b0]) | skip)
   have H' := ZM H
   clear H
   go_wp2
   go_meet
   case rel => exact ⟨_, (decide (a3 > 30)), Z4, H', ⟨by first | omega | exact Nat.le_refl _⟩, ⟨by (with_reducible repeat (first | apply Kd.S_alloc | apply Kd.S_drewN | apply Kd.S_drew)); exact HO304.out⟩, ⟨by repeat (first | (with_reducible exact HR305_0.out) | (with_reducible refine ccA ?_ _) | (with_reducible refine ccN ?_ _) | (with_reducible refine ccD ?_) | exact HR305_0.out)⟩, ⟨by repeat (first | (with_reducible first | exact HB.out | apply zzA | apply zzN | apply zzD) | exact HB.out)⟩⟩
  rw [if_pos c12] at H
  have c12b0 : decide (a3 < 0) = true := decide_eq_true c12
  clear c12
  (first | rw [c12b0] | (simp only [i64_w, i32_w]; rw [c12b0]) | skip)
  have H' := ZM H
  clear H
  go_wp2
  go_meet
  case rel => exact ⟨_, (true), Z4, H', ⟨by first | omega | exact Nat.le_refl _⟩, ⟨by (with_reducible repeat (first | apply Kd.S_alloc | apply Kd.S_drewN | apply Kd.S_drew)); exact HO304.out⟩, ⟨by repeat (first | (with_reducible exact HR305_0.out) | (with_reducible refine ccA ?_ _) | (with_reducible refine ccN ?_ _) | (with_reducible refine ccD ?_) | exact HR305_0.out)⟩, ⟨by repeat (first | (with_reducible first | exact HB.out | apply zzA | apply zzN | apply zzD) | exact HB.out)⟩⟩
 clear HC9
 try clear c1
 try clear c2
 try clear p2
 try clear c3
 try clear p3
 try clear q3
 try clear hx3
 try clear qi3
 try clear c4
 try clear c5
 try clear c6
 try clear c6b0
 try clear c6b1
 try clear p6
 try clear c7
 try clear c7b0
 try clear c7b1
 try clear c8
 try clear c8b0
 try clear c8b1
 try clear c12
 try clear c12b0
 try clear hx305_0
 try clear p305
 try clear q305
 obtain ⟨kq, x39_8, rfl, HA, HJ8, HO_10, HR305_0, HB⟩ := hcut
 cases kq with
 | zero => exact absurd HA.out (by simp [thrumref15_linesP.j0])
 | succ kj8 =>
  have H := HA.out
  clear HA
  simp only [thrumref15_linesP.j0] at H
  by_cases c13 : x39_8 = true
  ·
   subst c13
   have H1 : (some (([] : List Int), 1)) = some (r1, r2) := by rw [if_pos rfl] at H; exact H
   clear H
   have H := H1
   clear H1
   simp only [Option.some.injEq, Prod.mk.injEq] at H
   obtain ⟨rfl, rfl⟩ := H
   go_wp2
   go_ret2
   exact ⟨_, by first | rfl | (simp [errW_none, errW_some] <;> rfl) | (simp [*, errW_none, errW_some] <;> rfl), by first | exact Kd.R_nil _ _ _ _ _ | exact Kd.N_nil _ _ _ _ _ | exact Kd.V_nil _ _ _ _ _ | exact Kd.Q_nil _ _ _ _ _ | exact Kd.S_nil _ _ _ _ _, by repeat (first | (with_reducible first | exact HB.out | apply zzA | apply zzN | apply zzD) | exact HB.out)⟩
  replace c13 := Bool.eq_false_iff.mpr c13
  subst c13
  have H1 : (thrumref15_linesP.l0 kj8 l2 a3 ([] : List Int) t301 (t301.length : Int) 0) = some (r1, r2) := by rw [if_neg (show ¬ (false = true) by decide)] at H; exact H
  clear H
  have H := H1
  clear H1
  have H' := ZM H
  clear H
  go_wp2
  go_loopg [12, 42] kj8 (fun kq v12 v42 w' => ∃ (x12_2 : List Int) (x42_2 : Int), v42 = .int .i64 x42_2 ∧ Aside0 (thrumref15_linesP.l0 kq l2 a3 x12_2 t301 (t301.length : Int) x42_2 = some (r1, r2)) ∧ Aside0 (kq ≤ kj8) ∧ Aside0 (Kd.R (Kd.int .i64) 2 w' w.heap.size (fun _ => True) v12 x12_2) ∧ Aside0 (Kd.S (Kd.slice 2 (Kd.int .i64)) 22 w' w.heap.size (fun k_ => some k_ ≠ (v12 : Value).ownBlock) (.slice (some ad305) t301.length co11) t301) ∧ Aside0 (Below w.heap.size w w'))
  case atStart => exact ⟨(([] : List Int)), (0), Z4, H', ⟨Nat.le_refl _⟩, ⟨by first | exact Kd.R_nil _ _ _ _ _ | exact Kd.N_nil _ _ _ _ _ | exact Kd.V_nil _ _ _ _ _ | exact Kd.Q_nil _ _ _ _ _ | exact Kd.S_nil _ _ _ _ _⟩, ⟨by (with_reducible repeat (first | apply Kd.S_alloc | apply Kd.S_drewN | apply Kd.S_drew)); exact Kd.S_mono HO_10.out (fun _ hk => (by simp [Value.ownBlock]))⟩, ⟨by repeat (first | (with_reducible first | exact HB.out | apply zzA | apply zzN | apply zzD) | exact HB.out)⟩⟩
  case round =>
   clear H'
   try clear c1
   try clear c2
   try clear p2
   try clear c3
   try clear p3
   try clear q3
   try clear hx3
   try clear qi3
   try clear c4
   try clear c5
   try clear c6
   try clear c6b0
   try clear c6b1
   try clear p6
   try clear c7
   try clear c7b0
   try clear c7b1
   try clear c8
   try clear c8b0
   try clear c8b1
   try clear c12
   try clear c12b0
   try clear c13
   try clear hx305_0
   try clear p2
   try clear p3
   try clear p305
   try clear p6
   try clear q3
   try clear q305
   obtain ⟨x12_2, x42_2, rfl, HA, HK2, HO_12, HO_40, HB⟩ := hrel
   cases gk with
   | zero => exact absurd HA.out (by simp [thrumref15_linesP.l0])
   | succ k2 =>
    have H := HA.out
    clear HA
    simp only [thrumref15_linesP.l0] at H
    by_cases c14 : x42_2 < (t301.length : Int)
    case neg =>
     rw [if_neg c14] at H
     have c14b0 : decide (x42_2 < (t301.length : Int)) = false := decide_eq_false c14
     clear c14
     simp only [Option.some.injEq, Prod.mk.injEq] at H
     obtain ⟨rfl, rfl⟩ := H
     go_wp2
     go_ret2
     exact ⟨_, by first | rfl | (simp [errW_none, errW_some] <;> rfl) | (simp [*, errW_none, errW_some] <;> rfl), by (with_reducible repeat (first | apply rrA | apply rrN | apply rrD)); exact HO_12.out, by repeat (first | (with_reducible first | exact HB.out | apply zzA | apply zzN | apply zzD) | exact HB.out)⟩
    rw [if_pos c14] at H
    have c14b0 : decide (x42_2 < (t301.length : Int)) = true := decide_eq_true c14
    clear c14
    by_cases c15 : 0 ≤ x42_2
    case neg =>
     rw [if_neg c15] at H
     exact absurd H (by simp)
    rw [if_pos c15] at H
    have c15b0 : decide (0 ≤ x42_2) = true := decide_eq_true c15
    clear c15
    by_cases c16 : x42_2 < (t301.length : Int)
    case neg =>
     rw [if_neg c16] at H
     exact absurd H (by simp)
    rw [if_pos c16] at H
    have c16b0 : decide (x42_2 < (t301.length : Int)) = true := decide_eq_true c16
    clear c16
    replace H := Option.bind_eq_some_iff.mp H
    obtain ⟨⟨t307, t308⟩, A170, H⟩ := H
    replace H : (if t308 = 0 then (if x12_2.length < 17592186044416 then (thrumref15_linesP.l0 k2 l2 a3 (x12_2 ++ [t307]) t301 (t301.length : Int) (wrap64 (x42_2 + 1))) else (none)) else (some (([] : List Int), t308))) = some (r1, r2) := H
    have A17 := ZM A170
    clear A170
    by_cases c18 : t308 = 0
    case neg =>
     rw [if_neg c18] at H
     have c18b0 : (t308 == 0) = false := beq_eq_false_iff_ne.mpr c18
     have c18b1 : (t308 != 0) = true := bne_iff_ne.mpr c18
     simp only [Option.some.injEq, Prod.mk.injEq] at H
     obtain ⟨rfl, rfl⟩ := H
     have p306 : 0 ≤ (x42_2 : Int) := of_decide_eq_true Z3
     have q306 : x42_2 < (t301.length : Int) := of_decide_eq_true Z3
     obtain ⟨ad306, A306_0, c306_0, e306, hx306_0, hl306_0, hi306_0⟩ := at_L1 (Kd.S_reads' HO_40.out).2.2 x42_2 p306 q306
     obtain rfl : ad305 = ad306 := (by injection e306)
     obtain ⟨ce306, hce306, hMe306, hcc306⟩ := Kd.S_get HO_40.out [] x42_2 p306 (by first | exact q306 | exact of_decide_eq_true Z3 | (have e_ := (Kd.S_reads' HO_40.out).1; omega))
     obtain ⟨ve306_0, rfl, ge306_0⟩ := hMe306
     have hv306_0 := hcc306 0 _ rfl
     rw [Nat.add_zero, show ((Kd.slice 2 (Kd.int .i64))).sz = 1 from rfl, Nat.mul_one] at hv306_0
     replace hv306_0 := Option.some.inj (hv306_0.symm.trans hx306_0)
     rw [hv306_0] at ge306_0
     have HL306_0 := ZM (show Kd.R (Kd.int .i64) 2 _ _ _ _ (rd_L1 t301 x42_2) from ge306_0)
     clear hv306_0 ge306_0
     clear hcc306 hce306
     have HR306_0 := ZM hi306_0
     have HC306_0 := ZM hl306_0
     clear hi306_0 hl306_0
     replace p306 := eq_true p306
     replace q306 := eq_true q306
     go_wp2_with (first | ((with_reducible refine gate_callee (f := 76) rfl ?_); refine goesL_ (some 50) rfl rfl Try.func76 (by kernel_rfl) rfl #[.slice A306_0 (rd_L1 t301 x42_2).length c306_0, .slice A2 l2.length c2, .int .i64 a3] rfl Z2 ?_; (with_reducible refine (thrumref14_Tell.calls _ _ (rd_L1 t301 x42_2) (fun k_ => k_ < w.heap.size) _ _ l2 a3 t307 t308 _ ?side1 ?side2 ?side3 A17.out).mono ?_); (case side1 => exact Z55); (case side2 => exact HC306_0.out); (case side3 => exact Kd.V_mk HC2.out (Kd.F_below (Kd.C_F (Kd.heap_int .i64) HR2.out) Z1)); rintro e w22 ⟨rfl, hb⟩; refine ⟨_, rfl, ?_⟩; replace HO_12 := ZM (Kd.R_below (Zr HO_12) hb); replace HO_40 := ZM (Kd.S_below (by (with_reducible repeat (first | apply Kd.S_alloc | apply Kd.S_drewN | apply Kd.S_drew)); exact HO_40.out) hb); replace HL306_0 := ZM (Kd.R_below (Zr HL306_0) hb); replace HR306_0 := ZM (Kd.C_below Z28 hb); replace HB := ZM (zzT Z1 hb); (try clear hb); (try clear hb2); (try clear hk); (try clear hi)))
     go_ret2
     exact ⟨_, by first | rfl | (simp [errW_none, errW_some] <;> rfl) | (simp [*, errW_none, errW_some] <;> rfl), by first | exact Kd.R_nil _ _ _ _ _ | exact Kd.N_nil _ _ _ _ _ | exact Kd.V_nil _ _ _ _ _ | exact Kd.Q_nil _ _ _ _ _ | exact Kd.S_nil _ _ _ _ _, by repeat (first | (with_reducible first | exact HB.out | apply zzA | apply zzN | apply zzD) | exact HB.out)⟩
    rw [if_pos c18] at H
    have c18b0 : (t308 == 0) = true := beq_iff_eq.mpr c18
    have c18b1 : (t308 != 0) = false := bne_eq_false_iff_eq.mpr c18
    clear c18
    by_cases c19 : x12_2.length < 17592186044416
    case neg =>
     rw [if_neg c19] at H
     exact absurd H (by simp)
    rw [if_pos c19] at H
    have LMc19 := ZM c19
    clear c19
    obtain ⟨y309, hy309⟩ : ∃ y_ : List Int, y_ = (x12_2 ++ [t307]) := ⟨_, rfl⟩
    replace H : (thrumref15_linesP.l0 k2 l2 a3 y309 t301 (t301.length : Int) (wrap64 (x42_2 + 1))) = some (r1, r2) := by first | (rw [hy309]; with_reducible exact H) | (have H2_ := (Option.bind_some _ _).symm.trans H; rw [hy309]; with_reducible exact H2_) | (have H2_ := (Option.bind_some _ _).symm.trans H; with_reducible exact H2_) | with_reducible exact H | (rw [hy309]; exact H) | exact H
    have Ny309 := ZM hy309
    clear hy309
    have H' := ZM H
    clear H
    have p306 : 0 ≤ (x42_2 : Int) := of_decide_eq_true Z3
    have q306 : x42_2 < (t301.length : Int) := of_decide_eq_true Z3
    obtain ⟨ad306, A306_0, c306_0, e306, hx306_0, hl306_0, hi306_0⟩ := at_L1 (Kd.S_reads' HO_40.out).2.2 x42_2 p306 q306
    obtain rfl : ad305 = ad306 := (by injection e306)
    obtain ⟨ce306, hce306, hMe306, hcc306⟩ := Kd.S_get HO_40.out [] x42_2 p306 (by first | exact q306 | exact of_decide_eq_true Z3 | (have e_ := (Kd.S_reads' HO_40.out).1; omega))
    obtain ⟨ve306_0, rfl, ge306_0⟩ := hMe306
    have hv306_0 := hcc306 0 _ rfl
    rw [Nat.add_zero, show ((Kd.slice 2 (Kd.int .i64))).sz = 1 from rfl, Nat.mul_one] at hv306_0
    replace hv306_0 := Option.some.inj (hv306_0.symm.trans hx306_0)
    rw [hv306_0] at ge306_0
    have HL306_0 := ZM (show Kd.R (Kd.int .i64) 2 _ _ _ _ (rd_L1 t301 x42_2) from ge306_0)
    clear hv306_0 ge306_0
    clear hcc306 hce306
    have HR306_0 := ZM hi306_0
    have HC306_0 := ZM hl306_0
    clear hi306_0 hl306_0
    replace p306 := eq_true p306
    replace q306 := eq_true q306
    go_wp2_with (first | ((with_reducible refine gate_callee (f := 76) rfl ?_); refine goesL_ (some 50) rfl rfl Try.func76 (by kernel_rfl) rfl #[.slice A306_0 (rd_L1 t301 x42_2).length c306_0, .slice A2 l2.length c2, .int .i64 a3] rfl Z2 ?_; (with_reducible refine (thrumref14_Tell.calls _ _ (rd_L1 t301 x42_2) (fun k_ => k_ < w.heap.size) _ _ l2 a3 t307 t308 _ ?side1 ?side2 ?side3 A17.out).mono ?_); (case side1 => exact Z55); (case side2 => exact HC306_0.out); (case side3 => exact Kd.V_mk HC2.out (Kd.F_below (Kd.C_F (Kd.heap_int .i64) HR2.out) Z1)); rintro e w20 ⟨rfl, hb⟩; refine ⟨_, rfl, ?_⟩; replace HO_12 := ZM (Kd.R_below (Zr HO_12) hb); replace HO_40 := ZM (Kd.S_below (by (with_reducible repeat (first | apply Kd.S_alloc | apply Kd.S_drewN | apply Kd.S_drew)); exact HO_40.out) hb); replace HL306_0 := ZM (Kd.R_below (Zr HL306_0) hb); replace HR306_0 := ZM (Kd.C_below Z28 hb); replace HB := ZM (zzT Z1 hb); (try clear hb); (try clear hb2); (try clear hk); (try clear hi)) | ((with_reducible refine gate_builtin (b := .append) (xs := #[.tmp 56, .tmp 58]) rfl ?_); at_builtin; refine Kd.R_append (Kd.int .i64) (w0 := w) w.heap.size rfl (.tmp 56) (.tmp 58) 22 2 (.int .i64 0) 8 rfl Try.underlying22 info2 rfl (by decide) (by omega) u12 x12_2 t307 [.int .i64 t307] (fun _ => True) (fun _ => False) rfl rfl ?aP (fun _ hk => hk.elim) ?aF ?aO ?aB ?aS ?aL ?_; (case aP => exact rfl); (case aB => exact Z1); (case aF => exact (fun _ _ => trivial)); (case aO => exact (Zr HO_12)); (case aS => exact (zzS Z1)); (case aL => have := LMc19.out; omega); intro v310 w21 ho hb hg hat; rw [← Ny309.out] at ho; replace HO_40 := ZM (Kd.S_after (ok := (fun _ => True)) (by (with_reducible repeat (first | apply Kd.S_alloc | apply Kd.S_drewN | apply Kd.S_drew)); exact Kd.S_mono HO_40.out (fun _ hk => ⟨trivial, hk⟩)) hg hat); replace HL306_0 := ZM (Kd.R_after (ok := (fun k_ => some k_ ≠ (.slice (some ad305) t301.length co11 : Value).ownBlock)) (by (with_reducible repeat (first | apply rrA | apply rrN | apply rrD)); exact Kd.R_mono HL306_0.out (fun _ hk => ⟨hk.2, hk.1⟩)) hg hat); have HO311 := ZM (ho); replace HB := ZM (hb); clear HO_12; clear ho hb hg hat))
    go_roundg k2
    case measure => have := HJ8.out; have := HK2.out; omega
    case rel => exact ⟨(y309), (wrap64 (x42_2 + 1)), Z4, H', ⟨by have := HJ8.out; have := HK2.out; omega⟩, ⟨by (with_reducible repeat (first | apply rrA | apply rrN | apply rrD)); exact HO311.out⟩, ⟨by (with_reducible repeat (first | apply Kd.S_alloc | apply Kd.S_drewN | apply Kd.S_drew)); exact Kd.S_mono HO_40.out (fun _ hk => hk.2)⟩, ⟨by repeat (first | (with_reducible first | exact HB.out | apply zzA | apply zzN | apply zzD) | exact HB.out)⟩⟩
def thrumref15_lines.f (a0 : Int) (l1 l2 : List Int) (a3 : Int) : Option (List Int × Int) := if V64 l1 ∧ V64 l2 then some (linesS a0 l1 l2 a3) else none
theorem thrumref15_lines.of (a0 : Int) (l1 l2 : List Int) (a3 : Int)  (h_ : V64 l1 ∧ V64 l2) : thrumref15_lines.f a0 l1 l2 a3 = some (linesS a0 l1 l2 a3) := if_pos h_
theorem thrumref15_linesP.loop (x : List Int) (f : Int) (rows : List (List Int)) (hx : V64 x) (hrv : ∀ r ∈ rows, V64 r) (hb : rows.length ≤ 17592186044415) : ∀ (d i : Nat) (acc : List Int), d + i = rows.length → acc.length ≤ i →
    thrumref15_linesP.l0 (d + 1) x f acc rows (rows.length : Int) (i : Int) = some (if (seqV ((rows.drop i).map fun row => tellL row x f)).2 = 0 then (acc ++ (seqV ((rows.drop i).map fun row => tellL row x f)).1, 0) else ([], (seqV ((rows.drop i).map fun row => tellL row x f)).2)) := by
  intro d
  induction d with
  | zero =>
    intro i acc hd ha
    rw [thrumref15_linesP.l0, if_neg (by omega), List.drop_eq_nil_of_le (by omega)]
    simp only [List.map_nil, seqV, if_true, List.append_nil]
  | succ d ih =>
    intro i acc hd ha
    have hi : i < rows.length := by omega
    have hrd : rd_L1 rows (i : Int) = rows[i] := by unfold rd_L1; rw [Int.toNat_natCast, List.getD_eq_getElem?_getD, List.getElem?_eq_getElem hi, Option.getD_some]
    rw [thrumref15_linesP.l0, if_pos (by omega), if_pos (by omega), if_pos (by omega), hrd, thrumref14_Tell.of _ _ _ ⟨hrv _ (List.getElem_mem hi), hx⟩, Option.bind_some, List.drop_eq_getElem_cons hi, List.map_cons]
    obtain ⟨⟨t, e⟩, hp⟩ : ∃ p, tellL rows[i] x f = p := ⟨_, rfl⟩
    rw [hp]
    simp only [seqV]
    by_cases c : e = 0
    · rw [if_pos c, if_pos c, if_pos (by omega), wrap64_of (by unfold I64; omega), show (i : Int) + 1 = ((i + 1 : Nat) : Int) by omega, ih (i + 1) _ (by omega) Z39]
      obtain ⟨⟨ys, e2⟩, hq⟩ : ∃ p, seqV ((rows.drop (i + 1)).map fun row => tellL row x f) = p := ⟨_, rfl⟩
      rw [hq]
      simp only []
      by_cases c2 : e2 = 0
      · rw [if_pos c2, if_pos c2, if_pos rfl, List.append_assoc]; rfl
      · rw [if_neg c2, if_neg c2, if_neg c2]
    · rw [if_neg c, if_neg c, if_neg c]
theorem len_wrap {m n : Nat} (h0 : 2 ≤ m) (h1 : m ≤ 17) (hn : n ≤ 9223372036854775807) : ((m : Int) = wrap64 ((n : Int) + 1)) ↔ ((m : Int) - 1 = n) := by
  by_cases c : n ≤ 9223372036854775806
  · rw [wrap64_of (by unfold I64; omega)]; omega
  · have e : n = 9223372036854775807 := by omega
    rw [e, show wrap64 (((9223372036854775807 : Nat) : Int) + 1) = -9223372036854775808 by decide +kernel]
    omega
theorem thrumref15_linesP.is (o : Int) (w x : List Int) (f : Int) (hw : V64 w) (hx : V64 x) (hn : x.length ≤ 9223372036854775807) : thrumref15_linesP.f ((rowsS o w).1.length + 1 + 1) o w x f = some (linesS o w x f) := by
  unfold thrumref15_linesP.f linesS thrumref15_Rows.f
  rw [Option.bind_some]
  by_cases c : (rowsS o w).2 = 0
  · rw [if_pos c, if_neg (not_not_intro c)]
    obtain ⟨k, m, rfl, hk2, hk8, hm2, hm17, hmk, hr⟩ := rowsS_good c
    have hlen : (rowsS (k : Int) w).1.length = k := by rw [hr, chunksS_length]
    have hhd : ((rowsS (k : Int) w).1.getD 0 []).length = m := by rw [hr]; exact chunks_head hmk (by omega)
    have hrd : rd_L1 (rowsS (k : Int) w).1 0 = (rowsS (k : Int) w).1.getD 0 [] := rfl
    have hlw := len_wrap (n := x.length) hm2 hm17 hn
    rw [if_pos (by omega), hrd, hhd]
    by_cases c2 : (m : Int) - 1 = x.length
    · rw [if_pos (hlw.2 c2), if_neg (not_not_intro c2)]
      by_cases c3 : f < 0
      · rw [if_pos c3, if_pos (.inl c3), thrumref15_linesP.j0, if_pos rfl]
      · rw [if_neg c3, thrumref15_linesP.j0]
        by_cases c4 : f > 30
        · rw [if_pos (decide_eq_true c4), if_pos (.inr c4)]
        · rw [if_neg (by simpa using c4), if_neg (show ¬ (f < 0 ∨ f > 30) by omega)]
          have := thrumref15_linesP.loop x f (rowsS (k : Int) w).1 hx (by rw [hr]; exact fun r h => chunks_v64 hmk hw h) (by omega) (rowsS (k : Int) w).1.length 0 [] (by omega) (by simp)
          rw [show ((0 : Nat) : Int) = 0 from rfl] at this
          rw [this, List.drop_zero, List.nil_append]
          obtain ⟨⟨ys, e2⟩, hq⟩ : ∃ p, seqV ((rowsS (k : Int) w).1.map fun row => tellL row x f) = p := ⟨_, rfl⟩
          have he := seqV_nil_of ((rowsS (k : Int) w).1.map fun row => tellL row x f)
          rw [hq] at he ⊢
          simp only [] at he ⊢
          by_cases c5 : e2 = 0
          · rw [if_pos c5, c5]
          · rw [if_neg c5, he c5]
    · rw [if_neg (fun h => c2 (hlw.1 h)), if_pos c2]
  · rw [if_neg c, if_pos c]
theorem thrumref15_lines.calls (a0 : Int) (A1 : Option Addr) (c1 : Nat) (l1 : List Int) (A2 : Option Addr) (c2 : Nat) (l2 : List Int) (a3 : Int) (r1 : List Int) (r2 : Int) (w : World) (hr1 : Kd.C (Kd.int .i64) w A1 l1.length l1) (hc1 : l1.length ≤ c1) (hr2 : Kd.C (Kd.int .i64) w A2 l2.length l2) (hc2 : l2.length ≤ c2) (h : thrumref15_lines.f a0 l1 l2 a3 = some (r1, r2)) :
    Calls Try.prog 51 #[.int .i64 a0, .slice A1 l1.length c1, .slice A2 l2.length c2, .int .i64 a3] w fun e w' => ∃ v0_ : Value, e = .returned (.tuple #[v0_, .int .i64 r2]) ∧ Kd.R (Kd.int .i64) 2 w' w.heap.size (fun _ => True) v0_ r1 ∧ Below w.heap.size w w' := by
  unfold thrumref15_lines.f at h
  split at h
  case isFalse => cases h
  rename_i hv
  exact thrumref15_linesP.calls ((rowsS a0 l1).1.length + 1 + 1) a0 A1 c1 l1 A2 c2 l2 a3 r1 r2 w hr1 hc1 hr2 hc2 ((thrumref15_linesP.is a0 l1 l2 a3 hv.1 hv.2 (Kd.C_max hr2)).trans h)


/-! ### thrumref13_BestP: function 52 -/
def thrumref13_BestP.l0 : Nat → List Int → Int → Int → Int → Option (Int × Int)
 | 0, _, _, _, _ => none
 | k + 1, x0, x4, x13, x14 => if x14 < x13 then (if 0 ≤ x14 then (if x14 < (x0.length : Int) then (if 0 ≤ x4 then (if x4 < (x0.length : Int) then (if (rd x0 x14) > (rd x0 x4) then (thrumref13_BestP.l0 k x0 x14 x13 (wrap64 (x14 + 1))) else (thrumref13_BestP.l0 k x0 x4 x13 (wrap64 (x14 + 1)))) else (none)) else (none)) else (none)) else (none)) else (some (x4, 0))
def thrumref13_BestP.f (k : Nat) (l0 : List Int) : Option (Int × Int) := if (l0.length : Int) = 0 then (some (0, 1)) else (if (l0.length : Int) > 4096 then (some (0, 3)) else (thrumref13_BestP.l0 k l0 0 (l0.length : Int) 0))
theorem thrumref13_BestP.mono_l : ∀ k, (∀ y0 y1 y2 y3, LeO (thrumref13_BestP.l0 k y0 y1 y2 y3) (thrumref13_BestP.l0 (k + 1) y0 y1 y2 y3))
 | 0 => fun _ _ _ _ r h => by simp [thrumref13_BestP.l0] at h
 | k + 1 => by
  have ih0 := thrumref13_BestP.mono_l k
  ·
   intro y0 y1 y2 y3
   unfold thrumref13_BestP.l0
   repeat' first
   | (with_reducible exact ih0 _ _ _ _)
   | (with_reducible exact LeO.refl _)
   | (with_reducible exact LeO.none _)
   | (with_reducible refine LeO.ite ?_ ?_)
   | (with_reducible refine LeO.bind ?_ (fun _ => ?_))
theorem thrumref13_BestP.mono : ∀ a0 k, LeO (thrumref13_BestP.f k a0) (thrumref13_BestP.f (k + 1) a0) := by
 intro a0 k
 have ih0 := thrumref13_BestP.mono_l k
 unfold thrumref13_BestP.f
 repeat' first
   | (with_reducible exact ih0 _ _ _ _)
   | (with_reducible exact LeO.refl _)
   | (with_reducible exact LeO.none _)
   | (with_reducible refine LeO.ite ?_ ?_)
   | (with_reducible refine LeO.bind ?_ (fun _ => ?_))
set_option maxHeartbeats 8000000 in
set_option maxRecDepth 100000 in
theorem thrumref13_BestP.calls (k : Nat) (A0 : Option Addr) (c0 : Nat) (l0 : List Int) (r1 : Int) (r2 : Int) (w : World) (hr0 : Kd.C (Kd.int .i64) w A0 l0.length l0) (hc0 : l0.length ≤ c0) (h : thrumref13_BestP.f k l0 = some (r1, r2)) :
  Calls Try.prog 52 #[.slice A0 l0.length c0] w fun e w' => e = .returned (.tuple #[.int .i64 r1, .int .i64 r2]) ∧ Drawn0 w w' := by
 have HR0 := ZM hr0
 have HC0 := ZM hc0
 clear hr0 hc0
 have H : (if (l0.length : Int) = 0 then (some (0, 1)) else (if (l0.length : Int) > 4096 then (some (0, 3)) else (thrumref13_BestP.l0 k l0 0 (l0.length : Int) 0))) = some (r1, r2) := h
 clear h
 by_cases c2 : (l0.length : Int) = 0
 ·
  rw [if_pos c2] at H
  have c2b0 : ((l0.length : Int) == 0) = true := beq_iff_eq.mpr c2
  have c2b1 : ((l0.length : Int) != 0) = false := bne_eq_false_iff_eq.mpr c2
  clear c2
  simp only [Option.some.injEq, Prod.mk.injEq] at H
  obtain ⟨rfl, rfl⟩ := H
  go_enter Try.func52, Try.ntmps52
  go_wp2
  repeat (go_quiet (fail); try go_wp2)
  go_ret2
  exact ⟨by first | rfl | (simp; done) | (simp [*]; done), by repeat (first | exact ddR _ | apply ddS)⟩
 rw [if_neg c2] at H
 have c2b0 : ((l0.length : Int) == 0) = false := beq_eq_false_iff_ne.mpr c2
 have c2b1 : ((l0.length : Int) != 0) = true := bne_iff_ne.mpr c2
 have c2b2 : ¬ (l0 = []) := fun h_ => c2 (by rw [h_]; rfl)
 by_cases c3 : (l0.length : Int) > 4096
 ·
  rw [if_pos c3] at H
  have c3b0 : decide (4096 < (l0.length : Int)) = true := decide_eq_true c3
  have c3b1 : decide (4096 < l0.length) = true := decide_eq_true (by omega)
  clear c3
  simp only [Option.some.injEq, Prod.mk.injEq] at H
  obtain ⟨rfl, rfl⟩ := H
  go_enter Try.func52, Try.ntmps52
  go_wp2
  repeat (go_quiet (fail); try go_wp2)
  go_ret2
  exact ⟨by first | rfl | (simp; done) | (simp [*]; done), by repeat (first | exact ddR _ | apply ddS)⟩
 rw [if_neg c3] at H
 have c3b0 : decide (4096 < (l0.length : Int)) = false := decide_eq_false c3
 have c3b1 : decide (4096 < l0.length) = false := decide_eq_false (by omega)
 clear c3
 have H' := ZM H
 clear H
 go_enter Try.func52, Try.ntmps52
 go_wp2
 repeat (go_quiet (fail); try go_wp2)
 go_loopg [4, 14] k (fun kq v4 v14 w' => ∃ (x4_1 : Int) (x14_1 : Int), v4 = .int .i64 x4_1 ∧ v14 = .int .i64 x14_1 ∧ Aside0 (thrumref13_BestP.l0 kq l0 x4_1 (l0.length : Int) x14_1 = some (r1, r2)) ∧ Aside0 (kq ≤ k) ∧ Drawn0 w w')
 case atStart => exact ⟨(0), (0), Z4, Z4, H', ⟨Nat.le_refl _⟩, by repeat (first | exact ddR _ | apply ddS)⟩
 case round =>
  clear H'
  try clear c2
  try clear c2b0
  try clear c2b1
  try clear c2b2
  try clear p2
  try clear c3
  try clear c3b0
  try clear c3b1
  obtain ⟨x4_1, x14_1, rfl, rfl, HA, HK1, ⟨m1, rfl⟩⟩ := hrel
  cases gk with
  | zero => exact absurd HA.out (by simp [thrumref13_BestP.l0])
  | succ k1 =>
   have H := HA.out
   clear HA
   simp only [thrumref13_BestP.l0] at H
   by_cases c4 : x14_1 < (l0.length : Int)
   case neg =>
    rw [if_neg c4] at H
    have c4b0 : decide (x14_1 < (l0.length : Int)) = false := decide_eq_false c4
    clear c4
    simp only [Option.some.injEq, Prod.mk.injEq] at H
    obtain ⟨rfl, rfl⟩ := H
    go_wp2
    repeat (go_quiet (fail); try go_wp2)
    go_ret2
    exact ⟨by first | rfl | (simp; done) | (simp [*]; done), by repeat (first | exact ddR _ | apply ddS)⟩
   rw [if_pos c4] at H
   have c4b0 : decide (x14_1 < (l0.length : Int)) = true := decide_eq_true c4
   clear c4
   by_cases c5 : 0 ≤ x14_1
   case neg =>
    rw [if_neg c5] at H
    exact absurd H (by simp)
   rw [if_pos c5] at H
   have c5b0 : decide (0 ≤ x14_1) = true := decide_eq_true c5
   clear c5
   by_cases c6 : x14_1 < (l0.length : Int)
   case neg =>
    rw [if_neg c6] at H
    exact absurd H (by simp)
   rw [if_pos c6] at H
   have c6b0 : decide (x14_1 < (l0.length : Int)) = true := decide_eq_true c6
   clear c6
   by_cases c7 : 0 ≤ x4_1
   case neg =>
    rw [if_neg c7] at H
    exact absurd H (by simp)
   rw [if_pos c7] at H
   have c7b0 : decide (0 ≤ x4_1) = true := decide_eq_true c7
   clear c7
   by_cases c8 : x4_1 < (l0.length : Int)
   case neg =>
    rw [if_neg c8] at H
    exact absurd H (by simp)
   rw [if_pos c8] at H
   have c8b0 : decide (x4_1 < (l0.length : Int)) = true := decide_eq_true c8
   clear c8
   by_cases c9 : (rd l0 x14_1) > (rd l0 x4_1)
   case neg =>
    rw [if_neg c9] at H
    have c9b0 : decide ((rd l0 x4_1) < (rd l0 x14_1)) = false := decide_eq_false c9
    clear c9
    have H' := ZM H
    clear H
    have p312 : 0 ≤ (x14_1 : Int) := of_decide_eq_true Z3
    have q312 : x14_1 < (l0.length : Int) := of_decide_eq_true Z3
    obtain ⟨ad312, e312, hx312_0⟩ := Kd.at_int HR0.out x14_1 p312 q312
    cases e312
    replace p312 := eq_true p312
    replace q312 := eq_true q312
    have p313 : 0 ≤ (x4_1 : Int) := of_decide_eq_true Z3
    have q313 : x4_1 < (l0.length : Int) := of_decide_eq_true Z3
    obtain ⟨ad313, e313, hx313_0⟩ := Kd.at_int HR0.out x4_1 p313 q313
    obtain rfl : ad312 = ad313 := (by injection e313)
    replace p313 := eq_true p313
    replace q313 := eq_true q313
    go_wp2
    repeat (go_quiet (fail); try go_wp2)
    go_roundg k1
    case measure => have := HK1.out; omega
    case rel => exact ⟨(x4_1), (wrap64 (x14_1 + 1)), Z4, Z4, H', ⟨by have := HK1.out; omega⟩, by repeat (first | exact ddR _ | apply ddS)⟩
   rw [if_pos c9] at H
   have c9b0 : decide ((rd l0 x4_1) < (rd l0 x14_1)) = true := decide_eq_true c9
   clear c9
   have H' := ZM H
   clear H
   have p312 : 0 ≤ (x14_1 : Int) := of_decide_eq_true Z3
   have q312 : x14_1 < (l0.length : Int) := of_decide_eq_true Z3
   obtain ⟨ad312, e312, hx312_0⟩ := Kd.at_int HR0.out x14_1 p312 q312
   cases e312
   replace p312 := eq_true p312
   replace q312 := eq_true q312
   have p313 : 0 ≤ (x4_1 : Int) := of_decide_eq_true Z3
   have q313 : x4_1 < (l0.length : Int) := of_decide_eq_true Z3
   obtain ⟨ad313, e313, hx313_0⟩ := Kd.at_int HR0.out x4_1 p313 q313
   obtain rfl : ad312 = ad313 := (by injection e313)
   replace p313 := eq_true p313
   replace q313 := eq_true q313
   go_wp2
   repeat (go_quiet (fail); try go_wp2)
   go_roundg k1
   case measure => have := HK1.out; omega
   case rel => exact ⟨(x14_1), (wrap64 (x14_1 + 1)), Z4, Z4, H', ⟨by have := HK1.out; omega⟩, by repeat (first | exact ddR _ | apply ddS)⟩
theorem thrumref13_BestP.loop (x0 : List Int) (hb : x0.length ≤ 4096) : ∀ (d i : Nat) (a : Nat), d + i = x0.length → a < x0.length →
    thrumref13_BestP.l0 (d + 1) x0 (a : Int) (x0.length : Int) (i : Int) = some (bestGo (x0.drop i) i a (rd x0 a), 0) := by
  intro d
  induction d with
  | zero =>
    intro i a hd ha
    rw [thrumref13_BestP.l0, if_neg (by omega), List.drop_eq_nil_of_le (by omega)]; rfl
  | succ d ih =>
    intro i a hd ha
    have hi : i < x0.length := by omega
    rw [thrumref13_BestP.l0, if_pos (by omega), if_pos (by omega), if_pos (by omega), if_pos (by omega), if_pos (by omega), wrap64_of (by unfold I64; omega), show (i : Int) + 1 = ((i + 1 : Nat) : Int) by omega, List.drop_eq_getElem_cons hi, bestGo, show rd x0 (i : Int) = x0[i] from rd_nat hi]
    by_cases c : rd x0 a < x0[i]
    · rw [if_pos c, if_pos c, ih (i + 1) i (by omega) hi, show rd x0 (i : Int) = x0[i] from rd_nat hi]; rfl
    · rw [if_neg c, if_neg c, ih (i + 1) a (by omega) ha]; rfl
def thrumref13_Best.f (l0 : List Int) : Option (Int × Int) := some (bestF l0)
theorem thrumref13_Best.calls (A0 : Option Addr) (c0 : Nat) (l0 : List Int) (r1 : Int) (r2 : Int) (w : World) (hr0 : Kd.C (Kd.int .i64) w A0 l0.length l0) (hc0 : l0.length ≤ c0) (h : thrumref13_Best.f l0 = some (r1, r2)) :
    Calls Try.prog 52 #[.slice A0 l0.length c0] w fun e w' => e = .returned (.tuple #[.int .i64 r1, .int .i64 r2]) ∧ Drawn0 w w' := by
  refine thrumref13_BestP.calls (l0.length + 1) A0 c0 l0 r1 r2 w hr0 hc0 (Eq.trans ?_ h)
  unfold thrumref13_BestP.f thrumref13_Best.f bestF
  by_cases c : l0.length = 0
  · rw [if_pos (by omega), if_pos c]
  · rw [if_neg (by omega), if_neg c]
    by_cases c2 : l0.length > 4096
    · rw [if_pos (by omega), if_pos c2]
    · rw [if_neg (by omega), if_neg c2]
      exact thrumref13_BestP.loop l0 (by omega) l0.length 0 0 (by omega) (by omega)


end Go.Proofs.Ytgilbdpbfmpcpaa.HS
