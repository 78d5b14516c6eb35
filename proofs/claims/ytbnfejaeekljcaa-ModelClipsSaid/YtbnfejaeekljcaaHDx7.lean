/- What Go functions do, each as a plain Lean function with the same answers, and the proof of it, in every world: printed by the session's driver over the kit's print, with texts by hand. -/
import Derived.Test.YtbnfejaeekljcaaHDx0
import Derived.Test.YtbnfejaeekljcaaHDx3
import Derived.Test.YtbnfejaeekljcaaHDx6
namespace Go.Proofs.Ytbnfejaeekljcaa.HD
open Go.RowKit Go.Proofs.YtbnfejaeekljcaaW.PrintWords Go.Proofs.YtbnfejaeekljcaaW.PrintLast Go.Proofs.YtbnfejaeekljcaaW.PrintMore
attribute [local go_sem] max2_int min2_int max_two min_two max_three min_three max_four min_four   -- for this text's walks alone
open Go.Proofs.Ytbnfejaeekljcaa.Sp
attribute [local go_sem] Go.Proofs.Ytbnfejaeekljcaa.Sp.u64_not
set_option linter.unusedVariables false
set_option linter.unusedSimpArgs false

/-! ### soft_linesP: function 36 -/
def soft_linesP.l0 : Nat → List Int → Int → List Int → List (List Int) → Int → Int → Option (List Int × Int)
 | 0, _, _, _, _, _, _ => none
 | k + 1, x2, x3, x12, x43, x44, x45 => if x45 < x44 then (if 0 ≤ x45 then (if x45 < (x43.length : Int) then ((linear_Tell.f (rd_L1 x43 x45) x2 x3).bind fun bt211 => (if x45 < (x12.length : Int) then (if bt211.2 = 0 then (soft_linesP.l0 k x2 x3 (x12.set (x45 : Int).toNat bt211.1) x43 x44 (wrap64 (x45 + 1))) else (some (([] : List Int), bt211.2))) else (none))) else (none)) else (none)) else (some (x12, 0))
def soft_linesP.f (k : Nat) (a0 : Int) (l1 : List Int) (l2 : List Int) (a3 : Int) : Option (List Int × Int) := (soft_Rows.f a0 l1).bind fun bt202 => (if bt202.2 = 0 then (if 0 < (bt202.1.length : Int) then (if (wrap64 (((rd_L1 bt202.1 0).length : Int) - 1)) = (l2.length : Int) then (if a3 < 0 then (some (([] : List Int), 1)) else (if a3 > 30 then (some (([] : List Int), 1)) else (if 0 ≤ a0 then (if (a0 : Int).toNat ≤ 35184372088832 then (soft_linesP.l0 k l2 a3 (List.replicate (a0 : Int).toNat 0) bt202.1 (bt202.1.length : Int) 0) else (none)) else (none)))) else (some (([] : List Int), 4))) else (none)) else (some (([] : List Int), bt202.2)))
theorem soft_linesP.mono_l : ∀ k, (∀ y0 y1 y2 y3 y4 y5, LeO (soft_linesP.l0 k y0 y1 y2 y3 y4 y5) (soft_linesP.l0 (k + 1) y0 y1 y2 y3 y4 y5))
 | 0 => fun _ _ _ _ _ _ r h => by simp [soft_linesP.l0] at h
 | k + 1 => by
  have ih0 := soft_linesP.mono_l k
  ·
   intro y0 y1 y2 y3 y4 y5
   unfold soft_linesP.l0
   repeat' first
   | (with_reducible exact ih0 _ _ _ _ _ _)
   | (with_reducible exact LeO.refl _)
   | (with_reducible exact LeO.none _)
   | (with_reducible refine LeO.ite ?_ ?_)
   | (with_reducible refine LeO.bind ?_ (fun _ => ?_))
   | exact ih0 _ _ _ _ _ _
   | exact LeO.none _
   | refine LeO.ite ?_ ?_
   | refine LeO.bind ?_ (fun _ => ?_)
theorem soft_linesP.mono : ∀ a0 a1 a2 a3 k, LeO (soft_linesP.f k a0 a1 a2 a3) (soft_linesP.f (k + 1) a0 a1 a2 a3) := by
 intro a0 a1 a2 a3 k
 have ih0 := soft_linesP.mono_l k
 unfold soft_linesP.f
 repeat' first
   | (with_reducible exact ih0 _ _ _ _ _ _)
   | (with_reducible exact LeO.refl _)
   | (with_reducible exact LeO.none _)
   | (with_reducible refine LeO.ite ?_ ?_)
   | (with_reducible refine LeO.bind ?_ (fun _ => ?_))
   | exact ih0 _ _ _ _ _ _
   | exact LeO.none _
   | refine LeO.ite ?_ ?_
   | refine LeO.bind ?_ (fun _ => ?_)
set_option maxHeartbeats 8000000 in
set_option maxRecDepth 100000 in
theorem soft_linesP.calls (k : Nat) (a0 : Int) (A1 : Option Addr) (c1 : Nat) (l1 : List Int) (A2 : Option Addr) (c2 : Nat) (l2 : List Int) (a3 : Int) (r1 : List Int) (r2 : Int) (w : World) (hr1 : Kd.C (Kd.int .i64) w A1 l1.length l1) (hc1 : l1.length ≤ c1) (hr2 : Kd.C (Kd.int .i64) w A2 l2.length l2) (hc2 : l2.length ≤ c2) (h : soft_linesP.f k a0 l1 l2 a3 = some (r1, r2)) :
  Calls Try.prog 36 #[.int .i64 a0, .slice A1 l1.length c1, .slice A2 l2.length c2, .int .i64 a3] w fun e w' => ∃ v0_ : Value, e = .returned (.tuple #[v0_, .int .i64 r2]) ∧ Kd.R (Kd.int .i64) 2 w' w.heap.size (fun _ => True) v0_ r1 ∧ Below w.heap.size w w' := by
 have HR1 := Aside0.mk hr1
 have HC1 := Aside0.mk hc1
 clear hr1 hc1
 have HR2 := Aside0.mk hr2
 have HC2 := Aside0.mk hc2
 clear hr2 hc2
 have HB := Aside0.mk (Below.refl w.heap.size w)
 have H : ((soft_Rows.f a0 l1).bind fun bt202 => (if bt202.2 = 0 then (if 0 < (bt202.1.length : Int) then (if (wrap64 (((rd_L1 bt202.1 0).length : Int) - 1)) = (l2.length : Int) then (if a3 < 0 then (some (([] : List Int), 1)) else (if a3 > 30 then (some (([] : List Int), 1)) else (if 0 ≤ a0 then (if (a0 : Int).toNat ≤ 35184372088832 then (soft_linesP.l0 k l2 a3 (List.replicate (a0 : Int).toNat 0) bt202.1 (bt202.1.length : Int) 0) else (none)) else (none)))) else (some (([] : List Int), 4))) else (none)) else (some (([] : List Int), bt202.2)))) = some (r1, r2) := h
 clear h
 replace H := Option.bind_eq_some_iff.mp H
 obtain ⟨⟨t202, t203⟩, A50, H⟩ := H
 replace H : (if t203 = 0 then (if 0 < (t202.length : Int) then (if (wrap64 (((rd_L1 t202 0).length : Int) - 1)) = (l2.length : Int) then (if a3 < 0 then (some (([] : List Int), 1)) else (if a3 > 30 then (some (([] : List Int), 1)) else (if 0 ≤ a0 then (if (a0 : Int).toNat ≤ 35184372088832 then (soft_linesP.l0 k l2 a3 (List.replicate (a0 : Int).toNat 0) t202 (t202.length : Int) 0) else (none)) else (none)))) else (some (([] : List Int), 4))) else (none)) else (some (([] : List Int), t203))) = some (r1, r2) := H
 have A5 := Aside0.mk A50
 clear A50
 by_cases c6 : t203 = 0
 ·
  rw [if_pos c6] at H
  have c6b0 : (t203 == 0) = true := beq_iff_eq.mpr c6
  have c6b1 : (t203 != 0) = false := bne_eq_false_iff_eq.mpr c6
  clear c6
  by_cases c7 : 0 < (t202.length : Int)
  ·
   rw [if_pos c7] at H
   have c7b0 : decide (0 < (t202.length : Int)) = true := decide_eq_true c7
   have c7b1 : decide (0 < t202.length) = true := decide_eq_true (by omega)
   clear c7
   by_cases c8 : (wrap64 (((rd_L1 t202 0).length : Int) - 1)) = (l2.length : Int)
   ·
    rw [if_pos c8] at H
    have c8b0 : ((wrap64 (((rd_L1 t202 0).length : Int) - 1)) == (l2.length : Int)) = true := beq_iff_eq.mpr c8
    have c8b1 : ((wrap64 (((rd_L1 t202 0).length : Int) - 1)) != (l2.length : Int)) = false := bne_eq_false_iff_eq.mpr c8
    clear c8
    by_cases c9 : a3 < 0
    ·
     rw [if_pos c9] at H
     have c9b0 : decide (a3 < 0) = true := decide_eq_true c9
     clear c9
     simp only [Option.some.injEq, Prod.mk.injEq] at H
     obtain ⟨rfl, rfl⟩ := H
     go_enter Try.func36, Try.ntmps36
     go_wp2_with (first | ((with_reducible refine gate_callee (f := 56) rfl ?_); refine goesL_ (some 18) rfl rfl Try.func56 (by kernel_rfl) rfl #[.int .i64 a0, .slice A1 l1.length c1] rfl (by (try simp only [List.map_toArray, List.map_cons, List.map_nil]); first | done | rfl | (simp only [List.length_drop, List.length_take]; rfl)) ?_; (with_reducible refine (soft_Rows.calls a0 _ _ l1 t202 t203 _ ?side1 ?side2 A5.out).mono ?_); (case side1 => repeat (first | exact HR1.out | (with_reducible refine ccA ?_ _) | (with_reducible refine ccN ?_ _) | (with_reducible refine ccD ?_))); (case side2 => exact HC1.out); rintro e w10 ⟨v204, rfl, ho0, hb⟩; refine ⟨_, rfl, ?_⟩; have n0_ := Aside0.mk (Kd.S_lower ho0 (zzS (by repeat (first | (with_reducible first | exact HB.out | apply zzA | apply zzN | apply zzD) | exact HB.out)))); have n1_ := Aside0.mk (zzT (by repeat (first | (with_reducible first | exact HB.out | apply zzA | apply zzN | apply zzD) | exact HB.out)) hb); clear HB; have HO205 := n0_; have HB := n1_; clear n0_ n1_; (try clear hb); (try clear hb2); (try clear hk); (try clear hi); (try clear ho0); obtain ⟨Ao11, co11, eo11⟩ := Kd.S_slice HO205.out; subst eo11; have p206 : 0 ≤ (0 : Int) := (by omega); have q206 : 0 < (t202.length : Int) := of_decide_eq_true (by first | (with_reducible assumption) | assumption); obtain ⟨ad206, A206_0, c206_0, e206, hx206_0, hl206_0, hi206_0⟩ := at_L1 (Kd.S_reads' HO205.out).2.2 0 p206 q206; cases e206; obtain ⟨ce206, hce206, hMe206, hcc206⟩ := Kd.S_get HO205.out [] 0 p206 (by first | exact q206 | exact of_decide_eq_true (by first | (with_reducible assumption) | assumption) | (have e_ := (Kd.S_reads' HO205.out).1; omega)); obtain ⟨ve206_0, rfl, ge206_0⟩ := hMe206; have hv206_0 := hcc206 0 _ rfl; rw [Nat.add_zero, show ((Kd.slice 2 (Kd.int .i64))).sz = 1 from rfl, Nat.mul_one] at hv206_0; replace hv206_0 := Option.some.inj (hv206_0.symm.trans hx206_0); rw [hv206_0] at ge206_0; have HL206_0 := Aside0.mk (show Kd.R (Kd.int .i64) 2 _ _ _ _ (rd_L1 t202 0) from ge206_0); clear hv206_0 ge206_0; clear hcc206 hce206; have qi206 : (0 < t202.length) = True := eq_true (by omega); (try rw [show ((0 : Int)).toNat = 0 from rfl] at hx206_0); (try rw [Addr.add_zero'] at hx206_0); have HR206_0 := Aside0.mk hi206_0; have HC206_0 := Aside0.mk hl206_0; clear hi206_0 hl206_0; replace p206 := eq_true p206; replace q206 := eq_true q206))
     go_ret2
     exact ⟨_, by first | rfl | (simp [errW_none, errW_some] <;> rfl) | (simp [*, errW_none, errW_some] <;> rfl), by first | exact Kd.R_nil _ _ _ _ _ | exact Kd.N_nil _ _ _ _ _ | exact Kd.V_nil _ _ _ _ _ | exact Kd.Q_nil _ _ _ _ _ | exact Kd.S_nil _ _ _ _ _, by repeat (first | (with_reducible first | exact HB.out | apply zzA | apply zzN | apply zzD) | exact HB.out)⟩
    ·
     rw [if_neg c9] at H
     have c9b0 : decide (a3 < 0) = false := decide_eq_false c9
     clear c9
     by_cases c12 : a3 > 30
     ·
      rw [if_pos c12] at H
      have c12b0 : decide (30 < a3) = true := decide_eq_true c12
      clear c12
      simp only [Option.some.injEq, Prod.mk.injEq] at H
      obtain ⟨rfl, rfl⟩ := H
      go_enter Try.func36, Try.ntmps36
      go_wp2_with (first | ((with_reducible refine gate_callee (f := 56) rfl ?_); refine goesL_ (some 18) rfl rfl Try.func56 (by kernel_rfl) rfl #[.int .i64 a0, .slice A1 l1.length c1] rfl (by (try simp only [List.map_toArray, List.map_cons, List.map_nil]); first | done | rfl | (simp only [List.length_drop, List.length_take]; rfl)) ?_; (with_reducible refine (soft_Rows.calls a0 _ _ l1 t202 t203 _ ?side1 ?side2 A5.out).mono ?_); (case side1 => repeat (first | exact HR1.out | (with_reducible refine ccA ?_ _) | (with_reducible refine ccN ?_ _) | (with_reducible refine ccD ?_))); (case side2 => exact HC1.out); rintro e w13 ⟨v204, rfl, ho0, hb⟩; refine ⟨_, rfl, ?_⟩; have n0_ := Aside0.mk (Kd.S_lower ho0 (zzS (by repeat (first | (with_reducible first | exact HB.out | apply zzA | apply zzN | apply zzD) | exact HB.out)))); have n1_ := Aside0.mk (zzT (by repeat (first | (with_reducible first | exact HB.out | apply zzA | apply zzN | apply zzD) | exact HB.out)) hb); clear HB; have HO205 := n0_; have HB := n1_; clear n0_ n1_; (try clear hb); (try clear hb2); (try clear hk); (try clear hi); (try clear ho0); obtain ⟨Ao14, co14, eo14⟩ := Kd.S_slice HO205.out; subst eo14; have p206 : 0 ≤ (0 : Int) := (by omega); have q206 : 0 < (t202.length : Int) := of_decide_eq_true (by first | (with_reducible assumption) | assumption); obtain ⟨ad206, A206_0, c206_0, e206, hx206_0, hl206_0, hi206_0⟩ := at_L1 (Kd.S_reads' HO205.out).2.2 0 p206 q206; cases e206; obtain ⟨ce206, hce206, hMe206, hcc206⟩ := Kd.S_get HO205.out [] 0 p206 (by first | exact q206 | exact of_decide_eq_true (by first | (with_reducible assumption) | assumption) | (have e_ := (Kd.S_reads' HO205.out).1; omega)); obtain ⟨ve206_0, rfl, ge206_0⟩ := hMe206; have hv206_0 := hcc206 0 _ rfl; rw [Nat.add_zero, show ((Kd.slice 2 (Kd.int .i64))).sz = 1 from rfl, Nat.mul_one] at hv206_0; replace hv206_0 := Option.some.inj (hv206_0.symm.trans hx206_0); rw [hv206_0] at ge206_0; have HL206_0 := Aside0.mk (show Kd.R (Kd.int .i64) 2 _ _ _ _ (rd_L1 t202 0) from ge206_0); clear hv206_0 ge206_0; clear hcc206 hce206; have qi206 : (0 < t202.length) = True := eq_true (by omega); (try rw [show ((0 : Int)).toNat = 0 from rfl] at hx206_0); (try rw [Addr.add_zero'] at hx206_0); have HR206_0 := Aside0.mk hi206_0; have HC206_0 := Aside0.mk hl206_0; clear hi206_0 hl206_0; replace p206 := eq_true p206; replace q206 := eq_true q206))
      go_ret2
      exact ⟨_, by first | rfl | (simp [errW_none, errW_some] <;> rfl) | (simp [*, errW_none, errW_some] <;> rfl), by first | exact Kd.R_nil _ _ _ _ _ | exact Kd.N_nil _ _ _ _ _ | exact Kd.V_nil _ _ _ _ _ | exact Kd.Q_nil _ _ _ _ _ | exact Kd.S_nil _ _ _ _ _, by repeat (first | (with_reducible first | exact HB.out | apply zzA | apply zzN | apply zzD) | exact HB.out)⟩
     ·
      rw [if_neg c12] at H
      have c12b0 : decide (30 < a3) = false := decide_eq_false c12
      clear c12
      by_cases c15 : 0 ≤ a0
      ·
       rw [if_pos c15] at H
       have c15b0 := eq_true c15
       have c15b1 : decide (0 ≤ a0) = true := decide_eq_true c15
       clear c15
       by_cases c16 : (a0 : Int).toNat ≤ 35184372088832
       ·
        rw [if_pos c16] at H
        have c16b0 := eq_true c16
        have c16b1 : decide ((a0 : Int).toNat ≤ 35184372088832) = true := decide_eq_true c16
        clear c16
        obtain ⟨y207, hy207⟩ : ∃ y_ : List Int, y_ = (List.replicate (a0 : Int).toNat 0) := ⟨_, rfl⟩
        replace H : (soft_linesP.l0 k l2 a3 y207 t202 (t202.length : Int) 0) = some (r1, r2) := by first | (rw [hy207]; with_reducible exact H) | (have H2_ := (Option.bind_some _ _).symm.trans H; rw [hy207]; with_reducible exact H2_) | (have H2_ := (Option.bind_some _ _).symm.trans H; with_reducible exact H2_) | with_reducible exact H | (rw [hy207]; exact H) | exact H
        have Ny207 := Aside0.mk hy207
        clear hy207
        have H' := Aside0.mk H
        clear H
        go_enter Try.func36, Try.ntmps36
        go_wp2_with (first | ((with_reducible refine gate_callee (f := 56) rfl ?_); refine goesL_ (some 18) rfl rfl Try.func56 (by kernel_rfl) rfl #[.int .i64 a0, .slice A1 l1.length c1] rfl (by (try simp only [List.map_toArray, List.map_cons, List.map_nil]); first | done | rfl | (simp only [List.length_drop, List.length_take]; rfl)) ?_; (with_reducible refine (soft_Rows.calls a0 _ _ l1 t202 t203 _ ?side1 ?side2 A5.out).mono ?_); (case side1 => repeat (first | exact HR1.out | (with_reducible refine ccA ?_ _) | (with_reducible refine ccN ?_ _) | (with_reducible refine ccD ?_))); (case side2 => exact HC1.out); rintro e w17 ⟨v204, rfl, ho0, hb⟩; refine ⟨_, rfl, ?_⟩; have n0_ := Aside0.mk (Kd.S_lower ho0 (zzS (by repeat (first | (with_reducible first | exact HB.out | apply zzA | apply zzN | apply zzD) | exact HB.out)))); have n1_ := Aside0.mk (zzT (by repeat (first | (with_reducible first | exact HB.out | apply zzA | apply zzN | apply zzD) | exact HB.out)) hb); clear HB; have HO205 := n0_; have HB := n1_; clear n0_ n1_; (try clear hb); (try clear hb2); (try clear hk); (try clear hi); (try clear ho0); obtain ⟨Ao18, co18, eo18⟩ := Kd.S_slice HO205.out; subst eo18; have p206 : 0 ≤ (0 : Int) := (by omega); have q206 : 0 < (t202.length : Int) := of_decide_eq_true (by first | (with_reducible assumption) | assumption); obtain ⟨ad206, A206_0, c206_0, e206, hx206_0, hl206_0, hi206_0⟩ := at_L1 (Kd.S_reads' HO205.out).2.2 0 p206 q206; cases e206; obtain ⟨ce206, hce206, hMe206, hcc206⟩ := Kd.S_get HO205.out [] 0 p206 (by first | exact q206 | exact of_decide_eq_true (by first | (with_reducible assumption) | assumption) | (have e_ := (Kd.S_reads' HO205.out).1; omega)); obtain ⟨ve206_0, rfl, ge206_0⟩ := hMe206; have hv206_0 := hcc206 0 _ rfl; rw [Nat.add_zero, show ((Kd.slice 2 (Kd.int .i64))).sz = 1 from rfl, Nat.mul_one] at hv206_0; replace hv206_0 := Option.some.inj (hv206_0.symm.trans hx206_0); rw [hv206_0] at ge206_0; have HL206_0 := Aside0.mk (show Kd.R (Kd.int .i64) 2 _ _ _ _ (rd_L1 t202 0) from ge206_0); clear hv206_0 ge206_0; clear hcc206 hce206; have qi206 : (0 < t202.length) = True := eq_true (by omega); (try rw [show ((0 : Int)).toNat = 0 from rfl] at hx206_0); (try rw [Addr.add_zero'] at hx206_0); have HR206_0 := Aside0.mk hi206_0; have HC206_0 := Aside0.mk hl206_0; clear hi206_0 hl206_0; replace p206 := eq_true p206; replace q206 := eq_true q206) | ((with_reducible refine gate_dst (N := 42) rfl ?_); refine Kd.R_make (Kd.int .i64) _ 2 rfl (N := 42) rfl 26 _ _ rfl a0 rfl rfl Try.underlying26 (.int .i64 0) 8 info2 rfl (by decide) (by omega) 0 (ok := fun _ => True) (okp := fun _ => True) rfl (fun _ hk => hk) trivial (of_decide_eq_true (by first | (with_reducible assumption) | assumption)) (Nat.le_trans (Nat.mul_le_mul_right _ (of_decide_eq_true (by first | (with_reducible assumption) | assumption) : a0.toNat ≤ 35184372088832)) (by omega)) (Below.refl _ _) (Nat.le_refl _) ?_; intro v208 w19 ho20 hb hg_ hnew_; clear hg_ hnew_; (first | rw [← Ny207.out] at ho20 | (simp only [Int.reduceToNat] at ho20; rw [← Ny207.out] at ho20)); have n0_ := Aside0.mk (Kd.S_elder' (by (with_reducible repeat (first | apply Kd.S_alloc | apply Kd.S_drewN | apply Kd.S_drew)); exact HO205.out) (Kd.R_base ho20) hb); have n1_ := Aside0.mk (Kd.R_elder' (by (with_reducible repeat (first | apply rrA | apply rrN | apply rrD)); exact HL206_0.out) (Kd.R_base ho20) hb); have n2_ := Aside0.mk (Kd.R_lower (Kd.R_new' ho20 (Kd.R_lt (by (with_reducible repeat (first | apply rrA | apply rrN | apply rrD)); exact HL206_0.out))) (zzS (by repeat (first | (with_reducible first | exact HB.out | apply zzA | apply zzN | apply zzD) | exact HB.out)))); have n3_ := Aside0.mk (Kd.C_below (by repeat (first | (with_reducible exact HR206_0.out) | (with_reducible refine ccA ?_ _) | (with_reducible refine ccN ?_ _) | (with_reducible refine ccD ?_) | exact HR206_0.out)) hb); have n4_ := Aside0.mk (zzT (by repeat (first | (with_reducible first | exact HB.out | apply zzA | apply zzN | apply zzD) | exact HB.out)) hb); clear HO205; clear HL206_0; clear HR206_0; clear HB; have HO205 := n0_; have HL206_0 := n1_; have HO209 := n2_; have HR206_0 := n3_; have HB := n4_; clear n0_ n1_ n2_ n3_ n4_; clear hb ho20))
        go_loopg [45] k (fun kq v45 w' => ∃ (x12_1 : List Int) (x45_1 : Int), v45 = .int .i64 x45_1 ∧ Aside0 (soft_linesP.l0 kq l2 a3 x12_1 t202 (t202.length : Int) x45_1 = some (r1, r2)) ∧ Aside0 (kq ≤ k) ∧ Aside0 (Kd.R (Kd.int .i64) 2 w' w.heap.size (fun _ => True) v208 x12_1) ∧ Aside0 (Kd.S (Kd.slice 2 (Kd.int .i64)) 26 w' w.heap.size (fun k_ => some k_ ≠ (v208 : Value).ownBlock) (.slice (some ad206) t202.length co18) t202) ∧ Aside0 (Below w.heap.size w w'))
        case atStart => exact ⟨(y207), (0), (by first | rfl | (simp; done) | (simp [*]; done)), H', ⟨Nat.le_refl _⟩, ⟨by (with_reducible repeat (first | apply rrA | apply rrN | apply rrD)); exact Kd.R_mono HO209.out (fun _ hk => trivial)⟩, ⟨by (with_reducible repeat (first | apply Kd.S_alloc | apply Kd.S_drewN | apply Kd.S_drew)); exact Kd.S_mono HO205.out (fun _ hk => hk.2)⟩, ⟨by repeat (first | (with_reducible first | exact HB.out | apply zzA | apply zzN | apply zzD) | exact HB.out)⟩⟩
        case round =>
         clear H'
         try clear c1
         try clear c2
         try clear p2
         try clear q2
         try clear hx2
         try clear qi2
         try clear c3
         try clear c5
         try clear c6
         try clear c6b0
         try clear c6b1
         try clear p6
         try clear c7
         try clear c7b0
         try clear c7b1
         try clear c8
         try clear c8b0
         try clear c8b1
         try clear c9
         try clear c9b0
         try clear c12
         try clear c12b0
         try clear c15
         try clear c15b0
         try clear c15b1
         try clear c16
         try clear c16b0
         try clear c16b1
         try clear c20
         try clear p20
         try clear q20
         try clear hx20
         try clear qi20
         try clear hx206_0
         try clear p206
         try clear q206
         obtain ⟨x12_1, x45_1, rfl, HA, HK1, HO_12, HO_43, HB⟩ := hrel
         cases gk with
         | zero => exact absurd HA.out (by simp [soft_linesP.l0])
         | succ k1 =>
          have H := HA.out
          clear HA
          simp only [soft_linesP.l0] at H
          by_cases c21 : x45_1 < (t202.length : Int)
          ·
           rw [if_pos c21] at H
           have c21b0 : decide (x45_1 < (t202.length : Int)) = true := decide_eq_true c21
           clear c21
           by_cases c22 : 0 ≤ x45_1
           ·
            rw [if_pos c22] at H
            have c22b0 : decide (0 ≤ x45_1) = true := decide_eq_true c22
            clear c22
            by_cases c23 : x45_1 < (t202.length : Int)
            ·
             rw [if_pos c23] at H
             have c23b0 : decide (x45_1 < (t202.length : Int)) = true := decide_eq_true c23
             clear c23
             replace H := Option.bind_eq_some_iff.mp H
             obtain ⟨⟨t211, t212⟩, A240, H⟩ := H
             replace H : (if x45_1 < (x12_1.length : Int) then (if t212 = 0 then (soft_linesP.l0 k1 l2 a3 (x12_1.set (x45_1 : Int).toNat t211) t202 (t202.length : Int) (wrap64 (x45_1 + 1))) else (some (([] : List Int), t212))) else (none)) = some (r1, r2) := H
             have A24 := Aside0.mk A240
             clear A240
             by_cases c25 : x45_1 < (x12_1.length : Int)
             ·
              rw [if_pos c25] at H
              have c25b0 : decide (x45_1 < (x12_1.length : Int)) = true := decide_eq_true c25
              clear c25
              obtain ⟨y213, hy213⟩ : ∃ y_ : List Int, y_ = (x12_1.set (x45_1 : Int).toNat t211) := ⟨_, rfl⟩
              replace H : (if t212 = 0 then (soft_linesP.l0 k1 l2 a3 y213 t202 (t202.length : Int) (wrap64 (x45_1 + 1))) else (some (([] : List Int), t212))) = some (r1, r2) := by first | (rw [hy213]; with_reducible exact H) | (have H2_ := (Option.bind_some _ _).symm.trans H; rw [hy213]; with_reducible exact H2_) | (have H2_ := (Option.bind_some _ _).symm.trans H; with_reducible exact H2_) | with_reducible exact H | (rw [hy213]; exact H) | exact H
              have Ny213 := Aside0.mk hy213
              clear hy213
              by_cases c27 : t212 = 0
              ·
               rw [if_pos c27] at H
               have c27b0 : (t212 == 0) = true := beq_iff_eq.mpr c27
               have c27b1 : (t212 != 0) = false := bne_eq_false_iff_eq.mpr c27
               clear c27
               have H' := Aside0.mk H
               clear H
               have p210 : 0 ≤ (x45_1 : Int) := of_decide_eq_true (by first | (with_reducible assumption) | assumption)
               have q210 : x45_1 < (t202.length : Int) := of_decide_eq_true (by first | (with_reducible assumption) | assumption)
               obtain ⟨ad210, A210_0, c210_0, e210, hx210_0, hl210_0, hi210_0⟩ := at_L1 (Kd.S_reads' HO_43.out).2.2 x45_1 p210 q210
               obtain rfl : ad206 = ad210 := (by injection e210)
               obtain ⟨ce210, hce210, hMe210, hcc210⟩ := Kd.S_get HO_43.out [] x45_1 p210 (by first | exact q210 | exact of_decide_eq_true (by first | (with_reducible assumption) | assumption) | (have e_ := (Kd.S_reads' HO_43.out).1; omega))
               obtain ⟨ve210_0, rfl, ge210_0⟩ := hMe210
               have hv210_0 := hcc210 0 _ rfl
               rw [Nat.add_zero, show ((Kd.slice 2 (Kd.int .i64))).sz = 1 from rfl, Nat.mul_one] at hv210_0
               replace hv210_0 := Option.some.inj (hv210_0.symm.trans hx210_0)
               rw [hv210_0] at ge210_0
               have HL210_0 := Aside0.mk (show Kd.R (Kd.int .i64) 2 _ _ _ _ (rd_L1 t202 x45_1) from ge210_0)
               clear hv210_0 ge210_0
               clear hcc210 hce210
               have HR210_0 := Aside0.mk hi210_0
               have HC210_0 := Aside0.mk hl210_0
               clear hi210_0 hl210_0
               replace p210 := eq_true p210
               replace q210 := eq_true q210
               go_wp2_with (first | ((with_reducible refine gate_callee (f := 22) rfl ?_); refine goesL_ (some 56) rfl rfl Try.func22 (by kernel_rfl) rfl #[.slice A210_0 (rd_L1 t202 x45_1).length c210_0, .slice A2 l2.length c2, .int .i64 a3] rfl (by (try simp only [List.map_toArray, List.map_cons, List.map_nil]); first | done | rfl | (simp only [List.length_drop, List.length_take]; rfl)) ?_; (with_reducible refine (linear_Tell.calls _ _ (rd_L1 t202 x45_1) (fun k_ => k_ < w.heap.size) _ _ l2 a3 t211 t212 _ ?side1 ?side2 ?side3 A24.out).mono ?_); (case side1 => repeat (first | exact (by repeat (first | (with_reducible exact HR210_0.out) | (with_reducible refine ccA ?_ _) | (with_reducible refine ccN ?_ _) | (with_reducible refine ccD ?_) | exact HR210_0.out)) | (with_reducible refine ccA ?_ _) | (with_reducible refine ccN ?_ _) | (with_reducible refine ccD ?_))); (case side2 => exact HC210_0.out); (case side3 => exact Kd.V_mk HC2.out (Kd.F_below (Kd.C_F (Kd.heap_int .i64) HR2.out) (by repeat (first | (with_reducible first | exact HB.out | apply zzA | apply zzN | apply zzD) | exact HB.out)))); rintro e w28 ⟨rfl, hb⟩; refine ⟨_, rfl, ?_⟩; have n0_ := Aside0.mk (Kd.R_below (by (with_reducible repeat (first | apply rrA | apply rrN | apply rrD)); exact HO_12.out) hb); have n1_ := Aside0.mk (Kd.S_below (by (with_reducible repeat (first | apply Kd.S_alloc | apply Kd.S_drewN | apply Kd.S_drew)); exact HO_43.out) hb); have n2_ := Aside0.mk (Kd.R_below (by (with_reducible repeat (first | apply rrA | apply rrN | apply rrD)); exact HL210_0.out) hb); have n3_ := Aside0.mk (Kd.C_below (by repeat (first | (with_reducible exact HR210_0.out) | (with_reducible refine ccA ?_ _) | (with_reducible refine ccN ?_ _) | (with_reducible refine ccD ?_) | exact HR210_0.out)) hb); have n4_ := Aside0.mk (zzT (by repeat (first | (with_reducible first | exact HB.out | apply zzA | apply zzN | apply zzD) | exact HB.out)) hb); clear HO_12; clear HO_43; clear HL210_0; clear HR210_0; clear HB; have HO_12 := n0_; have HO_43 := n1_; have HL210_0 := n2_; have HR210_0 := n3_; have HB := n4_; clear n0_ n1_ n2_ n3_ n4_; (try clear hb); (try clear hb2); (try clear hk); (try clear hi); have p26 : 0 ≤ (x45_1 : Int) := of_decide_eq_true (by first | (with_reducible assumption) | assumption); have q26 : (x45_1 : Int) < ((x12_1.length : Int) : Int) := of_decide_eq_true (by first | (with_reducible assumption) | assumption); obtain ⟨go26, co26, eo26, gb26, gl26, cl26, HG26⟩ := Kd.R_form HO_12.out (by omega); (first | cases eo26 | (injection eo26 with ea_ en_ ec_; (first | subst ea_ | (injection ea_ with ea_; subst ea_)); subst ec_; clear en_)); have GB26 := Aside0.mk gb26; have GG26 := Aside0.mk HG26; clear gb26 gl26 HG26; obtain ⟨hx26_0, hf26_0⟩ := Kd.R_celln 0 HO_12.out (x45_1 : Int) p26 q26; replace p26 := eq_true p26; replace q26 := eq_true q26; obtain ⟨hy29_, hz29_⟩ := Kd.R_celln 0 HO_12.out (x45_1 : Int) (of_decide_eq_true (by first | (with_reducible assumption) | assumption)) (of_decide_eq_true (by first | (with_reducible assumption) | assumption)); have HP29 := Kd.R_putg HO_12.out (x45_1 : Int) t211) | ((with_reducible refine gate_store (t := 2) (p := 59) rfl ?_); refine store_event (t := 2) (p := 59) (v := ?vo_w30) (w1 := (w28.setCell ⟨go26, (x45_1 : Int).toNat, none⟩ (.int .i64 t211))) ?hg ?ho ?hn ?hr ?_; (case ho => rfl); (case hg => rfl); (case hn => rfl); (case hr => first | (go_simp; done) | (go_simp; rfl)); intro w30 hw; have hg : w28.grownBy w30 (some go26) := (by rw [hw]; exact HP29.2); have hp_ : Kd.R (Kd.int .i64) 2 w30 w.heap.size (fun _ => True) (.slice (some ⟨go26, 0, none⟩) x12_1.length co26) y213 := (by rw [hw, Ny213.out]; exact HP29.1); clear HP29; have n0_ := Aside0.mk (hp_); have n1_ := Aside0.mk (Kd.S_after (v := (.slice (some ⟨go26, 0, none⟩) x12_1.length co26)) (v1 := (.slice (some ⟨go26, 0, none⟩) x12_1.length co26)) (ok := (fun _ => True)) (by (with_reducible repeat (first | apply Kd.S_alloc | apply Kd.S_drewN | apply Kd.S_drew)); exact Kd.S_mono HO_43.out (fun _ hk => ⟨trivial, hk⟩)) hg (.inl rfl)); have n2_ := Aside0.mk (Kd.R_after (v := (.slice (some ⟨go26, 0, none⟩) x12_1.length co26)) (v1 := (.slice (some ⟨go26, 0, none⟩) x12_1.length co26)) (ok := (fun k_ => some k_ ≠ (.slice (some ad206) t202.length co18 : Value).ownBlock)) (by (with_reducible repeat (first | apply rrA | apply rrN | apply rrD)); exact Kd.R_mono HL210_0.out (fun _ hk => ⟨hk.2, hk.1⟩)) hg (.inl rfl)); have n3_ := Aside0.mk ((by rw [hw]; exact below_set (HB.out) GB26.out : Below w.heap.size w w30)); clear HO_12; clear HO_43; clear HL210_0; clear HB; have HO_12 := n0_; have HO_43 := n1_; have HL210_0 := n2_; have HB := n3_; clear n0_ n1_ n2_ n3_; clear hg hw hp_))
               go_roundg k1
               case measure => have := HK1.out; omega
               case rel => exact ⟨(y213), (wrap64 (x45_1 + 1)), (by first | rfl | (simp; done) | (simp [*]; done)), H', ⟨by have := HK1.out; omega⟩, ⟨by (with_reducible repeat (first | apply rrA | apply rrN | apply rrD)); exact HO_12.out⟩, ⟨by (with_reducible repeat (first | apply Kd.S_alloc | apply Kd.S_drewN | apply Kd.S_drew)); exact Kd.S_mono HO_43.out (fun _ hk => hk.2)⟩, ⟨by repeat (first | (with_reducible first | exact HB.out | apply zzA | apply zzN | apply zzD) | exact HB.out)⟩⟩
              ·
               rw [if_neg c27] at H
               have c27b0 : (t212 == 0) = false := beq_eq_false_iff_ne.mpr c27
               have c27b1 : (t212 != 0) = true := bne_iff_ne.mpr c27
               simp only [Option.some.injEq, Prod.mk.injEq] at H
               obtain ⟨rfl, rfl⟩ := H
               have p210 : 0 ≤ (x45_1 : Int) := of_decide_eq_true (by first | (with_reducible assumption) | assumption)
               have q210 : x45_1 < (t202.length : Int) := of_decide_eq_true (by first | (with_reducible assumption) | assumption)
               obtain ⟨ad210, A210_0, c210_0, e210, hx210_0, hl210_0, hi210_0⟩ := at_L1 (Kd.S_reads' HO_43.out).2.2 x45_1 p210 q210
               obtain rfl : ad206 = ad210 := (by injection e210)
               obtain ⟨ce210, hce210, hMe210, hcc210⟩ := Kd.S_get HO_43.out [] x45_1 p210 (by first | exact q210 | exact of_decide_eq_true (by first | (with_reducible assumption) | assumption) | (have e_ := (Kd.S_reads' HO_43.out).1; omega))
               obtain ⟨ve210_0, rfl, ge210_0⟩ := hMe210
               have hv210_0 := hcc210 0 _ rfl
               rw [Nat.add_zero, show ((Kd.slice 2 (Kd.int .i64))).sz = 1 from rfl, Nat.mul_one] at hv210_0
               replace hv210_0 := Option.some.inj (hv210_0.symm.trans hx210_0)
               rw [hv210_0] at ge210_0
               have HL210_0 := Aside0.mk (show Kd.R (Kd.int .i64) 2 _ _ _ _ (rd_L1 t202 x45_1) from ge210_0)
               clear hv210_0 ge210_0
               clear hcc210 hce210
               have HR210_0 := Aside0.mk hi210_0
               have HC210_0 := Aside0.mk hl210_0
               clear hi210_0 hl210_0
               replace p210 := eq_true p210
               replace q210 := eq_true q210
               go_wp2_with (first | ((with_reducible refine gate_callee (f := 22) rfl ?_); refine goesL_ (some 56) rfl rfl Try.func22 (by kernel_rfl) rfl #[.slice A210_0 (rd_L1 t202 x45_1).length c210_0, .slice A2 l2.length c2, .int .i64 a3] rfl (by (try simp only [List.map_toArray, List.map_cons, List.map_nil]); first | done | rfl | (simp only [List.length_drop, List.length_take]; rfl)) ?_; (with_reducible refine (linear_Tell.calls _ _ (rd_L1 t202 x45_1) (fun k_ => k_ < w.heap.size) _ _ l2 a3 t211 t212 _ ?side1 ?side2 ?side3 A24.out).mono ?_); (case side1 => repeat (first | exact (by repeat (first | (with_reducible exact HR210_0.out) | (with_reducible refine ccA ?_ _) | (with_reducible refine ccN ?_ _) | (with_reducible refine ccD ?_) | exact HR210_0.out)) | (with_reducible refine ccA ?_ _) | (with_reducible refine ccN ?_ _) | (with_reducible refine ccD ?_))); (case side2 => exact HC210_0.out); (case side3 => exact Kd.V_mk HC2.out (Kd.F_below (Kd.C_F (Kd.heap_int .i64) HR2.out) (by repeat (first | (with_reducible first | exact HB.out | apply zzA | apply zzN | apply zzD) | exact HB.out)))); rintro e w31 ⟨rfl, hb⟩; refine ⟨_, rfl, ?_⟩; have n0_ := Aside0.mk (Kd.R_below (by (with_reducible repeat (first | apply rrA | apply rrN | apply rrD)); exact HO_12.out) hb); have n1_ := Aside0.mk (Kd.S_below (by (with_reducible repeat (first | apply Kd.S_alloc | apply Kd.S_drewN | apply Kd.S_drew)); exact HO_43.out) hb); have n2_ := Aside0.mk (Kd.R_below (by (with_reducible repeat (first | apply rrA | apply rrN | apply rrD)); exact HL210_0.out) hb); have n3_ := Aside0.mk (Kd.C_below (by repeat (first | (with_reducible exact HR210_0.out) | (with_reducible refine ccA ?_ _) | (with_reducible refine ccN ?_ _) | (with_reducible refine ccD ?_) | exact HR210_0.out)) hb); have n4_ := Aside0.mk (zzT (by repeat (first | (with_reducible first | exact HB.out | apply zzA | apply zzN | apply zzD) | exact HB.out)) hb); clear HO_12; clear HO_43; clear HL210_0; clear HR210_0; clear HB; have HO_12 := n0_; have HO_43 := n1_; have HL210_0 := n2_; have HR210_0 := n3_; have HB := n4_; clear n0_ n1_ n2_ n3_ n4_; (try clear hb); (try clear hb2); (try clear hk); (try clear hi); have p26 : 0 ≤ (x45_1 : Int) := of_decide_eq_true (by first | (with_reducible assumption) | assumption); have q26 : (x45_1 : Int) < ((x12_1.length : Int) : Int) := of_decide_eq_true (by first | (with_reducible assumption) | assumption); obtain ⟨go26, co26, eo26, gb26, gl26, cl26, HG26⟩ := Kd.R_form HO_12.out (by omega); (first | cases eo26 | (injection eo26 with ea_ en_ ec_; (first | subst ea_ | (injection ea_ with ea_; subst ea_)); subst ec_; clear en_)); have GB26 := Aside0.mk gb26; have GG26 := Aside0.mk HG26; clear gb26 gl26 HG26; obtain ⟨hx26_0, hf26_0⟩ := Kd.R_celln 0 HO_12.out (x45_1 : Int) p26 q26; replace p26 := eq_true p26; replace q26 := eq_true q26; obtain ⟨hy32_, hz32_⟩ := Kd.R_celln 0 HO_12.out (x45_1 : Int) (of_decide_eq_true (by first | (with_reducible assumption) | assumption)) (of_decide_eq_true (by first | (with_reducible assumption) | assumption)); have HP32 := Kd.R_putg HO_12.out (x45_1 : Int) t211) | ((with_reducible refine gate_store (t := 2) (p := 59) rfl ?_); refine store_event (t := 2) (p := 59) (v := ?vo_w33) (w1 := (w31.setCell ⟨go26, (x45_1 : Int).toNat, none⟩ (.int .i64 t211))) ?hg ?ho ?hn ?hr ?_; (case ho => rfl); (case hg => rfl); (case hn => rfl); (case hr => first | (go_simp; done) | (go_simp; rfl)); intro w33 hw; have hg : w31.grownBy w33 (some go26) := (by rw [hw]; exact HP32.2); have hp_ : Kd.R (Kd.int .i64) 2 w33 w.heap.size (fun _ => True) (.slice (some ⟨go26, 0, none⟩) x12_1.length co26) y213 := (by rw [hw, Ny213.out]; exact HP32.1); clear HP32; have n0_ := Aside0.mk (hp_); have n1_ := Aside0.mk (Kd.S_after (v := (.slice (some ⟨go26, 0, none⟩) x12_1.length co26)) (v1 := (.slice (some ⟨go26, 0, none⟩) x12_1.length co26)) (ok := (fun _ => True)) (by (with_reducible repeat (first | apply Kd.S_alloc | apply Kd.S_drewN | apply Kd.S_drew)); exact Kd.S_mono HO_43.out (fun _ hk => ⟨trivial, hk⟩)) hg (.inl rfl)); have n2_ := Aside0.mk (Kd.R_after (v := (.slice (some ⟨go26, 0, none⟩) x12_1.length co26)) (v1 := (.slice (some ⟨go26, 0, none⟩) x12_1.length co26)) (ok := (fun k_ => some k_ ≠ (.slice (some ad206) t202.length co18 : Value).ownBlock)) (by (with_reducible repeat (first | apply rrA | apply rrN | apply rrD)); exact Kd.R_mono HL210_0.out (fun _ hk => ⟨hk.2, hk.1⟩)) hg (.inl rfl)); have n3_ := Aside0.mk ((by rw [hw]; exact below_set (HB.out) GB26.out : Below w.heap.size w w33)); clear HO_12; clear HO_43; clear HL210_0; clear HB; have HO_12 := n0_; have HO_43 := n1_; have HL210_0 := n2_; have HB := n3_; clear n0_ n1_ n2_ n3_; clear hg hw hp_))
               go_ret2
               exact ⟨_, by first | rfl | (simp [errW_none, errW_some] <;> rfl) | (simp [*, errW_none, errW_some] <;> rfl), by first | exact Kd.R_nil _ _ _ _ _ | exact Kd.N_nil _ _ _ _ _ | exact Kd.V_nil _ _ _ _ _ | exact Kd.Q_nil _ _ _ _ _ | exact Kd.S_nil _ _ _ _ _, by repeat (first | (with_reducible first | exact HB.out | apply zzA | apply zzN | apply zzD) | exact HB.out)⟩
             ·
              rw [if_neg c25] at H
              exact absurd H (by simp)
            ·
             rw [if_neg c23] at H
             exact absurd H (by simp)
           ·
            rw [if_neg c22] at H
            exact absurd H (by simp)
          ·
           rw [if_neg c21] at H
           have c21b0 : decide (x45_1 < (t202.length : Int)) = false := decide_eq_false c21
           clear c21
           simp only [Option.some.injEq, Prod.mk.injEq] at H
           obtain ⟨rfl, rfl⟩ := H
           go_wp2
           go_ret2
           exact ⟨_, by first | rfl | (simp [errW_none, errW_some] <;> rfl) | (simp [*, errW_none, errW_some] <;> rfl), by (with_reducible repeat (first | apply rrA | apply rrN | apply rrD)); exact HO_12.out, by repeat (first | (with_reducible first | exact HB.out | apply zzA | apply zzN | apply zzD) | exact HB.out)⟩
       ·
        rw [if_neg c16] at H
        exact absurd H (by simp)
      ·
       rw [if_neg c15] at H
       exact absurd H (by simp)
   ·
    rw [if_neg c8] at H
    have c8b0 : ((wrap64 (((rd_L1 t202 0).length : Int) - 1)) == (l2.length : Int)) = false := beq_eq_false_iff_ne.mpr c8
    have c8b1 : ((wrap64 (((rd_L1 t202 0).length : Int) - 1)) != (l2.length : Int)) = true := bne_iff_ne.mpr c8
    simp only [Option.some.injEq, Prod.mk.injEq] at H
    obtain ⟨rfl, rfl⟩ := H
    go_enter Try.func36, Try.ntmps36
    go_wp2_with (first | ((with_reducible refine gate_callee (f := 56) rfl ?_); refine goesL_ (some 18) rfl rfl Try.func56 (by kernel_rfl) rfl #[.int .i64 a0, .slice A1 l1.length c1] rfl (by (try simp only [List.map_toArray, List.map_cons, List.map_nil]); first | done | rfl | (simp only [List.length_drop, List.length_take]; rfl)) ?_; (with_reducible refine (soft_Rows.calls a0 _ _ l1 t202 t203 _ ?side1 ?side2 A5.out).mono ?_); (case side1 => repeat (first | exact HR1.out | (with_reducible refine ccA ?_ _) | (with_reducible refine ccN ?_ _) | (with_reducible refine ccD ?_))); (case side2 => exact HC1.out); rintro e w34 ⟨v204, rfl, ho0, hb⟩; refine ⟨_, rfl, ?_⟩; have n0_ := Aside0.mk (Kd.S_lower ho0 (zzS (by repeat (first | (with_reducible first | exact HB.out | apply zzA | apply zzN | apply zzD) | exact HB.out)))); have n1_ := Aside0.mk (zzT (by repeat (first | (with_reducible first | exact HB.out | apply zzA | apply zzN | apply zzD) | exact HB.out)) hb); clear HB; have HO205 := n0_; have HB := n1_; clear n0_ n1_; (try clear hb); (try clear hb2); (try clear hk); (try clear hi); (try clear ho0); obtain ⟨Ao35, co35, eo35⟩ := Kd.S_slice HO205.out; subst eo35; have p206 : 0 ≤ (0 : Int) := (by omega); have q206 : 0 < (t202.length : Int) := of_decide_eq_true (by first | (with_reducible assumption) | assumption); obtain ⟨ad206, A206_0, c206_0, e206, hx206_0, hl206_0, hi206_0⟩ := at_L1 (Kd.S_reads' HO205.out).2.2 0 p206 q206; cases e206; obtain ⟨ce206, hce206, hMe206, hcc206⟩ := Kd.S_get HO205.out [] 0 p206 (by first | exact q206 | exact of_decide_eq_true (by first | (with_reducible assumption) | assumption) | (have e_ := (Kd.S_reads' HO205.out).1; omega)); obtain ⟨ve206_0, rfl, ge206_0⟩ := hMe206; have hv206_0 := hcc206 0 _ rfl; rw [Nat.add_zero, show ((Kd.slice 2 (Kd.int .i64))).sz = 1 from rfl, Nat.mul_one] at hv206_0; replace hv206_0 := Option.some.inj (hv206_0.symm.trans hx206_0); rw [hv206_0] at ge206_0; have HL206_0 := Aside0.mk (show Kd.R (Kd.int .i64) 2 _ _ _ _ (rd_L1 t202 0) from ge206_0); clear hv206_0 ge206_0; clear hcc206 hce206; have qi206 : (0 < t202.length) = True := eq_true (by omega); (try rw [show ((0 : Int)).toNat = 0 from rfl] at hx206_0); (try rw [Addr.add_zero'] at hx206_0); have HR206_0 := Aside0.mk hi206_0; have HC206_0 := Aside0.mk hl206_0; clear hi206_0 hl206_0; replace p206 := eq_true p206; replace q206 := eq_true q206))
    go_ret2
    exact ⟨_, by first | rfl | (simp [errW_none, errW_some] <;> rfl) | (simp [*, errW_none, errW_some] <;> rfl), by first | exact Kd.R_nil _ _ _ _ _ | exact Kd.N_nil _ _ _ _ _ | exact Kd.V_nil _ _ _ _ _ | exact Kd.Q_nil _ _ _ _ _ | exact Kd.S_nil _ _ _ _ _, by repeat (first | (with_reducible first | exact HB.out | apply zzA | apply zzN | apply zzD) | exact HB.out)⟩
  ·
   rw [if_neg c7] at H
   exact absurd H (by simp)
 ·
  rw [if_neg c6] at H
  have c6b0 : (t203 == 0) = false := beq_eq_false_iff_ne.mpr c6
  have c6b1 : (t203 != 0) = true := bne_iff_ne.mpr c6
  simp only [Option.some.injEq, Prod.mk.injEq] at H
  obtain ⟨rfl, rfl⟩ := H
  go_enter Try.func36, Try.ntmps36
  go_wp2_with (first | ((with_reducible refine gate_callee (f := 56) rfl ?_); refine goesL_ (some 18) rfl rfl Try.func56 (by kernel_rfl) rfl #[.int .i64 a0, .slice A1 l1.length c1] rfl (by (try simp only [List.map_toArray, List.map_cons, List.map_nil]); first | done | rfl | (simp only [List.length_drop, List.length_take]; rfl)) ?_; (with_reducible refine (soft_Rows.calls a0 _ _ l1 t202 t203 _ ?side1 ?side2 A5.out).mono ?_); (case side1 => repeat (first | exact HR1.out | (with_reducible refine ccA ?_ _) | (with_reducible refine ccN ?_ _) | (with_reducible refine ccD ?_))); (case side2 => exact HC1.out); rintro e w36 ⟨v204, rfl, ho0, hb⟩; refine ⟨_, rfl, ?_⟩; have n0_ := Aside0.mk (Kd.S_lower ho0 (zzS (by repeat (first | (with_reducible first | exact HB.out | apply zzA | apply zzN | apply zzD) | exact HB.out)))); have n1_ := Aside0.mk (zzT (by repeat (first | (with_reducible first | exact HB.out | apply zzA | apply zzN | apply zzD) | exact HB.out)) hb); clear HB; have HO205 := n0_; have HB := n1_; clear n0_ n1_; (try clear hb); (try clear hb2); (try clear hk); (try clear hi); (try clear ho0)))
  go_ret2
  exact ⟨_, by first | rfl | (simp [errW_none, errW_some] <;> rfl) | (simp [*, errW_none, errW_some] <;> rfl), by first | exact Kd.R_nil _ _ _ _ _ | exact Kd.N_nil _ _ _ _ _ | exact Kd.V_nil _ _ _ _ _ | exact Kd.Q_nil _ _ _ _ _ | exact Kd.S_nil _ _ _ _ _, by repeat (first | (with_reducible first | exact HB.out | apply zzA | apply zzN | apply zzD) | exact HB.out)⟩

def soft_lines.f (a0 : Int) (l1 l2 : List Int) (a3 : Int) : Option (List Int × Int) := if V64 l1 ∧ V64 l2 then some (linesS a0 l1 l2 a3) else none
theorem soft_lines.of (a0 : Int) (l1 l2 : List Int) (a3 : Int)  (h_ : V64 l1 ∧ V64 l2) : soft_lines.f a0 l1 l2 a3 = some (linesS a0 l1 l2 a3) := if_pos h_
theorem soft_linesP.loop (x : List Int) (f : Int) (rows : List (List Int)) (hx : V64 x) (hrv : ∀ r ∈ rows, V64 r) (hb : rows.length ≤ 9223372036854775806) : ∀ (d i : Nat) (acc : List Int), d + i = rows.length → acc.length = rows.length →
    soft_linesP.l0 (d + 1) x f acc rows (rows.length : Int) (i : Int) = some (if (seqV ((rows.drop i).map fun row => tellL row x f)).2 = 0 then (acc.take i ++ (seqV ((rows.drop i).map fun row => tellL row x f)).1, 0) else ([], (seqV ((rows.drop i).map fun row => tellL row x f)).2)) := by
  intro d
  induction d with
  | zero =>
    intro i acc hd ha
    rw [soft_linesP.l0, if_neg (by omega), List.drop_eq_nil_of_le (by omega)]
    simp only [List.map_nil, seqV, if_true, List.append_nil]
    rw [List.take_of_length_le (by omega)]
  | succ d ih =>
    intro i acc hd ha
    have hi : i < rows.length := by omega
    have hrd : rd_L1 rows (i : Int) = rows[i] := by unfold rd_L1; rw [Int.toNat_natCast, List.getD_eq_getElem?_getD, List.getElem?_eq_getElem hi, Option.getD_some]
    rw [soft_linesP.l0, if_pos (by omega), if_pos (by omega), if_pos (by omega), hrd, linear_Tell.of _ _ _ ⟨hrv _ (List.getElem_mem hi), hx⟩, Option.bind_some, if_pos (by omega), List.drop_eq_getElem_cons hi, List.map_cons]
    obtain ⟨⟨t, e⟩, hp⟩ : ∃ p, tellL rows[i] x f = p := ⟨_, rfl⟩
    rw [hp]
    simp only [seqV]
    by_cases c : e = 0
    · rw [if_pos c, if_pos c, wrap64_of (by unfold I64; omega), show (i : Int) + 1 = ((i + 1 : Nat) : Int) by omega, Int.toNat_natCast, ih (i + 1) _ (by omega) (by rw [List.length_set]; exact ha)]
      obtain ⟨⟨ys, e2⟩, hq⟩ : ∃ p, seqV ((rows.drop (i + 1)).map fun row => tellL row x f) = p := ⟨_, rfl⟩
      rw [hq]
      simp only []
      by_cases c2 : e2 = 0
      · rw [if_pos c2, if_pos c2, if_pos rfl]
        have ht : (acc.set i t).take (i + 1) = acc.take i ++ [t] := by
          rw [List.take_add_one, List.getElem?_set_self (by omega), List.take_set_of_le (Nat.le_refl _)]; rfl
        rw [ht, List.append_assoc]; rfl
      · rw [if_neg c2, if_neg c2, if_neg c2]
    · rw [if_neg c, if_neg c, if_neg c]
theorem soft_linesP.is (o : Int) (w x : List Int) (f : Int) (hw : V64 w) (hx : V64 x) : soft_linesP.f ((rowsS o w).1.length + 1) o w x f = some (linesS o w x f) := by
  unfold soft_linesP.f linesS soft_Rows.f
  rw [Option.bind_some]
  by_cases c : (rowsS o w).2 = 0
  · rw [if_pos c, if_neg (not_not_intro c)]
    obtain ⟨k, m, rfl, hk2, hk8, hm2, hm17, hmk, hr⟩ := rowsS_good c
    have hlen : (rowsS (k : Int) w).1.length = k := by rw [hr, chunksS_length]
    have hhd : ((rowsS (k : Int) w).1.getD 0 []).length = m := by rw [hr]; exact chunks_head hmk (by omega)
    have hrd : rd_L1 (rowsS (k : Int) w).1 0 = (rowsS (k : Int) w).1.getD 0 [] := rfl
    rw [if_pos (by omega), hrd, hhd, wrap64_of (by unfold I64; omega)]
    by_cases c2 : (m : Int) - 1 = x.length
    · rw [if_pos c2, if_neg (not_not_intro c2)]
      by_cases c3 : f < 0
      · rw [if_pos c3, if_pos (.inl c3)]
      · rw [if_neg c3]
        by_cases c4 : f > 30
        · rw [if_pos c4, if_pos (.inr c4)]
        · rw [if_neg c4, if_neg (show ¬ (f < 0 ∨ f > 30) by omega), if_pos (by omega), if_pos (by omega)]
          have := soft_linesP.loop x f (rowsS (k : Int) w).1 hx (by rw [hr]; exact fun r h => chunks_v64 hmk hw h) (by omega) (rowsS (k : Int) w).1.length 0 (List.replicate ((k : Int)).toNat 0) (by omega) (by rw [List.length_replicate, hlen, Int.toNat_natCast])
          rw [show ((0 : Nat) : Int) = 0 from rfl] at this
          rw [this, List.drop_zero, List.take_zero, List.nil_append]
          obtain ⟨⟨ys, e2⟩, hq⟩ : ∃ p, seqV ((rowsS (k : Int) w).1.map fun row => tellL row x f) = p := ⟨_, rfl⟩
          have he := seqV_nil_of ((rowsS (k : Int) w).1.map fun row => tellL row x f)
          rw [hq] at he ⊢
          simp only [] at he ⊢
          by_cases c5 : e2 = 0
          · rw [if_pos c5, c5]
          · rw [if_neg c5, he c5]
    · rw [if_neg c2, if_pos c2]
  · rw [if_neg c, if_pos c]
theorem soft_lines.calls (a0 : Int) (A1 : Option Addr) (c1 : Nat) (l1 : List Int) (A2 : Option Addr) (c2 : Nat) (l2 : List Int) (a3 : Int) (r1 : List Int) (r2 : Int) (w : World) (hr1 : Kd.C (Kd.int .i64) w A1 l1.length l1) (hc1 : l1.length ≤ c1) (hr2 : Kd.C (Kd.int .i64) w A2 l2.length l2) (hc2 : l2.length ≤ c2) (h : soft_lines.f a0 l1 l2 a3 = some (r1, r2)) :
    Calls Try.prog 36 #[.int .i64 a0, .slice A1 l1.length c1, .slice A2 l2.length c2, .int .i64 a3] w fun e w' => ∃ v0_ : Value, e = .returned (.tuple #[v0_, .int .i64 r2]) ∧ Kd.R (Kd.int .i64) 2 w' w.heap.size (fun _ => True) v0_ r1 ∧ Below w.heap.size w w' := by
  unfold soft_lines.f at h
  split at h
  case isFalse => cases h
  rename_i hv
  exact soft_linesP.calls ((rowsS a0 l1).1.length + 1) a0 A1 c1 l1 A2 c2 l2 a3 r1 r2 w hr1 hc1 hr2 hc2 ((soft_linesP.is a0 l1 l2 a3 hv.1 hv.2).trans h)


/-! ### slices_Index_int64_int64P: function 85 -/
def slices_Index_int64_int64P.l0 : Nat → List Int → Int → Int → Int → Option (Int)
 | 0, _, _, _, _ => none
 | k + 1, x0, x1, x7, x8 => if x8 < x7 then (if 0 ≤ x8 then (if x8 < (x0.length : Int) then (if x1 = (rd x0 x8) then (some x8) else (slices_Index_int64_int64P.l0 k x0 x1 x7 (wrap64 (x8 + 1)))) else (none)) else (none)) else (some (-1))
def slices_Index_int64_int64P.f (k : Nat) (l0 : List Int) (a1 : Int) : Option (Int) := slices_Index_int64_int64P.l0 k l0 a1 (l0.length : Int) 0
theorem slices_Index_int64_int64P.mono_l : ∀ k, (∀ y0 y1 y2 y3, LeO (slices_Index_int64_int64P.l0 k y0 y1 y2 y3) (slices_Index_int64_int64P.l0 (k + 1) y0 y1 y2 y3))
 | 0 => fun _ _ _ _ r h => by simp [slices_Index_int64_int64P.l0] at h
 | k + 1 => by
  have ih0 := slices_Index_int64_int64P.mono_l k
  ·
   intro y0 y1 y2 y3
   unfold slices_Index_int64_int64P.l0
   repeat' first
   | (with_reducible exact ih0 _ _ _ _)
   | (with_reducible exact LeO.refl _)
   | (with_reducible exact LeO.none _)
   | (with_reducible refine LeO.ite ?_ ?_)
   | (with_reducible refine LeO.bind ?_ (fun _ => ?_))
   | exact ih0 _ _ _ _
   | exact LeO.none _
   | refine LeO.ite ?_ ?_
   | refine LeO.bind ?_ (fun _ => ?_)
theorem slices_Index_int64_int64P.mono : ∀ a0 a1 k, LeO (slices_Index_int64_int64P.f k a0 a1) (slices_Index_int64_int64P.f (k + 1) a0 a1) := by
 intro a0 a1 k
 have ih0 := slices_Index_int64_int64P.mono_l k
 unfold slices_Index_int64_int64P.f
 repeat' first
   | (with_reducible exact ih0 _ _ _ _)
   | (with_reducible exact LeO.refl _)
   | (with_reducible exact LeO.none _)
   | (with_reducible refine LeO.ite ?_ ?_)
   | (with_reducible refine LeO.bind ?_ (fun _ => ?_))
   | exact ih0 _ _ _ _
   | exact LeO.none _
   | refine LeO.ite ?_ ?_
   | refine LeO.bind ?_ (fun _ => ?_)
set_option maxHeartbeats 8000000 in
set_option maxRecDepth 100000 in
theorem slices_Index_int64_int64P.calls (k : Nat) (A0 : Option Addr) (c0 : Nat) (l0 : List Int) (a1 : Int) (r : Int) (w : World) (hr0 : Kd.C (Kd.int .i64) w A0 l0.length l0) (hc0 : l0.length ≤ c0) (h : slices_Index_int64_int64P.f k l0 a1 = some r) :
  Calls Try.prog 85 #[.slice A0 l0.length c0, .int .i64 a1] w fun e w' => e = .returned (.int .i64 r) ∧ Drawn0 w w' := by
 have HR0 := Aside0.mk hr0
 have HC0 := Aside0.mk hc0
 clear hr0 hc0
 have H : (slices_Index_int64_int64P.l0 k l0 a1 (l0.length : Int) 0) = some r := h
 clear h
 have H' := Aside0.mk H
 clear H
 go_enter Try.func85, Try.ntmps85
 go_wp2
 go_loopg [8] k (fun kq v8 w' => ∃ (x8_1 : Int), v8 = .int .i64 x8_1 ∧ Aside0 (slices_Index_int64_int64P.l0 kq l0 a1 (l0.length : Int) x8_1 = some r) ∧ Aside0 (kq ≤ k) ∧ Drawn0 w w')
 case atStart => exact ⟨(0), (by first | rfl | (simp; done) | (simp [*]; done)), H', ⟨Nat.le_refl _⟩, by repeat (first | exact ddR _ | apply ddS)⟩
 case round =>
  clear H'
  try clear p2
  obtain ⟨x8_1, rfl, HA, HK1, ⟨m1, rfl⟩⟩ := hrel
  cases gk with
  | zero => exact absurd HA.out (by simp [slices_Index_int64_int64P.l0])
  | succ k1 =>
   have H := HA.out
   clear HA
   simp only [slices_Index_int64_int64P.l0] at H
   by_cases c3 : x8_1 < (l0.length : Int)
   ·
    rw [if_pos c3] at H
    have c3b0 : decide (x8_1 < (l0.length : Int)) = true := decide_eq_true c3
    clear c3
    by_cases c4 : 0 ≤ x8_1
    ·
     rw [if_pos c4] at H
     have c4b0 : decide (0 ≤ x8_1) = true := decide_eq_true c4
     clear c4
     by_cases c5 : x8_1 < (l0.length : Int)
     ·
      rw [if_pos c5] at H
      have c5b0 : decide (x8_1 < (l0.length : Int)) = true := decide_eq_true c5
      clear c5
      by_cases c6 : a1 = (rd l0 x8_1)
      ·
       rw [if_pos c6] at H
       have c6b0 : (a1 == (rd l0 x8_1)) = true := beq_iff_eq.mpr c6
       have c6b1 : (a1 != (rd l0 x8_1)) = false := bne_eq_false_iff_eq.mpr c6
       clear c6
       obtain rfl := Option.some.inj H
       have p214 : 0 ≤ (x8_1 : Int) := of_decide_eq_true (by first | (with_reducible assumption) | assumption)
       have q214 : x8_1 < (l0.length : Int) := of_decide_eq_true (by first | (with_reducible assumption) | assumption)
       obtain ⟨ad214, e214, hx214_0⟩ := Kd.at_int HR0.out x8_1 p214 q214
       cases e214
       replace p214 := eq_true p214
       replace q214 := eq_true q214
       go_wp2
       go_ret
       exact ⟨by first | rfl | (simp; done) | (simp [*]; done), by repeat (first | exact ddR _ | apply ddS)⟩
      ·
       rw [if_neg c6] at H
       have c6b0 : (a1 == (rd l0 x8_1)) = false := beq_eq_false_iff_ne.mpr c6
       have c6b1 : (a1 != (rd l0 x8_1)) = true := bne_iff_ne.mpr c6
       have H' := Aside0.mk H
       clear H
       have p214 : 0 ≤ (x8_1 : Int) := of_decide_eq_true (by first | (with_reducible assumption) | assumption)
       have q214 : x8_1 < (l0.length : Int) := of_decide_eq_true (by first | (with_reducible assumption) | assumption)
       obtain ⟨ad214, e214, hx214_0⟩ := Kd.at_int HR0.out x8_1 p214 q214
       cases e214
       replace p214 := eq_true p214
       replace q214 := eq_true q214
       go_wp2
       go_roundg k1
       case measure => have := HK1.out; omega
       case rel => exact ⟨(wrap64 (x8_1 + 1)), (by first | rfl | (simp; done) | (simp [*]; done)), H', ⟨by have := HK1.out; omega⟩, by repeat (first | exact ddR _ | apply ddS)⟩
     ·
      rw [if_neg c5] at H
      exact absurd H (by simp)
    ·
     rw [if_neg c4] at H
     exact absurd H (by simp)
   ·
    rw [if_neg c3] at H
    have c3b0 : decide (x8_1 < (l0.length : Int)) = false := decide_eq_false c3
    clear c3
    obtain rfl := Option.some.inj H
    go_wp2
    go_ret
    exact ⟨by first | rfl | (simp; done) | (simp [*]; done), by repeat (first | exact ddR _ | apply ddS)⟩

theorem slices_Index_int64_int64P.loop (x0 : List Int) (v : Int) (hb : x0.length ≤ 9223372036854775807) : ∀ (d i : Nat), d + i = x0.length →
    slices_Index_int64_int64P.l0 (d + 1) x0 v (x0.length : Int) (i : Int) = some (idxGo (x0.drop i) v i) := by
  intro d
  induction d with
  | zero =>
    intro i hd
    rw [slices_Index_int64_int64P.l0, if_neg (by omega), List.drop_eq_nil_of_le (by omega)]; rfl
  | succ d ih =>
    intro i hd
    have hi : i < x0.length := by omega
    rw [slices_Index_int64_int64P.l0, if_pos (by omega), if_pos (by omega), if_pos (by omega), show rd x0 (i : Int) = x0[i] from rd_nat hi, List.drop_eq_getElem_cons hi, idxGo]
    by_cases c : v = x0[i]
    · rw [if_pos c, if_pos c]
    · rw [if_neg c, if_neg c, wrap64_of (by unfold I64; omega), show (i : Int) + 1 = ((i + 1 : Nat) : Int) by omega, ih (i + 1) (by omega)]
def slices_Index_int64_int64.f (l0 : List Int) (a1 : Int) : Option Int := some (idxGo l0 a1 0)
theorem slices_Index_int64_int64.calls (A0 : Option Addr) (c0 : Nat) (l0 : List Int) (a1 : Int) (r : Int) (w : World) (hr0 : Kd.C (Kd.int .i64) w A0 l0.length l0) (hc0 : l0.length ≤ c0) (h : slices_Index_int64_int64.f l0 a1 = some r) :
    Calls Try.prog 85 #[.slice A0 l0.length c0, .int .i64 a1] w fun e w' => e = .returned (.int .i64 r) ∧ Drawn0 w w' := by
  refine slices_Index_int64_int64P.calls (l0.length + 1) A0 c0 l0 a1 r w hr0 hc0 (Eq.trans ?_ h)
  have hm := Kd.C_max hr0
  exact slices_Index_int64_int64P.loop l0 a1 hm l0.length 0 (by omega)


/-! ### slices_Max_int64_int64P: function 86 -/
def slices_Max_int64_int64P.l0 : Nat → List Int → Int → Int → Option (Int)
 | 0, _, _, _ => none
 | k + 1, x0, x3, x4 => if x4 < (x0.length : Int) then (if 0 ≤ x4 then (slices_Max_int64_int64P.l0 k x0 (mx x3 (rd x0 x4)) (wrap64 (x4 + 1))) else (none)) else (some x3)
def slices_Max_int64_int64P.f (k : Nat) (l0 : List Int) : Option (Int) := if (l0.length : Int) < 1 then (none) else (if 0 < (l0.length : Int) then (slices_Max_int64_int64P.l0 k l0 (rd l0 0) 1) else (none))
theorem slices_Max_int64_int64P.mono_l : ∀ k, (∀ y0 y1 y2, LeO (slices_Max_int64_int64P.l0 k y0 y1 y2) (slices_Max_int64_int64P.l0 (k + 1) y0 y1 y2))
 | 0 => fun _ _ _ r h => by simp [slices_Max_int64_int64P.l0] at h
 | k + 1 => by
  have ih0 := slices_Max_int64_int64P.mono_l k
  ·
   intro y0 y1 y2
   unfold slices_Max_int64_int64P.l0
   repeat' first
   | (with_reducible exact ih0 _ _ _)
   | (with_reducible exact LeO.refl _)
   | (with_reducible exact LeO.none _)
   | (with_reducible refine LeO.ite ?_ ?_)
   | (with_reducible refine LeO.bind ?_ (fun _ => ?_))
   | exact ih0 _ _ _
   | exact LeO.none _
   | refine LeO.ite ?_ ?_
   | refine LeO.bind ?_ (fun _ => ?_)
theorem slices_Max_int64_int64P.mono : ∀ a0 k, LeO (slices_Max_int64_int64P.f k a0) (slices_Max_int64_int64P.f (k + 1) a0) := by
 intro a0 k
 have ih0 := slices_Max_int64_int64P.mono_l k
 unfold slices_Max_int64_int64P.f
 repeat' first
   | (with_reducible exact ih0 _ _ _)
   | (with_reducible exact LeO.refl _)
   | (with_reducible exact LeO.none _)
   | (with_reducible refine LeO.ite ?_ ?_)
   | (with_reducible refine LeO.bind ?_ (fun _ => ?_))
   | exact ih0 _ _ _
   | exact LeO.none _
   | refine LeO.ite ?_ ?_
   | refine LeO.bind ?_ (fun _ => ?_)
set_option maxHeartbeats 8000000 in
set_option maxRecDepth 100000 in
theorem slices_Max_int64_int64P.calls (k : Nat) (A0 : Option Addr) (c0 : Nat) (l0 : List Int) (r : Int) (w : World) (hr0 : Kd.C (Kd.int .i64) w A0 l0.length l0) (hc0 : l0.length ≤ c0) (h : slices_Max_int64_int64P.f k l0 = some r) :
  Calls Try.prog 86 #[.slice A0 l0.length c0] w fun e w' => e = .returned (.int .i64 r) ∧ Below w.heap.size w w' := by
 have HR0 := Aside0.mk hr0
 have HC0 := Aside0.mk hc0
 clear hr0 hc0
 have HB := Aside0.mk (Below.refl w.heap.size w)
 have H : (if (l0.length : Int) < 1 then (none) else (if 0 < (l0.length : Int) then (slices_Max_int64_int64P.l0 k l0 (rd l0 0) 1) else (none))) = some r := h
 clear h
 by_cases c2 : (l0.length : Int) < 1
 ·
  rw [if_pos c2] at H
  exact absurd H (by simp)
 ·
  rw [if_neg c2] at H
  have c2b0 : decide ((l0.length : Int) < 1) = false := decide_eq_false c2
  have c2b1 : decide (l0.length < 1) = false := decide_eq_false (by omega)
  clear c2
  by_cases c3 : 0 < (l0.length : Int)
  ·
   rw [if_pos c3] at H
   have c3b0 : decide (0 < (l0.length : Int)) = true := decide_eq_true c3
   have c3b1 : decide (0 < l0.length) = true := decide_eq_true (by omega)
   clear c3
   have H' := Aside0.mk H
   clear H
   have p215 : 0 ≤ (0 : Int) := (by omega)
   have q215 : 0 < (l0.length : Int) := of_decide_eq_true (by first | (with_reducible assumption) | assumption)
   obtain ⟨ad215, e215, hx215_0⟩ := Kd.at_int HR0.out 0 p215 q215
   cases e215
   have qi215 : (0 < l0.length) = True := eq_true (by omega)
   (try rw [show ((0 : Int)).toNat = 0 from rfl] at hx215_0)
   (try rw [Addr.add_zero'] at hx215_0)
   replace p215 := eq_true p215
   replace q215 := eq_true q215
   go_enter Try.func86, Try.ntmps86
   go_wp2
   go_loopg [3, 4] k (fun kq v3 v4 w' => ∃ (x3_1 : Int) (x4_1 : Int), v3 = .int .i64 x3_1 ∧ v4 = .int .i64 x4_1 ∧ Aside0 (slices_Max_int64_int64P.l0 kq l0 x3_1 x4_1 = some r) ∧ Aside0 (kq ≤ k) ∧ Aside0 (Below w.heap.size w w'))
   case atStart => exact ⟨(rd l0 0), (1), (by first | rfl | (simp; done) | (simp [*]; done)), (by first | rfl | (simp; done) | (simp [*]; done)), H', ⟨Nat.le_refl _⟩, ⟨by repeat (first | (with_reducible first | exact HB.out | apply zzA | apply zzN | apply zzD) | exact HB.out)⟩⟩
   case round =>
    clear H'
    try clear c2
    try clear c2b0
    try clear c2b1
    try clear p2
    try clear q2
    try clear hx2
    try clear qi2
    try clear c3
    try clear c3b0
    try clear c3b1
    try clear hx215_0
    try clear p215
    try clear q215
    obtain ⟨x3_1, x4_1, rfl, rfl, HA, HK1, HB⟩ := hrel
    cases gk with
    | zero => exact absurd HA.out (by simp [slices_Max_int64_int64P.l0])
    | succ k1 =>
     have H := HA.out
     clear HA
     simp only [slices_Max_int64_int64P.l0] at H
     by_cases c4 : x4_1 < (l0.length : Int)
     ·
      rw [if_pos c4] at H
      have c4b0 : decide (x4_1 < (l0.length : Int)) = true := decide_eq_true c4
      clear c4
      by_cases c5 : 0 ≤ x4_1
      ·
       rw [if_pos c5] at H
       have c5b0 : decide (0 ≤ x4_1) = true := decide_eq_true c5
       clear c5
       obtain ⟨ji6, hji6⟩ : ∃ j_ : Int, (mx x3_1 (rd l0 x4_1)) = j_ := ⟨_, rfl⟩
       replace H : (slices_Max_int64_int64P.l0 k1 l0 ji6 (wrap64 (x4_1 + 1))) = some r := by first | (rw [hji6] at H; exact H) | (simp only [hji6] at H ⊢; exact H)
       have hji6_ : (if x3_1 < (rd l0 x4_1) then (rd l0 x4_1) else x3_1) = ji6 := hji6
       have H' := Aside0.mk H
       clear H
       have p216 : 0 ≤ (x4_1 : Int) := of_decide_eq_true (by first | (with_reducible assumption) | assumption)
       have q216 : x4_1 < (l0.length : Int) := of_decide_eq_true (by first | (with_reducible assumption) | assumption)
       obtain ⟨ad216, e216, hx216_0⟩ := Kd.at_int HR0.out x4_1 p216 q216
       obtain rfl : ad215 = ad216 := (by injection e216)
       replace hx216_0 := (HB.out.cell (World.block_lt_of_cell? w _ hx216_0)).trans hx216_0
       replace p216 := eq_true p216
       replace q216 := eq_true q216
       go_wp2
       go_roundg k1
       case measure => have := HK1.out; omega
       case rel => exact ⟨(ji6), (wrap64 (x4_1 + 1)), (by first | rfl | (simp; done) | (simp only [← hji6] <;> (first | rfl | simp)) | (simp [*]; done)), (by first | rfl | (simp; done) | (simp [*]; done)), H', ⟨by have := HK1.out; omega⟩, ⟨by repeat (first | (with_reducible first | exact HB.out | apply zzA | apply zzN | apply zzD) | exact HB.out)⟩⟩
      ·
       rw [if_neg c5] at H
       exact absurd H (by simp)
     ·
      rw [if_neg c4] at H
      have c4b0 : decide (x4_1 < (l0.length : Int)) = false := decide_eq_false c4
      clear c4
      obtain rfl := Option.some.inj H
      go_wp2
      go_ret
      exact ⟨by first | rfl | (simp [errW_none, errW_some] <;> rfl) | (simp [*, errW_none, errW_some] <;> rfl), by repeat (first | (with_reducible first | exact HB.out | apply zzA | apply zzN | apply zzD) | exact HB.out)⟩
  ·
   rw [if_neg c3] at H
   exact absurd H (by simp)

theorem slices_Max_int64_int64P.loop (x0 : List Int) (hb : x0.length ≤ 9223372036854775807) : ∀ (d i : Nat) (m : Int), d + i = x0.length →
    slices_Max_int64_int64P.l0 (d + 1) x0 m (i : Int) = some (maxGo (x0.drop i) m) := by
  intro d
  induction d with
  | zero =>
    intro i m hd
    rw [slices_Max_int64_int64P.l0, if_neg (by omega), List.drop_eq_nil_of_le (by omega)]; rfl
  | succ d ih =>
    intro i m hd
    have hi : i < x0.length := by omega
    rw [slices_Max_int64_int64P.l0, if_pos (by omega), if_pos (by omega), show rd x0 (i : Int) = x0[i] from rd_nat hi, wrap64_of (by unfold I64; omega), show (i : Int) + 1 = ((i + 1 : Nat) : Int) by omega, ih (i + 1) _ (by omega), List.drop_eq_getElem_cons hi]
    rfl
def slices_Max_int64_int64.f (l0 : List Int) : Option Int := if 0 < l0.length then some (maxGo (l0.drop 1) (rd l0 0)) else none
theorem slices_Max_int64_int64.of (l0 : List Int)  (h_ : 0 < l0.length) : slices_Max_int64_int64.f l0 = some (maxGo (l0.drop 1) (rd l0 0)) := if_pos h_
theorem slices_Max_int64_int64.calls (A0 : Option Addr) (c0 : Nat) (l0 : List Int) (r : Int) (w : World) (hr0 : Kd.C (Kd.int .i64) w A0 l0.length l0) (hc0 : l0.length ≤ c0) (h : slices_Max_int64_int64.f l0 = some r) :
    Calls Try.prog 86 #[.slice A0 l0.length c0] w fun e w' => e = .returned (.int .i64 r) ∧ Below w.heap.size w w' := by
  unfold slices_Max_int64_int64.f at h
  split at h
  case isFalse => cases h
  rename_i hl
  refine slices_Max_int64_int64P.calls (l0.length + 1) A0 c0 l0 r w hr0 hc0 (Eq.trans ?_ h)
  have hm := Kd.C_max hr0
  unfold slices_Max_int64_int64P.f
  rw [if_neg (by omega), if_pos (by omega), show (1 : Int) = ((1 : Nat) : Int) from rfl]
  obtain ⟨d, hd⟩ : ∃ d, l0.length = d + 1 := ⟨l0.length - 1, by omega⟩
  have := slices_Max_int64_int64P.loop l0 hm d 1 (rd l0 0) (by omega)
  exact slices_Max_int64_int64P.mono_l _ _ _ _ _ (by rw [hd]; exact this)


/-! ### table_BestP: function 58 -/
def table_BestP.f (l0 : List Int) : Option (Int × Int) := if (l0.length : Int) = 0 then (some (0, 1)) else ((vec_Check.f l0).bind fun t217 => (if t217 = 0 then ((slices_Max_int64_int64.f l0).bind fun t218 => ((slices_Index_int64_int64.f l0 t218).bind fun t219 => (some (t219, 0)))) else (some (0, t217))))
set_option maxHeartbeats 8000000 in
set_option maxRecDepth 100000 in
theorem table_BestP.calls (A0 : Option Addr) (c0 : Nat) (l0 : List Int) (r1 : Int) (r2 : Int) (w : World) (hr0 : Kd.C (Kd.int .i64) w A0 l0.length l0) (hc0 : l0.length ≤ c0) (h : table_BestP.f l0 = some (r1, r2)) :
  Calls Try.prog 58 #[.slice A0 l0.length c0] w fun e w' => e = .returned (.tuple #[.int .i64 r1, .int .i64 r2]) ∧ Below w.heap.size w w' := by
 have HR0 := Aside0.mk hr0
 have HC0 := Aside0.mk hc0
 clear hr0 hc0
 have HB := Aside0.mk (Below.refl w.heap.size w)
 have H : (if (l0.length : Int) = 0 then (some (0, 1)) else ((vec_Check.f l0).bind fun t217 => (if t217 = 0 then ((slices_Max_int64_int64.f l0).bind fun t218 => ((slices_Index_int64_int64.f l0 t218).bind fun t219 => (some (t219, 0)))) else (some (0, t217))))) = some (r1, r2) := h
 clear h
 by_cases c2 : (l0.length : Int) = 0
 ·
  rw [if_pos c2] at H
  have c2b0 : ((l0.length : Int) == 0) = true := beq_iff_eq.mpr c2
  have c2b1 : ((l0.length : Int) != 0) = false := bne_eq_false_iff_eq.mpr c2
  clear c2
  simp only [Option.some.injEq, Prod.mk.injEq] at H
  obtain ⟨rfl, rfl⟩ := H
  go_enter Try.func58, Try.ntmps58
  go_wp2
  go_ret2
  exact ⟨by first | rfl | (simp [errW_none, errW_some] <;> rfl) | (simp [*, errW_none, errW_some] <;> rfl), by repeat (first | (with_reducible first | exact HB.out | apply zzA | apply zzN | apply zzD) | exact HB.out)⟩
 ·
  rw [if_neg c2] at H
  have c2b0 : ((l0.length : Int) == 0) = false := beq_eq_false_iff_ne.mpr c2
  have c2b1 : ((l0.length : Int) != 0) = true := bne_iff_ne.mpr c2
  have c2b2 : ¬ (l0 = []) := fun h_ => c2 (by rw [h_]; rfl)
  replace H := Option.bind_eq_some_iff.mp H
  obtain ⟨t217, A30, H⟩ := H
  replace H : (if t217 = 0 then ((slices_Max_int64_int64.f l0).bind fun t218 => ((slices_Index_int64_int64.f l0 t218).bind fun t219 => (some (t219, 0)))) else (some (0, t217))) = some (r1, r2) := H
  have A3 := Aside0.mk A30
  clear A30
  by_cases c4 : t217 = 0
  ·
   rw [if_pos c4] at H
   have c4b0 : (t217 == 0) = true := beq_iff_eq.mpr c4
   have c4b1 : (t217 != 0) = false := bne_eq_false_iff_eq.mpr c4
   clear c4
   replace H := Option.bind_eq_some_iff.mp H
   obtain ⟨t218, A50, H⟩ := H
   replace H : ((slices_Index_int64_int64.f l0 t218).bind fun t219 => (some (t219, 0))) = some (r1, r2) := H
   have A5 := Aside0.mk A50
   clear A50
   replace H := Option.bind_eq_some_iff.mp H
   obtain ⟨t219, A60, H⟩ := H
   replace H : (some (t219, 0)) = some (r1, r2) := H
   have A6 := Aside0.mk A60
   clear A60
   simp only [Option.some.injEq, Prod.mk.injEq] at H
   obtain ⟨rfl, rfl⟩ := H
   go_enter Try.func58, Try.ntmps58
   go_wp2_with (first | ((with_reducible refine gate_callee (f := 25) rfl ?_); refine goesL_ (some 9) rfl rfl Try.func25 (by kernel_rfl) rfl #[.slice A0 l0.length c0] rfl (by (try simp only [List.map_toArray, List.map_cons, List.map_nil]); first | done | rfl | (simp only [List.length_drop, List.length_take]; rfl)) ?_; (with_reducible refine (vec_Check.calls _ _ l0 t217 _ ?side1 ?side2 A3.out).mono ?_); (case side1 => repeat (first | exact HR0.out | (with_reducible refine ccA ?_ _) | (with_reducible refine ccN ?_ _) | (with_reducible refine ccD ?_))); (case side2 => exact HC0.out); rintro e w' ⟨rfl, ⟨nd, rfl⟩⟩; refine ⟨_, rfl, ?_⟩) | ((with_reducible refine gate_callee (f := 86) rfl ?_); refine goesL_ (some 15) rfl rfl Try.func86 (by kernel_rfl) rfl #[.slice A0 l0.length c0] rfl (by (try simp only [List.map_toArray, List.map_cons, List.map_nil]); first | done | rfl | (simp only [List.length_drop, List.length_take]; rfl)) ?_; (with_reducible refine (slices_Max_int64_int64.calls _ _ l0 t218 _ ?side1 ?side2 A5.out).mono ?_); (case side1 => repeat (first | exact HR0.out | (with_reducible refine ccA ?_ _) | (with_reducible refine ccN ?_ _) | (with_reducible refine ccD ?_))); (case side2 => exact HC0.out); rintro e w7 ⟨rfl, hb⟩; refine ⟨_, rfl, ?_⟩; have n0_ := Aside0.mk (zzT (by repeat (first | (with_reducible first | exact HB.out | apply zzA | apply zzN | apply zzD) | exact HB.out)) hb); clear HB; have HB := n0_; clear n0_; (try clear hb); (try clear hb2); (try clear hk); (try clear hi)) | ((with_reducible refine gate_callee (f := 85) rfl ?_); refine goesL_ (some 16) rfl rfl Try.func85 (by kernel_rfl) rfl #[.slice A0 l0.length c0, .int .i64 t218] rfl (by (try simp only [List.map_toArray, List.map_cons, List.map_nil]); first | done | rfl | (simp only [List.length_drop, List.length_take]; rfl)) ?_; (with_reducible refine (slices_Index_int64_int64.calls _ _ l0 t218 t219 _ ?side1 ?side2 A6.out).mono ?_); (case side1 => repeat (first | exact (Kd.C_below HR0.out HB.out) | (with_reducible refine ccA ?_ _) | (with_reducible refine ccN ?_ _) | (with_reducible refine ccD ?_))); (case side2 => exact HC0.out); rintro e w' ⟨rfl, ⟨nd, rfl⟩⟩; refine ⟨_, rfl, ?_⟩))
   go_ret2
   exact ⟨by first | rfl | (simp [errW_none, errW_some] <;> rfl) | (simp [*, errW_none, errW_some] <;> rfl), by repeat (first | (with_reducible first | exact HB.out | apply zzA | apply zzN | apply zzD) | exact HB.out)⟩
  ·
   rw [if_neg c4] at H
   have c4b0 : (t217 == 0) = false := beq_eq_false_iff_ne.mpr c4
   have c4b1 : (t217 != 0) = true := bne_iff_ne.mpr c4
   simp only [Option.some.injEq, Prod.mk.injEq] at H
   obtain ⟨rfl, rfl⟩ := H
   go_enter Try.func58, Try.ntmps58
   go_wp2_with (first | ((with_reducible refine gate_callee (f := 25) rfl ?_); refine goesL_ (some 9) rfl rfl Try.func25 (by kernel_rfl) rfl #[.slice A0 l0.length c0] rfl (by (try simp only [List.map_toArray, List.map_cons, List.map_nil]); first | done | rfl | (simp only [List.length_drop, List.length_take]; rfl)) ?_; (with_reducible refine (vec_Check.calls _ _ l0 t217 _ ?side1 ?side2 A3.out).mono ?_); (case side1 => repeat (first | exact HR0.out | (with_reducible refine ccA ?_ _) | (with_reducible refine ccN ?_ _) | (with_reducible refine ccD ?_))); (case side2 => exact HC0.out); rintro e w' ⟨rfl, ⟨nd, rfl⟩⟩; refine ⟨_, rfl, ?_⟩))
   go_ret2
   exact ⟨by first | rfl | (simp [errW_none, errW_some] <;> rfl) | (simp [*, errW_none, errW_some] <;> rfl), by repeat (first | (with_reducible first | exact HB.out | apply zzA | apply zzN | apply zzD) | exact HB.out)⟩

def table_Best.f (l0 : List Int) : Option (Int × Int) := some (bestF l0)
theorem table_Best.calls (A0 : Option Addr) (c0 : Nat) (l0 : List Int) (r1 : Int) (r2 : Int) (w : World) (hr0 : Kd.C (Kd.int .i64) w A0 l0.length l0) (hc0 : l0.length ≤ c0) (h : table_Best.f l0 = some (r1, r2)) :
    Calls Try.prog 58 #[.slice A0 l0.length c0] w fun e w' => e = .returned (.tuple #[.int .i64 r1, .int .i64 r2]) ∧ Below w.heap.size w w' := by
  refine table_BestP.calls A0 c0 l0 r1 r2 w hr0 hc0 (Eq.trans ?_ h)
  unfold table_BestP.f table_Best.f bestF
  rw [vec_Check.of]
  simp only [Option.bind_some, checkE]
  by_cases c : l0.length = 0
  · rw [if_pos (by omega), if_pos c]
  · rw [if_neg (by omega), if_neg c]
    by_cases c2 : l0.length > 4096
    · rw [if_pos c2, if_neg (by decide), if_pos c2]
    · rw [if_neg c2, if_pos rfl, if_neg c2]
      unfold slices_Max_int64_int64.f slices_Index_int64_int64.f
      rw [if_pos (by omega)]
      simp only [Option.bind_some]
      rw [idx_max l0 (by omega)]


/-! ### fix_NegP: function 46 -/
def fix_NegP.f (a0 : Int) : Option (Int × Int) := (fix_Sub.f 0 a0).bind fun bt220 => (some (bt220.1, bt220.2))
set_option maxHeartbeats 8000000 in
set_option maxRecDepth 100000 in
theorem fix_NegP.calls (a0 : Int) (r1 : Int) (r2 : Int) (w : World) (h : fix_NegP.f a0 = some (r1, r2)) :
  Calls Try.prog 46 #[.int .i64 a0] w fun e w' => e = .returned (.tuple #[.int .i64 r1, .int .i64 r2]) ∧ Drawn0 w w' := by
 have H : ((fix_Sub.f 0 a0).bind fun bt220 => (some (bt220.1, bt220.2))) = some (r1, r2) := h
 clear h
 replace H := Option.bind_eq_some_iff.mp H
 obtain ⟨⟨t220, t221⟩, A20, H⟩ := H
 replace H : (some (t220, t221)) = some (r1, r2) := H
 have A2 := Aside0.mk A20
 clear A20
 simp only [Option.some.injEq, Prod.mk.injEq] at H
 obtain ⟨rfl, rfl⟩ := H
 go_enter Try.func46, Try.ntmps46
 go_wp2_with (first | ((with_reducible refine gate_callee (f := 59) rfl ?_); refine goesL_ (some 5) rfl rfl Try.func59 (by kernel_rfl) rfl #[.int .i64 0, .int .i64 a0] rfl (by (try simp only [List.map_toArray, List.map_cons, List.map_nil]); first | done | rfl | (simp only [List.length_drop, List.length_take]; rfl)) ?_; (with_reducible refine (fix_Sub.calls 0 a0 t220 t221 _ A2.out).mono ?_); rintro e w' ⟨rfl, ⟨nd, rfl⟩⟩; refine ⟨_, rfl, ?_⟩))
 go_ret2
 exact ⟨by first | rfl | (simp; done) | (simp [*]; done), by repeat (first | exact ddR _ | apply ddS)⟩

def fix_Neg.f (a0 : Int) : Option (Int × Int) := if I64 a0 then some (res (-a0)) else none
theorem fix_Neg.of (a0 : Int)  (h_ : I64 a0) : fix_Neg.f a0 = some (res (-a0)) := if_pos h_
theorem fix_Neg.calls (a0 : Int) (r1 : Int) (r2 : Int) (w : World) (h : fix_Neg.f a0 = some (r1, r2)) :
    Calls Try.prog 46 #[.int .i64 a0] w fun e w' => e = .returned (.tuple #[.int .i64 r1, .int .i64 r2]) ∧ Drawn0 w w' := by
  unfold fix_Neg.f at h
  split at h
  · rename_i hu
    refine fix_NegP.calls a0 r1 r2 w (Eq.trans ?_ h)
    unfold fix_NegP.f fix_Sub.f
    rw [if_pos ⟨i64_zero, hu⟩]; simp
  · cases h


-- NOT PRINTED: function 100 (math_sqrt)

/-! ### math_Sqrt: function 98 -/
theorem sqrt_enters (x : Nat) (w : World) : ∃ (r m : Nat), (callFunc 100 #[.float .f64 x]).run Try.prog w = .ok (.value (.float .f64 r)) (w.drewN m) :=
  run_sqrt Try.func100 rfl rfl (by kernel_rfl) (by kernel_rfl) x w
set_option maxHeartbeats 2000000 in
set_option maxRecDepth 100000 in
theorem math_Sqrt.calls (x : Nat) (w : World) : Calls Try.prog 98 #[.float .f64 x] w fun e w' => (∃ r : Nat, e = .returned (.float .f64 r)) ∧ Drawn0 w w' := by
  obtain ⟨r, m, hs⟩ := sqrt_enters x w
  go_enter Try.func98, Try.ntmps98
  go_wp2
  go_ret
  exact ⟨⟨r, rfl⟩, ⟨_, rfl⟩⟩


/-! ### table_Root: function 96 -/
set_option maxHeartbeats 2000000 in
set_option maxRecDepth 100000 in
theorem table_Root.gen (n : Int) (hn : U64 n) (w : World) : Calls Try.prog 96 #[.int .u64 n] w fun e w' => e = .returned (.int .u64 (rootF n)) ∧ Drawn0 w w' := by
  have hu1 := Try.underlying24
  have hu2 := Try.underlying141
  have hcv := fun (b : Nat) (w : World) => run_float_u64 (P := Try.prog) 141 24 b (by rw [hu2]; rfl) hu1 w
  have HCV := Aside0.mk hcv
  have HN := Aside0.mk hn
  have HU := Aside0.mk hn
  unfold U64 at hn
  clear hcv
  go_enter Try.func96, Try.ntmps96
  go_wp2_with (go_at_call 98; (with_reducible refine (math_Sqrt.calls _ _).mono ?_); rintro ed W2 ⟨⟨r, rfl⟩, ⟨nd, rfl⟩⟩; obtain ⟨y, m, hy, hcv⟩ := HCV.out r (w.drewN nd))
  case inl =>
    go_loopw [3] (fun v W => ∃ (z : Int) (q : Nat), v = .int .u64 z ∧ W = w.drewN q ∧ Aside0 (0 ≤ z ∧ z ≤ 4294967295)) (fun v _ => (intOf v).toNat)
    case atStart => exact ⟨_, _, rfl, rfl, ⟨by omega⟩⟩
    case round =>
      clear hy hcv
      obtain ⟨z, q, rfl, rfl, ⟨hz⟩⟩ := hrel
      have hm0 : 0 ≤ z * z := Int.mul_nonneg hz.1 hz.1
      have hm1 : z * z ≤ 4294967295 * 4294967295 := Int.mul_le_mul hz.2 hz.2 hz.1 (by omega)
      have hw : IntKind.u64.wrap (z * z) = z * z := by rw [wu, Int.emod_eq_of_lt hm0 (by omega)]
      by_cases c : n < z * z
      · have c1 : decide (n < IntKind.u64.wrap (z * z)) = true := by rw [hw]; exact decide_eq_true c
        have hz1 : 1 ≤ z := by
          rcases Int.lt_or_le 0 z with h | h
          · omega
          · have : z = 0 := by omega
            subst this; omega
        have HZ := Aside0.mk hz
        have HZ1 := Aside0.mk hz1
        clear c hw hm0 hm1 hz hz1
        go_wp2
        have := HZ.out
        have := HZ1.out
        exact ⟨⟨z - 1, q, by rw [wu, Int.emod_eq_of_lt (by omega) (by omega)], rfl, ⟨by omega⟩⟩, by rw [wu, Int.emod_eq_of_lt (by omega) (by omega)]; simp [intOf]; omega⟩
      · have c1 : decide (n < IntKind.u64.wrap (z * z)) = false := by rw [hw]; exact decide_eq_false c
        have HZ := Aside0.mk hz
        have HM : Aside0 (z * z ≤ n) := ⟨by omega⟩
        clear c hw hm0 hm1 hz
        go_wp2_with fail
        go_loopw [3] (fun v W => ∃ (z : Int) (q : Nat), v = .int .u64 z ∧ W = w.drewN q ∧ Aside0 (0 ≤ z ∧ z ≤ 4294967295) ∧ Aside0 (z * z ≤ n)) (fun v _ => 4294967295 - (intOf v).toNat)
        case atStart => exact ⟨_, _, rfl, rfl, HZ, HM⟩
        case round =>
          clear c1 HZ HM
          obtain ⟨z, q, rfl, rfl, ⟨hz⟩, ⟨hm⟩⟩ := hrel
          by_cases c : z < 4294967295
          · have c1 : decide (z < 4294967295) = true := decide_eq_true c
            have hw0 : IntKind.u64.wrap (z + 1) = z + 1 := by rw [wu, Int.emod_eq_of_lt (by omega) (by omega)]
            have hm0 : 0 ≤ (z + 1) * (z + 1) := Int.mul_nonneg (by omega) (by omega)
            have hm1 : (z + 1) * (z + 1) ≤ 4294967295 * 4294967295 := Int.mul_le_mul (by omega) (by omega) (by omega) (by omega)
            have hw : IntKind.u64.wrap ((z + 1) * (z + 1)) = (z + 1) * (z + 1) := by rw [wu, Int.emod_eq_of_lt hm0 (by omega)]
            by_cases d : (z + 1) * (z + 1) ≤ n
            · have d1 : decide (IntKind.u64.wrap (IntKind.u64.wrap (z + 1) * IntKind.u64.wrap (z + 1)) ≤ n) = true := by rw [hw0, hw]; exact decide_eq_true d
              have HZ := Aside0.mk hz
              have HD := Aside0.mk d
              have HC := Aside0.mk c
              clear c d hw hw0 hm0 hm1 hz hm
              go_wp2
              have := HZ.out
              have := HC.out
              exact ⟨⟨z + 1, q, by rw [wu, Int.emod_eq_of_lt (by omega) (by omega)], rfl, ⟨by omega⟩, HD⟩, by rw [wu, Int.emod_eq_of_lt (by omega) (by omega)]; simp [intOf]; omega⟩
            · have d1 : decide (IntKind.u64.wrap (IntKind.u64.wrap (z + 1) * IntKind.u64.wrap (z + 1)) ≤ n) = false := by rw [hw0, hw]; exact decide_eq_false d
              have HR : Aside0 (rootF n = z) := ⟨(rootF_is HU.out).unique ⟨hz.1, hm, by omega⟩⟩
              clear c d hw hw0 hm0 hm1 hz hm
              go_wp2
              go_ret
              exact ⟨by rw [HR.out]; rfl, ⟨_, rfl⟩⟩
          · have c1 : decide (z < 4294967295) = false := decide_eq_false c
            have HR : Aside0 (rootF n = z) := ⟨(rootF_is HU.out).unique ⟨hz.1, hm, by (have e : z = 4294967295 := (by omega)); (subst e); omega⟩⟩
            clear c hz hm
            go_wp2
            go_ret
            exact ⟨by rw [HR.out]; rfl, ⟨_, rfl⟩⟩
  case inr =>
    go_loopw [3] (fun v W => ∃ (z : Int) (q : Nat), v = .int .u64 z ∧ W = w.drewN q ∧ Aside0 (0 ≤ z ∧ z ≤ 4294967295)) (fun v _ => (intOf v).toNat)
    case atStart => exact ⟨_, _, rfl, rfl, ⟨by omega⟩⟩
    case round =>
      clear hy hcv
      obtain ⟨z, q, rfl, rfl, ⟨hz⟩⟩ := hrel
      have hm0 : 0 ≤ z * z := Int.mul_nonneg hz.1 hz.1
      have hm1 : z * z ≤ 4294967295 * 4294967295 := Int.mul_le_mul hz.2 hz.2 hz.1 (by omega)
      have hw : IntKind.u64.wrap (z * z) = z * z := by rw [wu, Int.emod_eq_of_lt hm0 (by omega)]
      by_cases c : n < z * z
      · have c1 : decide (n < IntKind.u64.wrap (z * z)) = true := by rw [hw]; exact decide_eq_true c
        have hz1 : 1 ≤ z := by
          rcases Int.lt_or_le 0 z with h | h
          · omega
          · have : z = 0 := by omega
            subst this; omega
        have HZ := Aside0.mk hz
        have HZ1 := Aside0.mk hz1
        clear c hw hm0 hm1 hz hz1
        go_wp2
        have := HZ.out
        have := HZ1.out
        exact ⟨⟨z - 1, q, by rw [wu, Int.emod_eq_of_lt (by omega) (by omega)], rfl, ⟨by omega⟩⟩, by rw [wu, Int.emod_eq_of_lt (by omega) (by omega)]; simp [intOf]; omega⟩
      · have c1 : decide (n < IntKind.u64.wrap (z * z)) = false := by rw [hw]; exact decide_eq_false c
        have HZ := Aside0.mk hz
        have HM : Aside0 (z * z ≤ n) := ⟨by omega⟩
        clear c hw hm0 hm1 hz
        go_wp2_with fail
        go_loopw [3] (fun v W => ∃ (z : Int) (q : Nat), v = .int .u64 z ∧ W = w.drewN q ∧ Aside0 (0 ≤ z ∧ z ≤ 4294967295) ∧ Aside0 (z * z ≤ n)) (fun v _ => 4294967295 - (intOf v).toNat)
        case atStart => exact ⟨_, _, rfl, rfl, HZ, HM⟩
        case round =>
          clear c1 HZ HM
          obtain ⟨z, q, rfl, rfl, ⟨hz⟩, ⟨hm⟩⟩ := hrel
          by_cases c : z < 4294967295
          · have c1 : decide (z < 4294967295) = true := decide_eq_true c
            have hw0 : IntKind.u64.wrap (z + 1) = z + 1 := by rw [wu, Int.emod_eq_of_lt (by omega) (by omega)]
            have hm0 : 0 ≤ (z + 1) * (z + 1) := Int.mul_nonneg (by omega) (by omega)
            have hm1 : (z + 1) * (z + 1) ≤ 4294967295 * 4294967295 := Int.mul_le_mul (by omega) (by omega) (by omega) (by omega)
            have hw : IntKind.u64.wrap ((z + 1) * (z + 1)) = (z + 1) * (z + 1) := by rw [wu, Int.emod_eq_of_lt hm0 (by omega)]
            by_cases d : (z + 1) * (z + 1) ≤ n
            · have d1 : decide (IntKind.u64.wrap (IntKind.u64.wrap (z + 1) * IntKind.u64.wrap (z + 1)) ≤ n) = true := by rw [hw0, hw]; exact decide_eq_true d
              have HZ := Aside0.mk hz
              have HD := Aside0.mk d
              have HC := Aside0.mk c
              clear c d hw hw0 hm0 hm1 hz hm
              go_wp2
              have := HZ.out
              have := HC.out
              exact ⟨⟨z + 1, q, by rw [wu, Int.emod_eq_of_lt (by omega) (by omega)], rfl, ⟨by omega⟩, HD⟩, by rw [wu, Int.emod_eq_of_lt (by omega) (by omega)]; simp [intOf]; omega⟩
            · have d1 : decide (IntKind.u64.wrap (IntKind.u64.wrap (z + 1) * IntKind.u64.wrap (z + 1)) ≤ n) = false := by rw [hw0, hw]; exact decide_eq_false d
              have HR : Aside0 (rootF n = z) := ⟨(rootF_is HU.out).unique ⟨hz.1, hm, by omega⟩⟩
              clear c d hw hw0 hm0 hm1 hz hm
              go_wp2
              go_ret
              exact ⟨by rw [HR.out]; rfl, ⟨_, rfl⟩⟩
          · have c1 : decide (z < 4294967295) = false := decide_eq_false c
            have HR : Aside0 (rootF n = z) := ⟨(rootF_is HU.out).unique ⟨hz.1, hm, by (have e : z = 4294967295 := (by omega)); (subst e); omega⟩⟩
            clear c hz hm
            go_wp2
            go_ret
            exact ⟨by rw [HR.out]; rfl, ⟨_, rfl⟩⟩
def table_Root.f (a0 : Int) : Option Int := if U64 a0 then some (rootF a0) else none
theorem table_Root.of (a0 : Int)  (h_ : U64 a0) : table_Root.f a0 = some (rootF a0) := if_pos h_
theorem table_Root.calls (a0 : Int) (r : Int) (w : World) (h : table_Root.f a0 = some r) :
    Calls Try.prog 96 #[.int .u64 a0] w fun e w' => e = .returned (.int .u64 r) ∧ Drawn0 w w' := by
  unfold table_Root.f at h
  split at h
  case isFalse => cases h
  rename_i hu
  cases h
  exact table_Root.gen a0 hu w


end Go.Proofs.Ytbnfejaeekljcaa.HD
