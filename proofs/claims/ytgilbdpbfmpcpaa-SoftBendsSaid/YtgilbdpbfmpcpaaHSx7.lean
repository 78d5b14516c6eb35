/- What Go functions do, each as a plain Lean function with the same answers, and the proof of it, in every world: printed by the session's driver over the kit's print, with texts by hand. -/
import Derived.Test.YtgilbdpbfmpcpaaHSx0
import Derived.Test.YtgilbdpbfmpcpaaHSx1
import Derived.Test.YtgilbdpbfmpcpaaHSx2
import Derived.Test.YtgilbdpbfmpcpaaHSx5
import Derived.Test.YtgilbdpbfmpcpaaHSx6
import Derived.Test.YtgilbdpbfmpcpaaMini
namespace Go.Proofs.Ytgilbdpbfmpcpaa.HS
open Go.RowKit Go.Proofs.YtgilbdpbfmpcpaaW.PrintWords Go.Proofs.YtgilbdpbfmpcpaaW.PrintLast Go.Proofs.YtgilbdpbfmpcpaaW.PrintMore
attribute [local go_sem] max2_int min2_int max_two min_two max_three min_three max_four min_four   -- for this text's walks alone
open Go.Proofs.Ytgilbdpbfmpcpaa.Sp
attribute [local go_sem] Go.Proofs.Ytgilbdpbfmpcpaa.Sp.u64_not
set_option linter.unusedVariables false
set_option linter.unusedSimpArgs false

/-! ### vec_SumP: function 44 -/
def vec_SumP.l0 : Nat → List Int → List (List Int) → Int → Int → Option (List Int × Int)
 | 0, _, _, _, _ => none
 | k + 1, x2, x6, x7, x8 => if x8 < x7 then (if 0 ≤ x8 then (if x8 < (x6.length : Int) then (if x8 = 0 then ((slices_Clone_int64_int64.f (rd_L1 x6 x8)).bind fun t186 => ((vec_Check.f (rd_L1 x6 x8)).bind fun t189 => (if t189 = 0 then (vec_SumP.l0 k t186 x6 x7 (wrap64 (x8 + 1))) else (some (([] : List Int), t189))))) else ((vec_Add.f x2 (rd_L1 x6 x8)).bind fun bt190 => (if bt190.2 = 0 then (vec_SumP.l0 k bt190.1 x6 x7 (wrap64 (x8 + 1))) else (some (([] : List Int), bt190.2))))) else (none)) else (none)) else (some (x2, 0))
def vec_SumP.f (k : Nat) (l0 : List (List Int)) : Option (List Int × Int) := vec_SumP.l0 k ([] : List Int) l0 (l0.length : Int) 0
theorem vec_SumP.mono_l : ∀ k, (∀ y0 y1 y2 y3, LeO (vec_SumP.l0 k y0 y1 y2 y3) (vec_SumP.l0 (k + 1) y0 y1 y2 y3))
 | 0 => fun _ _ _ _ r h => by simp [vec_SumP.l0] at h
 | k + 1 => by
  have ih0 := vec_SumP.mono_l k
  ·
   intro y0 y1 y2 y3
   unfold vec_SumP.l0
   repeat' first
   | (with_reducible exact ih0 _ _ _ _)
   | (with_reducible exact LeO.refl _)
   | (with_reducible exact LeO.none _)
   | (with_reducible refine LeO.ite ?_ ?_)
   | (with_reducible refine LeO.bind ?_ (fun _ => ?_))
theorem vec_SumP.mono : ∀ a0 k, LeO (vec_SumP.f k a0) (vec_SumP.f (k + 1) a0) := by
 intro a0 k
 have ih0 := vec_SumP.mono_l k
 unfold vec_SumP.f
 repeat' first
   | (with_reducible exact ih0 _ _ _ _)
   | (with_reducible exact LeO.refl _)
   | (with_reducible exact LeO.none _)
   | (with_reducible refine LeO.ite ?_ ?_)
   | (with_reducible refine LeO.bind ?_ (fun _ => ?_))
set_option maxHeartbeats 8000000 in
set_option maxRecDepth 100000 in
theorem vec_SumP.calls (k : Nat) (A0 : Option Addr) (c0 : Nat) (l0 : List (List Int)) (r1 : List Int) (r2 : Int) (w : World) (hr0 : Kd.C (Kd.slice 2 (Kd.int .i64)) w A0 l0.length l0) (hc0 : l0.length ≤ c0) (h : vec_SumP.f k l0 = some (r1, r2)) :
  Calls Try.prog 44 #[.slice A0 l0.length c0] w fun e w' => ∃ v0_ : Value, e = .returned (.tuple #[v0_, .int .i64 r2]) ∧ Kd.R (Kd.int .i64) 2 w' w.heap.size (fun _ => True) v0_ r1 ∧ Below w.heap.size w w' := by
 have HR0 := ZM hr0
 have HC0 := ZM hc0
 clear hr0 hc0
 have HB := ZM (Below.refl w.heap.size w)
 have H : (vec_SumP.l0 k ([] : List Int) l0 (l0.length : Int) 0) = some (r1, r2) := h
 clear h
 have H' := ZM H
 clear H
 go_enter Try.func44, Try.ntmps44
 go_wp2
 go_loopg [2, 8] k (fun kq v2 v8 w' => ∃ (x2_1 : List Int) (x8_1 : Int), v8 = .int .i64 x8_1 ∧ Aside0 (vec_SumP.l0 kq x2_1 l0 (l0.length : Int) x8_1 = some (r1, r2)) ∧ Aside0 (kq ≤ k) ∧ Aside0 (Kd.R (Kd.int .i64) 2 w' w.heap.size (fun _ => True) v2 x2_1) ∧ Aside0 (Below w.heap.size w w'))
 case atStart => exact ⟨(([] : List Int)), (0), Z4, H', ⟨Nat.le_refl _⟩, ⟨by first | exact Kd.R_nil _ _ _ _ _ | exact Kd.N_nil _ _ _ _ _ | exact Kd.V_nil _ _ _ _ _ | exact Kd.Q_nil _ _ _ _ _ | exact Kd.S_nil _ _ _ _ _⟩, ⟨by repeat (first | (with_reducible first | exact HB.out | apply zzA | apply zzN | apply zzD) | exact HB.out)⟩⟩
 case round =>
  clear H'
  obtain ⟨x2_1, x8_1, rfl, HA, HK1, HO_2, HB⟩ := hrel
  cases gk with
  | zero => exact absurd HA.out (by simp [vec_SumP.l0])
  | succ k1 =>
   have H := HA.out
   clear HA
   simp only [vec_SumP.l0] at H
   by_cases c2 : x8_1 < (l0.length : Int)
   case neg =>
    rw [if_neg c2] at H
    have c2b0 : decide (x8_1 < (l0.length : Int)) = false := decide_eq_false c2
    clear c2
    simp only [Option.some.injEq, Prod.mk.injEq] at H
    obtain ⟨rfl, rfl⟩ := H
    go_wp2
    go_ret2
    exact ⟨_, by first | rfl | (simp [errW_none, errW_some] <;> rfl) | (simp [*, errW_none, errW_some] <;> rfl), by (with_reducible repeat (first | apply rrA | apply rrN | apply rrD)); exact HO_2.out, by repeat (first | (with_reducible first | exact HB.out | apply zzA | apply zzN | apply zzD) | exact HB.out)⟩
   rw [if_pos c2] at H
   have c2b0 : decide (x8_1 < (l0.length : Int)) = true := decide_eq_true c2
   clear c2
   by_cases c3 : 0 ≤ x8_1
   case neg =>
    rw [if_neg c3] at H
    exact absurd H (by simp)
   rw [if_pos c3] at H
   have c3b0 : decide (0 ≤ x8_1) = true := decide_eq_true c3
   clear c3
   by_cases c4 : x8_1 < (l0.length : Int)
   case neg =>
    rw [if_neg c4] at H
    exact absurd H (by simp)
   rw [if_pos c4] at H
   have c4b0 : decide (x8_1 < (l0.length : Int)) = true := decide_eq_true c4
   clear c4
   by_cases c5 : x8_1 = 0
   case neg =>
    rw [if_neg c5] at H
    have c5b0 : (x8_1 == 0) = false := beq_eq_false_iff_ne.mpr c5
    have c5b1 : (x8_1 != 0) = true := bne_iff_ne.mpr c5
    replace H := Option.bind_eq_some_iff.mp H
    obtain ⟨⟨t190, t191⟩, A110, H⟩ := H
    replace H : (if t191 = 0 then (vec_SumP.l0 k1 t190 l0 (l0.length : Int) (wrap64 (x8_1 + 1))) else (some (([] : List Int), t191))) = some (r1, r2) := H
    have A11 := ZM A110
    clear A110
    by_cases c12 : t191 = 0
    case neg =>
     rw [if_neg c12] at H
     have c12b0 : (t191 == 0) = false := beq_eq_false_iff_ne.mpr c12
     have c12b1 : (t191 != 0) = true := bne_iff_ne.mpr c12
     simp only [Option.some.injEq, Prod.mk.injEq] at H
     obtain ⟨rfl, rfl⟩ := H
     have p185 : 0 ≤ (x8_1 : Int) := of_decide_eq_true Z3
     have q185 : x8_1 < (l0.length : Int) := of_decide_eq_true Z3
     obtain ⟨ad185, A185_0, c185_0, e185, hx185_0, hl185_0, hi185_0⟩ := at_L1 HR0.out x8_1 p185 q185
     cases e185
     replace hx185_0 := (HB.out.cell (World.block_lt_of_cell? w _ hx185_0)).trans hx185_0
     have HR185_0 := ZM hi185_0
     have HC185_0 := ZM hl185_0
     clear hi185_0 hl185_0
     replace p185 := eq_true p185
     replace q185 := eq_true q185
     obtain ⟨Ao15, co15, eo15⟩ := Kd.R_slice HO_2.out
     subst eo15
     go_wp2_with (first | ((with_reducible refine gate_callee (f := 70) rfl ?_); refine goesL_ (some 22) rfl rfl Try.func70 (by kernel_rfl) rfl #[.slice Ao15 x2_1.length co15, .slice A185_0 (rd_L1 l0 x8_1).length c185_0] rfl Z2 ?_; (with_reducible refine (vec_Add.calls _ _ x2_1 _ _ (rd_L1 l0 x8_1) t190 t191 _ ?side1 ?side2 ?side3 ?side4 A11.out).mono ?_); (case side1 => exact Z52); (case side2 => exact (Kd.R_reads' HO_2.out).2.1); (case side3 => exact Z26); (case side4 => exact HC185_0.out); rintro e w16 ⟨v192, rfl, ho0, hb⟩; refine ⟨_, rfl, ?_⟩; have n0_ := ZM (Kd.R_elder' (Zr HO_2) (Kd.R_base ho0) hb); have n1_ := ZM (Kd.R_lower (Kd.R_new' ho0 (Kd.R_lt (Zr HO_2))) (zzS Z1)); have n2_ := ZM (zzT Z1 hb); clear HO_2; clear HB; have HO_2 := n0_; have HO193 := n1_; have HB := n2_; clear n0_ n1_ n2_; (try clear hb); (try clear hb2); (try clear hk); (try clear hi); (try clear ho0)))
     go_ret2
     exact ⟨_, by first | rfl | (simp [errW_none, errW_some] <;> rfl) | (simp [*, errW_none, errW_some] <;> rfl), by first | exact Kd.R_nil _ _ _ _ _ | exact Kd.N_nil _ _ _ _ _ | exact Kd.V_nil _ _ _ _ _ | exact Kd.Q_nil _ _ _ _ _ | exact Kd.S_nil _ _ _ _ _, by repeat (first | (with_reducible first | exact HB.out | apply zzA | apply zzN | apply zzD) | exact HB.out)⟩
    rw [if_pos c12] at H
    have c12b0 : (t191 == 0) = true := beq_iff_eq.mpr c12
    have c12b1 : (t191 != 0) = false := bne_eq_false_iff_eq.mpr c12
    clear c12
    have H' := ZM H
    clear H
    have p185 : 0 ≤ (x8_1 : Int) := of_decide_eq_true Z3
    have q185 : x8_1 < (l0.length : Int) := of_decide_eq_true Z3
    obtain ⟨ad185, A185_0, c185_0, e185, hx185_0, hl185_0, hi185_0⟩ := at_L1 HR0.out x8_1 p185 q185
    cases e185
    replace hx185_0 := (HB.out.cell (World.block_lt_of_cell? w _ hx185_0)).trans hx185_0
    have HR185_0 := ZM hi185_0
    have HC185_0 := ZM hl185_0
    clear hi185_0 hl185_0
    replace p185 := eq_true p185
    replace q185 := eq_true q185
    obtain ⟨Ao13, co13, eo13⟩ := Kd.R_slice HO_2.out
    subst eo13
    go_wp2_with (first | ((with_reducible refine gate_callee (f := 70) rfl ?_); refine goesL_ (some 22) rfl rfl Try.func70 (by kernel_rfl) rfl #[.slice Ao13 x2_1.length co13, .slice A185_0 (rd_L1 l0 x8_1).length c185_0] rfl Z2 ?_; (with_reducible refine (vec_Add.calls _ _ x2_1 _ _ (rd_L1 l0 x8_1) t190 t191 _ ?side1 ?side2 ?side3 ?side4 A11.out).mono ?_); (case side1 => exact Z52); (case side2 => exact (Kd.R_reads' HO_2.out).2.1); (case side3 => exact Z26); (case side4 => exact HC185_0.out); rintro e w14 ⟨v192, rfl, ho0, hb⟩; refine ⟨_, rfl, ?_⟩; have n0_ := ZM (Kd.R_elder' (Zr HO_2) (Kd.R_base ho0) hb); have n1_ := ZM (Kd.R_lower (Kd.R_new' ho0 (Kd.R_lt (Zr HO_2))) (zzS Z1)); have n2_ := ZM (zzT Z1 hb); clear HO_2; clear HB; have HO_2 := n0_; have HO193 := n1_; have HB := n2_; clear n0_ n1_ n2_; (try clear hb); (try clear hb2); (try clear hk); (try clear hi); (try clear ho0)))
    go_roundg k1
    case measure => have := HK1.out; omega
    case rel => exact ⟨(t190), (wrap64 (x8_1 + 1)), Z4, H', ⟨by have := HK1.out; omega⟩, ⟨by (with_reducible repeat (first | apply rrA | apply rrN | apply rrD)); exact Kd.R_mono HO193.out (fun _ hk => trivial)⟩, ⟨by repeat (first | (with_reducible first | exact HB.out | apply zzA | apply zzN | apply zzD) | exact HB.out)⟩⟩
   rw [if_pos c5] at H
   have c5b0 : (x8_1 == 0) = true := beq_iff_eq.mpr c5
   have c5b1 : (x8_1 != 0) = false := bne_eq_false_iff_eq.mpr c5
   clear c5
   replace H := Option.bind_eq_some_iff.mp H
   obtain ⟨t186, A60, H⟩ := H
   replace H : ((vec_Check.f (rd_L1 l0 x8_1)).bind fun t189 => (if t189 = 0 then (vec_SumP.l0 k1 t186 l0 (l0.length : Int) (wrap64 (x8_1 + 1))) else (some (([] : List Int), t189)))) = some (r1, r2) := H
   have A6 := ZM A60
   clear A60
   replace H := Option.bind_eq_some_iff.mp H
   obtain ⟨t189, A70, H⟩ := H
   replace H : (if t189 = 0 then (vec_SumP.l0 k1 t186 l0 (l0.length : Int) (wrap64 (x8_1 + 1))) else (some (([] : List Int), t189))) = some (r1, r2) := H
   have A7 := ZM A70
   clear A70
   by_cases c8 : t189 = 0
   case neg =>
    rw [if_neg c8] at H
    have c8b0 : (t189 == 0) = false := beq_eq_false_iff_ne.mpr c8
    have c8b1 : (t189 != 0) = true := bne_iff_ne.mpr c8
    simp only [Option.some.injEq, Prod.mk.injEq] at H
    obtain ⟨rfl, rfl⟩ := H
    have p185 : 0 ≤ (x8_1 : Int) := of_decide_eq_true Z3
    have q185 : x8_1 < (l0.length : Int) := of_decide_eq_true Z3
    obtain ⟨ad185, A185_0, c185_0, e185, hx185_0, hl185_0, hi185_0⟩ := at_L1 HR0.out x8_1 p185 q185
    cases e185
    replace hx185_0 := (HB.out.cell (World.block_lt_of_cell? w _ hx185_0)).trans hx185_0
    have HR185_0 := ZM hi185_0
    have HC185_0 := ZM hl185_0
    clear hi185_0 hl185_0
    replace p185 := eq_true p185
    replace q185 := eq_true q185
    go_wp2_with (first | ((with_reducible refine gate_callee (f := 19) rfl ?_); refine goesL_ (some 16) rfl rfl Try.func19 (by kernel_rfl) rfl #[.slice A185_0 (rd_L1 l0 x8_1).length c185_0] rfl Z2 ?_; (with_reducible refine (slices_Clone_int64_int64.calls _ _ (rd_L1 l0 x8_1) t186 _ ?side1 ?side2 A6.out).mono ?_); (case side1 => exact Z26); (case side2 => exact HC185_0.out); rintro e w10 ⟨v187, rfl, ho0, hb⟩; refine ⟨_, rfl, ?_⟩; have n0_ := ZM (Kd.R_elder' (Zr HO_2) (Kd.R_base ho0) hb); have n1_ := ZM (Kd.R_lower (Kd.R_new' ho0 (Kd.R_lt (Zr HO_2))) (zzS Z1)); have n2_ := ZM (zzT Z1 hb); clear HO_2; clear HB; have HO_2 := n0_; have HO188 := n1_; have HB := n2_; clear n0_ n1_ n2_; (try clear hb); (try clear hb2); (try clear hk); (try clear hi); (try clear ho0)) | ((with_reducible refine gate_callee (f := 57) rfl ?_); refine goesL_ (some 18) rfl rfl Try.func57 (by kernel_rfl) rfl #[.slice A185_0 (rd_L1 l0 x8_1).length c185_0] rfl Z2 ?_; (with_reducible refine (vec_Check.calls _ _ (rd_L1 l0 x8_1) t189 _ ?side1 ?side2 A7.out).mono ?_); (case side1 => exact Z26); (case side2 => exact HC185_0.out); rintro e w' ⟨rfl, ⟨nd, rfl⟩⟩; refine ⟨_, rfl, ?_⟩))
    go_ret2
    exact ⟨_, by first | rfl | (simp [errW_none, errW_some] <;> rfl) | (simp [*, errW_none, errW_some] <;> rfl), by first | exact Kd.R_nil _ _ _ _ _ | exact Kd.N_nil _ _ _ _ _ | exact Kd.V_nil _ _ _ _ _ | exact Kd.Q_nil _ _ _ _ _ | exact Kd.S_nil _ _ _ _ _, by repeat (first | (with_reducible first | exact HB.out | apply zzA | apply zzN | apply zzD) | exact HB.out)⟩
   rw [if_pos c8] at H
   have c8b0 : (t189 == 0) = true := beq_iff_eq.mpr c8
   have c8b1 : (t189 != 0) = false := bne_eq_false_iff_eq.mpr c8
   clear c8
   have H' := ZM H
   clear H
   have p185 : 0 ≤ (x8_1 : Int) := of_decide_eq_true Z3
   have q185 : x8_1 < (l0.length : Int) := of_decide_eq_true Z3
   obtain ⟨ad185, A185_0, c185_0, e185, hx185_0, hl185_0, hi185_0⟩ := at_L1 HR0.out x8_1 p185 q185
   cases e185
   replace hx185_0 := (HB.out.cell (World.block_lt_of_cell? w _ hx185_0)).trans hx185_0
   have HR185_0 := ZM hi185_0
   have HC185_0 := ZM hl185_0
   clear hi185_0 hl185_0
   replace p185 := eq_true p185
   replace q185 := eq_true q185
   go_wp2_with (first | ((with_reducible refine gate_callee (f := 19) rfl ?_); refine goesL_ (some 16) rfl rfl Try.func19 (by kernel_rfl) rfl #[.slice A185_0 (rd_L1 l0 x8_1).length c185_0] rfl Z2 ?_; (with_reducible refine (slices_Clone_int64_int64.calls _ _ (rd_L1 l0 x8_1) t186 _ ?side1 ?side2 A6.out).mono ?_); (case side1 => exact Z26); (case side2 => exact HC185_0.out); rintro e w9 ⟨v187, rfl, ho0, hb⟩; refine ⟨_, rfl, ?_⟩; have n0_ := ZM (Kd.R_elder' (Zr HO_2) (Kd.R_base ho0) hb); have n1_ := ZM (Kd.R_lower (Kd.R_new' ho0 (Kd.R_lt (Zr HO_2))) (zzS Z1)); have n2_ := ZM (zzT Z1 hb); clear HO_2; clear HB; have HO_2 := n0_; have HO188 := n1_; have HB := n2_; clear n0_ n1_ n2_; (try clear hb); (try clear hb2); (try clear hk); (try clear hi); (try clear ho0)) | ((with_reducible refine gate_callee (f := 57) rfl ?_); refine goesL_ (some 18) rfl rfl Try.func57 (by kernel_rfl) rfl #[.slice A185_0 (rd_L1 l0 x8_1).length c185_0] rfl Z2 ?_; (with_reducible refine (vec_Check.calls _ _ (rd_L1 l0 x8_1) t189 _ ?side1 ?side2 A7.out).mono ?_); (case side1 => exact Z26); (case side2 => exact HC185_0.out); rintro e w' ⟨rfl, ⟨nd, rfl⟩⟩; refine ⟨_, rfl, ?_⟩))
   go_roundg k1
   case measure => have := HK1.out; omega
   case rel => exact ⟨(t186), (wrap64 (x8_1 + 1)), Z4, H', ⟨by have := HK1.out; omega⟩, ⟨by (with_reducible repeat (first | apply rrA | apply rrN | apply rrD)); exact Kd.R_mono HO188.out (fun _ hk => trivial)⟩, ⟨by repeat (first | (with_reducible first | exact HB.out | apply zzA | apply zzN | apply zzD) | exact HB.out)⟩⟩
theorem vec_SumP.loop (x0 : List (List Int)) (hv : ∀ v ∈ x0, V64 v) (hb : x0.length ≤ 9223372036854775807) : ∀ (d i : Nat) (acc : List Int), 0 < i → d + i = x0.length → V64 acc →
    vec_SumP.l0 (d + 1) acc x0 (x0.length : Int) (i : Int) = some (sumFrom (x0.drop i) acc) := by
  intro d
  induction d with
  | zero =>
    intro i acc h0 hd ha
    rw [vec_SumP.l0, if_neg (by omega), List.drop_eq_nil_of_le (by omega)]; rfl
  | succ d ih =>
    intro i acc h0 hd ha
    have hi : i < x0.length := by omega
    have e : rd_L1 x0 (i : Int) = x0[i] := by simp [rd_L1, List.getD_eq_getElem?_getD, List.getElem?_eq_getElem hi]
    rw [vec_SumP.l0, if_pos (by omega), if_pos (by omega), if_pos (by omega), if_neg (by omega), e, vec_Add.of _ _ ⟨ha, hv _ (List.getElem_mem hi)⟩, List.drop_eq_getElem_cons hi]
    simp only [Option.bind_some, sumFrom]
    by_cases c : (addV acc x0[i]).2 = 0
    · rw [if_pos c, if_pos c, wrap64_of (by unfold I64; omega), show (i : Int) + 1 = ((i + 1 : Nat) : Int) by omega]
      exact ih (i + 1) _ (by omega) (by omega) (addV_v64 _ _)
    · rw [if_neg c, if_neg c]
def vec_Sum.f (l0 : List (List Int)) : Option (List Int × Int) := if (∀ v ∈ l0, V64 v) ∧ fewV l0 = true then some (sumsV l0) else none
theorem vec_Sum.calls (A0 : Option Addr) (c0 : Nat) (l0 : List (List Int)) (r1 : List Int) (r2 : Int) (w : World) (hr0 : Kd.C (Kd.slice 2 (Kd.int .i64)) w A0 l0.length l0) (hc0 : l0.length ≤ c0) (h : vec_Sum.f l0 = some (r1, r2)) :
    Calls Try.prog 44 #[.slice A0 l0.length c0] w fun e w' => ∃ v0_ : Value, e = .returned (.tuple #[v0_, .int .i64 r2]) ∧ Kd.R (Kd.int .i64) 2 w' w.heap.size (fun _ => True) v0_ r1 ∧ Below w.heap.size w w' := by
  unfold vec_Sum.f at h
  split at h
  case isFalse => cases h
  rename_i hv
  obtain ⟨hv, hf⟩ := hv
  have hm := Kd.C_max hr0
  refine vec_SumP.calls (l0.length + 1) A0 c0 l0 r1 r2 w hr0 hc0 (Eq.trans ?_ h)
  unfold vec_SumP.f
  cases l0 with
  | nil => rw [vec_SumP.l0, if_neg (by simp)]; rfl
  | cons v l =>
    have e : rd_L1 (v :: l) 0 = v := rfl
    have hl : ((v :: l).length : Int) = (l.length : Int) + 1 := by simp
    have hv0 : v.length ≤ 5000 := by simp only [fewV, List.all_cons, Bool.and_eq_true, decide_eq_true_eq] at hf; exact hf.1
    rw [vec_SumP.l0, if_pos (by omega), if_pos (by omega), if_pos (by omega), if_pos rfl, e, slices_Clone_int64_int64.of _ (by omega), vec_Check.of]
    show _ = some (if checkE v = 0 then sumFrom l v else ([], checkE v))
    simp only [Option.bind_some]
    by_cases c : checkE v = 0
    · rw [if_pos c, if_pos c, wrap64_of (by unfold I64; omega)]
      exact vec_SumP.loop (v :: l) hv hm l.length 1 v (by omega) (by simp) (hv v (by simp))
    · rw [if_neg c, if_neg c]


/-! ### fix_QuotP: function 45 -/
def fix_QuotP.f (a0 : Int) (a1 : Int) : Option (Int × Int) := (fix_Div.f a0 a1 0).bind fun bt194 => (some (bt194.1, bt194.2))
set_option maxHeartbeats 8000000 in
set_option maxRecDepth 100000 in
theorem fix_QuotP.calls (a0 : Int) (a1 : Int) (r1 : Int) (r2 : Int) (w : World) (h : fix_QuotP.f a0 a1 = some (r1, r2)) :
  Calls Try.prog 45 #[.int .i64 a0, .int .i64 a1] w fun e w' => e = .returned (.tuple #[.int .i64 r1, .int .i64 r2]) ∧ Drawn0 w w' := by
 have H : ((fix_Div.f a0 a1 0).bind fun bt194 => (some (bt194.1, bt194.2))) = some (r1, r2) := h
 clear h
 replace H := Option.bind_eq_some_iff.mp H
 obtain ⟨⟨t194, t195⟩, A30, H⟩ := H
 replace H : (some (t194, t195)) = some (r1, r2) := H
 have A3 := ZM A30
 clear A30
 simp only [Option.some.injEq, Prod.mk.injEq] at H
 obtain ⟨rfl, rfl⟩ := H
 go_enter Try.func45, Try.ntmps45
 go_wp2_with (first | ((with_reducible refine gate_callee (f := 42) rfl ?_); refine goesL_ (some 8) rfl rfl Try.func42 (by kernel_rfl) rfl #[.int .i64 a0, .int .i64 a1, .int .i64 0] rfl Z2 ?_; (with_reducible refine (fix_Div.calls a0 a1 0 t194 t195 _ A3.out).mono ?_); rintro e w' ⟨rfl, ⟨nd, rfl⟩⟩; refine ⟨_, rfl, ?_⟩))
 go_ret2
 exact ⟨by first | rfl | (simp; done) | (simp [*]; done), by repeat (first | exact ddR _ | apply ddS)⟩
def fix_Quot.f (a0 a1 : Int) : Option (Int × Int) := if I64 a0 ∧ I64 a1 then some (divF a0 a1 0) else none
theorem fix_Quot.of (a0 a1 : Int)  (h_ : I64 a0 ∧ I64 a1) : fix_Quot.f a0 a1 = some (divF a0 a1 0) := if_pos h_
theorem fix_Quot.calls (a0 : Int) (a1 : Int) (r1 : Int) (r2 : Int) (w : World) (h : fix_Quot.f a0 a1 = some (r1, r2)) :
    Calls Try.prog 45 #[.int .i64 a0, .int .i64 a1] w fun e w' => e = .returned (.tuple #[.int .i64 r1, .int .i64 r2]) ∧ Drawn0 w w' := by
  unfold fix_Quot.f at h
  split at h
  · rename_i hu
    refine fix_QuotP.calls a0 a1 r1 r2 w (Eq.trans ?_ h)
    unfold fix_QuotP.f fix_Div.f
    rw [if_pos hu]; simp
  · cases h


/-! ### linear_Mean: function 25 -/
def linear_Mean.f (a0 : Int) (l1 : List (List Int)) : Option (List Int × Int) := if I64 a0 ∧ (∀ v ∈ l1, V64 v) ∧ fewV l1 = true then some (meanL a0 l1) else none
theorem linear_Mean.of (a0 : Int) (l1 : List (List Int)) (h : I64 a0 ∧ (∀ v ∈ l1, V64 v) ∧ fewV l1 = true) : linear_Mean.f a0 l1 = some (meanL a0 l1) := if_pos h
set_option maxHeartbeats 4000000 in
set_option maxRecDepth 100000 in
theorem linear_Mean.calls (a0 : Int) (A1 : Option Addr) (c1 : Nat) (l1 : List (List Int)) (r1 : List Int) (r2 : Int) (w : World) (hr1 : Kd.C (Kd.slice 2 (Kd.int .i64)) w A1 l1.length l1) (hc1 : l1.length ≤ c1) (h : linear_Mean.f a0 l1 = some (r1, r2)) :
    Calls Try.prog 25 #[.int .i64 a0, .slice A1 l1.length c1] w fun e w' => ∃ v0_ : Value, e = .returned (.tuple #[v0_, .int .i64 r2]) ∧ Kd.R (Kd.int .i64) 2 w' w.heap.size (fun _ => True) v0_ r1 ∧ Below w.heap.size w w' := by
 unfold linear_Mean.f at h
 split at h
 case isFalse => cases h
 rename_i hv
 have h := Option.some.inj h
 have HV := ZM hv
 clear hv
 unfold meanL at h
 have HR1 := ZM hr1
 have HC1 := ZM hc1
 clear hr1 hc1
 by_cases c : a0 < 1
 · rw [if_pos c] at h
   cases h
   have cb : decide (a0 < 1) = true := decide_eq_true c
   clear c
   go_enter Try.func25, Try.ntmps25
   go_wp2
   go_ret2
   exact ⟨_, rfl, Kd.R_nil _ _ _ _ _, by repeat (first | exact Below.refl _ _ | apply zzN)⟩
 · rw [if_neg c] at h
   have cb : decide (a0 < 1) = false := decide_eq_false c
   clear c
   obtain ⟨⟨t, e⟩, ht⟩ : ∃ p, sumsV l1 = p := ⟨_, rfl⟩
   have hlen := sumsV_lle l1
   have hv64 := sumsV_v64 l1 HV.out.2.1
   rw [ht] at h hlen hv64
   simp only [] at h hlen hv64
   have HL := ZM hlen
   have HT := ZM hv64
   have A4 : Aside0 (vec_Sum.f l1 = some (t, e)) := ⟨(show vec_Sum.f l1 = some (sumsV l1) from if_pos HV.out.2).trans (congrArg some ht)⟩
   clear hlen hv64 ht
   by_cases he : e = 0
   · rw [if_pos he] at h
     subst he
     rw [← seqFrom_start] at h
     have HG := ZM h
     clear h
     go_enter Try.func25, Try.ntmps25
     go_wp2_with (go_at_call 44; (with_reducible refine (vec_Sum.calls A1 c1 l1 t 0 _ HR1.out HC1.out A4.out).mono ?_); rintro ed W1 ⟨v_, rfl, hR, hb⟩; have HO := ZM (Kd.R_lower hR (Nat.le_refl _)); have HB := ZM hb; clear hR hb; obtain ⟨Ao, co, eo⟩ := Kd.R_slice HO.out; subst eo)
     go_loopw [22] (fun i W => ∃ (k : Nat) (acc : List Int), i = .int .i64 k ∧ Aside0 (k ≤ t.length) ∧ Aside0 (acc.length = k) ∧ Aside0 (seqFrom (fun x => divF x a0 0) (t.drop k) acc = (r1, r2)) ∧ Aside0 (Kd.R (Kd.int .i64) 2 W w.heap.size (fun _ => True) (.slice Ao t.length co) (acc ++ t.drop k)) ∧ Aside0 (Below w.heap.size w W)) (fun i _ => t.length - (intOf i).toNat)
     case atStart => exact ⟨0, [], rfl, ⟨Nat.zero_le _⟩, ⟨rfl⟩, ⟨by rw [List.drop_zero]; exact HG.out⟩, ⟨by rw [List.drop_zero, List.nil_append]; exact HO.out⟩, HB⟩
     case round =>
      obtain ⟨k, acc, rfl, ⟨hk⟩, ⟨hacc⟩, ⟨hgo⟩, HO, HB⟩ := hrel
      clear HG
      by_cases hlt : k < t.length
      · obtain ⟨g, hg⟩ : ∃ g, Ao = some ⟨g, 0, none⟩ := by
         have hx := HO.out
         obtain ⟨g, cap, he, _⟩ := Kd.R_form hx (by rw [List.length_append, List.length_drop]; omega)
         injection he with h1 _ _
         exact ⟨g, h1⟩
        subst hg
        have hrd : rd (acc ++ t.drop k) (k : Int) = rd t k := by
         rw [rd_nat hlt, rd_nat (by rw [List.length_append, List.length_drop]; omega), List.getElem_append_right (by omega)]
         simp [hacc]
        have hcell := (Kd.R_celln 0 HO.out (k : Int) (by omega) (by omega)).1
        have hfr := (Kd.R_celln 0 HO.out (k : Int) (by omega) (by omega)).2
        rw [show rdOf 0 (acc ++ t.drop k) (k : Int) = rd t k from hrd] at hcell
        simp only [Int.toNat_natCast] at hcell hfr
        rw [List.drop_eq_getElem_cons hlt] at hgo
        obtain ⟨⟨q, f⟩, hq⟩ : ∃ p, divF (rd t k) a0 0 = p := ⟨_, rfl⟩
        have HA : Aside0 (fix_Quot.f (rd t k) a0 = some (q, f)) := ⟨(fix_Quot.of _ _ ⟨HT.out.rd _, HV.out.1⟩).trans (congrArg some hq)⟩
        have e1 : t[k] = rd t k := (rd_nat hlt).symm
        have hset : (acc ++ t.drop k).set k q = (acc ++ [q]) ++ t.drop (k + 1) := by
         rw [List.set_append_right _ _ (by omega), hacc, Nat.sub_self, List.drop_eq_getElem_cons hlt, List.set_cons_zero]
         simp
        have HS := ZM hset
        have HKL := ZM hacc
        have HLT := ZM hlt
        clear hset hrd hacc hk
        by_cases hf : f = 0
        · rw [seqFrom_ok (g := fun x => divF x a0 0) (by rw [e1, hq]; exact hf), e1, hq] at hgo
          subst hf
          have HG := ZM hgo
          clear hgo hq e1
          go_wp2_with (go_at_call 45; (with_reducible refine (fix_Quot.calls (rd t k) a0 q 0 _ HA.out).mono ?_); rintro ed W2 ⟨rfl, ⟨nd, rfl⟩⟩)
          have hp := (Kd.R_putg (rrN HO.out nd) (k : Int) q).1
          simp only [Int.toNat_natCast] at hp
          rw [HS.out] at hp
          have hL := HL.out
          exact ⟨⟨k + 1, acc ++ [q], by rw [wrap64_of (show I64 ((k : Int) + 1) by unfold I64; omega)]; rfl, ⟨HLT.out⟩, ⟨by have := HKL.out; simp; omega⟩, HG, ⟨hp⟩, ⟨(zzN HB.out _).setCell Z40 _⟩⟩, by rw [wrap64_of (show I64 ((k : Int) + 1) by unfold I64; omega)]; simp [intOf]; omega⟩
        · rw [seqFrom_bad (g := fun x => divF x a0 0) (by rw [e1, hq]; exact hf), e1, hq] at hgo
          obtain ⟨h1, h2⟩ : [] = r1 ∧ f = r2 := by cases hgo; exact ⟨rfl, rfl⟩
          clear hgo
          subst h1
          subst h2
          have he0 : (f == 0) = false := beq_eq_false_iff_ne.2 hf
          have he1 : (f != 0) = true := bne_iff_ne.2 hf
          clear hf hq e1
          go_wp2_with (go_at_call 45; (with_reducible refine (fix_Quot.calls (rd t k) a0 q f _ HA.out).mono ?_); rintro ed W2 ⟨rfl, ⟨nd, rfl⟩⟩)
          go_ret2
          exact ⟨_, rfl, Kd.R_nil _ _ _ _ _, (zzN HB.out _).setCell Z40 _⟩
      · have hkn : k = t.length := by omega
        rw [hkn, List.drop_length, seqFrom_nil] at hgo
        cases hgo
        have HO2 := HO.out
        rw [hkn, List.drop_length, List.append_nil] at HO2
        have HO3 := ZM HO2
        subst hkn
        clear HO2 HO hk
        go_wp2
        go_ret2
        exact ⟨_, rfl, HO3.out, HB.out⟩
   · rw [if_neg he] at h
     obtain ⟨h1, h2⟩ : r1 = [] ∧ r2 = e := by cases h; exact ⟨rfl, rfl⟩
     rw [h1, h2]
     clear h h1 h2
     have he0 : (e == 0) = false := beq_eq_false_iff_ne.2 he
     have he1 : (e != 0) = true := bne_iff_ne.2 he
     clear he
     go_enter Try.func25, Try.ntmps25
     go_wp2_with (go_at_call 44; (with_reducible refine (vec_Sum.calls A1 c1 l1 t e _ HR1.out HC1.out A4.out).mono ?_); rintro ed W1 ⟨v_, rfl, hR, hb⟩; have HO := ZM (Kd.R_lower hR (Nat.le_refl _)); have HB := ZM hb; clear hR hb; obtain ⟨Ao, co, eo⟩ := Kd.R_slice HO.out; subst eo)
     go_ret2
     exact ⟨_, rfl, Kd.R_nil _ _ _ _ _, HB.out⟩
/-! ### soft_GradP: function 9 -/
def soft_GradP.l0 : Nat → Int → List Int → Int → List (S26) → Int → List (List Int) → List (S26) → Int → Int → Option (List Int × Int)
 | 0, _, _, _, _, _, _, _, _, _ => none
 | k + 1, x0, x1, x2, x3, x10, x11, x20, x21, x22 => if x22 < x21 then (if 0 ≤ x22 then (if x22 < (x20.length : Int) then (if x10 = 0 then ((soft_Off.f x0 x1 ((rd_T26 x20 x22).f0) ((rd_T26 x20 x22).f1) x2).bind fun bt203 => (if bt203.2 = 0 then ((soft_bend.f ((rd_T26 x20 x22).f0) ((rd_T26 x20 x22).f1) bt203.1 x2).bind fun bt207 => (if x11.length < 5864062014805 then (soft_GradP.l0 k x0 x1 x2 x3 bt207.2 (x11 ++ [bt207.1]) x20 x21 (wrap64 (x22 + 1))) else (none))) else (if x11.length < 5864062014805 then (soft_GradP.l0 k x0 x1 x2 x3 bt203.2 (x11 ++ [([] : List Int)]) x20 x21 (wrap64 (x22 + 1))) else (none)))) else (if x11.length < 5864062014805 then (soft_GradP.l0 k x0 x1 x2 x3 x10 (x11 ++ [([] : List Int)]) x20 x21 (wrap64 (x22 + 1))) else (none))) else (none)) else (none)) else (if x10 = 0 then ((linear_Mean.f (x3.length : Int) x11).bind fun bt197 => (some (bt197.1, bt197.2))) else (some (([] : List Int), x10)))
def soft_GradP.f (k : Nat) (a0 : Int) (l1 : List Int) (a2 : Int) (l3 : List (S26)) : Option (List Int × Int) := (soft_fits.f a0 l1 l3).bind fun t196 => (soft_GradP.l0 k a0 l1 a2 l3 t196 ([] : List (List Int)) l3 (l3.length : Int) 0)
theorem soft_GradP.mono_l : ∀ k, (∀ y0 y1 y2 y3 y4 y5 y6 y7 y8, LeO (soft_GradP.l0 k y0 y1 y2 y3 y4 y5 y6 y7 y8) (soft_GradP.l0 (k + 1) y0 y1 y2 y3 y4 y5 y6 y7 y8))
 | 0 => fun _ _ _ _ _ _ _ _ _ r h => by simp [soft_GradP.l0] at h
 | k + 1 => by
  have ih0 := soft_GradP.mono_l k
  ·
   intro y0 y1 y2 y3 y4 y5 y6 y7 y8
   unfold soft_GradP.l0
   repeat' first
   | (with_reducible exact ih0 _ _ _ _ _ _ _ _ _)
   | (with_reducible exact LeO.refl _)
   | (with_reducible exact LeO.none _)
   | (with_reducible refine LeO.ite ?_ ?_)
   | (with_reducible refine LeO.bind ?_ (fun _ => ?_))
theorem soft_GradP.mono : ∀ a0 a1 a2 a3 k, LeO (soft_GradP.f k a0 a1 a2 a3) (soft_GradP.f (k + 1) a0 a1 a2 a3) := by
 intro a0 a1 a2 a3 k
 have ih0 := soft_GradP.mono_l k
 unfold soft_GradP.f
 repeat' first
   | (with_reducible exact ih0 _ _ _ _ _ _ _ _ _)
   | (with_reducible exact LeO.refl _)
   | (with_reducible exact LeO.none _)
   | (with_reducible refine LeO.ite ?_ ?_)
   | (with_reducible refine LeO.bind ?_ (fun _ => ?_))
set_option maxHeartbeats 8000000 in
set_option maxRecDepth 100000 in
theorem soft_GradP.calls (k : Nat) (a0 : Int) (A1 : Option Addr) (c1 : Nat) (l1 : List Int) (a2 : Int) (A3 : Option Addr) (c3 : Nat) (l3 : List (S26)) (r1 : List Int) (r2 : Int) (w : World) (hr1 : Kd.C (Kd.int .i64) w A1 l1.length l1) (hc1 : l1.length ≤ c1) (hr3 : Kd.C k26 w A3 l3.length l3) (hc3 : l3.length ≤ c3) (h : soft_GradP.f k a0 l1 a2 l3 = some (r1, r2)) :
  Calls Try.prog 9 #[.int .i64 a0, .slice A1 l1.length c1, .int .i64 a2, .slice A3 l3.length c3] w fun e w' => ∃ v0_ : Value, e = .returned (.tuple #[v0_, .int .i64 r2]) ∧ Kd.R (Kd.int .i64) 2 w' w.heap.size (fun _ => True) v0_ r1 ∧ Below w.heap.size w w' := by
 have hu26 := Try.underlying26
 have HR1 := ZM hr1
 have HC1 := ZM hc1
 clear hr1 hc1
 have HR3 := ZM hr3
 have HC3 := ZM hc3
 clear hr3 hc3
 have HB := ZM (Below.refl w.heap.size w)
 have H : ((soft_fits.f a0 l1 l3).bind fun t196 => (soft_GradP.l0 k a0 l1 a2 l3 t196 ([] : List (List Int)) l3 (l3.length : Int) 0)) = some (r1, r2) := h
 clear h
 replace H := Option.bind_eq_some_iff.mp H
 obtain ⟨t196, A50, H⟩ := H
 replace H : (soft_GradP.l0 k a0 l1 a2 l3 t196 ([] : List (List Int)) l3 (l3.length : Int) 0) = some (r1, r2) := H
 have A5 := ZM A50
 clear A50
 have H' := ZM H
 clear H
 go_enter Try.func9, Try.ntmps9
 go_wp2_with (first | ((with_reducible refine gate_callee (f := 22) rfl ?_); refine goesL_ (some 19) rfl rfl Try.func22 (by kernel_rfl) rfl #[.int .i64 a0, .slice A1 l1.length c1, .slice A3 l3.length c3] rfl Z2 ?_; (with_reducible refine (soft_fits.calls a0 _ _ l1 _ _ l3 t196 _ ?side1 ?side2 ?side3 ?side4 A5.out).mono ?_); (case side1 => exact Z5); (case side2 => exact HC1.out); (case side3 => exact Z25); (case side4 => exact HC3.out); rintro e w6 ⟨rfl, hb⟩; refine ⟨_, rfl, ?_⟩; replace HB := ZM (zzT Z1 hb); (try clear hb); (try clear hb2); (try clear hk); (try clear hi)))
 go_loopg [10, 11, 22] k (fun kq v10 v11 v22 w' => ∃ (x10_1 : Int) (x11_1 : List (List Int)) (x22_1 : Int), v10 = .int .i64 x10_1 ∧ v22 = .int .i64 x22_1 ∧ Aside0 (soft_GradP.l0 kq a0 l1 a2 l3 x10_1 x11_1 l3 (l3.length : Int) x22_1 = some (r1, r2)) ∧ Aside0 (kq ≤ k) ∧ Aside0 (Kd.S (Kd.slice 2 (Kd.int .i64)) 22 w' w.heap.size (fun _ => True) v11 x11_1) ∧ Aside0 (Below w.heap.size w w'))
 case atStart => exact ⟨(t196), (([] : List (List Int))), (0), Z4, Z4, H', ⟨Nat.le_refl _⟩, ⟨by first | exact Kd.S_nil _ _ _ _ _ | exact Kd.N_nil _ _ _ _ _ | exact Kd.V_nil _ _ _ _ _ | exact Kd.Q_nil _ _ _ _ _ | exact Kd.R_nil _ _ _ _ _⟩, ⟨by repeat (first | (with_reducible first | exact HB.out | apply zzA | apply zzN | apply zzD) | exact HB.out)⟩⟩
 case round =>
  clear H'
  try clear c1
  try clear c2
  try clear p2
  try clear c3
  obtain ⟨x10_1, x11_1, x22_1, rfl, rfl, HA, HK1, HO_11, HB⟩ := hrel
  cases gk with
  | zero => exact absurd HA.out (by simp [soft_GradP.l0])
  | succ k1 =>
   have H := HA.out
   clear HA
   simp only [soft_GradP.l0] at H
   by_cases c7 : x22_1 < (l3.length : Int)
   case neg =>
    rw [if_neg c7] at H
    have c7b0 : decide (x22_1 < (l3.length : Int)) = false := decide_eq_false c7
    clear c7
    by_cases c32 : x10_1 = 0
    case neg =>
     rw [if_neg c32] at H
     have c32b0 : (x10_1 == 0) = false := beq_eq_false_iff_ne.mpr c32
     have c32b1 : (x10_1 != 0) = true := bne_iff_ne.mpr c32
     simp only [Option.some.injEq, Prod.mk.injEq] at H
     obtain ⟨rfl, rfl⟩ := H
     go_wp2
     go_ret2
     exact ⟨_, by first | rfl | (simp [errW_none, errW_some] <;> rfl) | (simp [*, errW_none, errW_some] <;> rfl), by first | exact Kd.R_nil _ _ _ _ _ | exact Kd.N_nil _ _ _ _ _ | exact Kd.V_nil _ _ _ _ _ | exact Kd.Q_nil _ _ _ _ _ | exact Kd.S_nil _ _ _ _ _, by repeat (first | (with_reducible first | exact HB.out | apply zzA | apply zzN | apply zzD) | exact HB.out)⟩
    rw [if_pos c32] at H
    have c32b0 : (x10_1 == 0) = true := beq_iff_eq.mpr c32
    have c32b1 : (x10_1 != 0) = false := bne_eq_false_iff_eq.mpr c32
    clear c32
    replace H := Option.bind_eq_some_iff.mp H
    obtain ⟨⟨t197, t198⟩, A330, H⟩ := H
    replace H : (some (t197, t198)) = some (r1, r2) := H
    have A33 := ZM A330
    clear A330
    simp only [Option.some.injEq, Prod.mk.injEq] at H
    obtain ⟨rfl, rfl⟩ := H
    obtain ⟨Ao34, co34, eo34⟩ := Kd.S_slice HO_11.out
    subst eo34
    go_wp2_with (first | ((with_reducible refine gate_callee (f := 25) rfl ?_); refine goesL_ (some 56) rfl rfl Try.func25 (by kernel_rfl) rfl #[.int .i64 (l3.length : Int), .slice Ao34 x11_1.length co34] rfl Z2 ?_; (with_reducible refine (linear_Mean.calls (l3.length : Int) _ _ x11_1 t197 t198 _ ?side1 ?side2 A33.out).mono ?_); (case side1 => exact Z49); (case side2 => exact (Kd.S_reads' HO_11.out).2.1); rintro e w35 ⟨v199, rfl, ho0, hb⟩; refine ⟨_, rfl, ?_⟩; replace HO_11 := ZM (Kd.S_elder' Z11 (Kd.R_base ho0) hb); have HO200 := ZM (Kd.R_lower ho0 (zzS Z1)); replace HB := ZM (zzT Z1 hb); (try clear hb); (try clear hb2); (try clear hk); (try clear hi); (try clear ho0)))
    go_ret2
    exact ⟨_, by first | rfl | (simp [errW_none, errW_some] <;> rfl) | (simp [*, errW_none, errW_some] <;> rfl), by (with_reducible repeat (first | apply rrA | apply rrN | apply rrD)); exact HO200.out, by repeat (first | (with_reducible first | exact HB.out | apply zzA | apply zzN | apply zzD) | exact HB.out)⟩
   rw [if_pos c7] at H
   have c7b0 : decide (x22_1 < (l3.length : Int)) = true := decide_eq_true c7
   clear c7
   by_cases c8 : 0 ≤ x22_1
   case neg =>
    rw [if_neg c8] at H
    exact absurd H (by simp)
   rw [if_pos c8] at H
   have c8b0 : decide (0 ≤ x22_1) = true := decide_eq_true c8
   clear c8
   by_cases c9 : x22_1 < (l3.length : Int)
   case neg =>
    rw [if_neg c9] at H
    exact absurd H (by simp)
   rw [if_pos c9] at H
   have c9b0 : decide (x22_1 < (l3.length : Int)) = true := decide_eq_true c9
   clear c9
   by_cases c10 : x10_1 = 0
   case neg =>
    rw [if_neg c10] at H
    have c10b0 : (x10_1 == 0) = false := beq_eq_false_iff_ne.mpr c10
    have c10b1 : (x10_1 != 0) = true := bne_iff_ne.mpr c10
    by_cases c28 : x11_1.length < 5864062014805
    case neg =>
     rw [if_neg c28] at H
     exact absurd H (by simp)
    rw [if_pos c28] at H
    have LMc28 := ZM c28
    clear c28
    obtain ⟨y217, hy217⟩ : ∃ y_ : List (List Int), y_ = (x11_1 ++ [([] : List Int)]) := ⟨_, rfl⟩
    replace H : (soft_GradP.l0 k1 a0 l1 a2 l3 x10_1 y217 l3 (l3.length : Int) (wrap64 (x22_1 + 1))) = some (r1, r2) := by first | (rw [hy217]; with_reducible exact H) | (have H2_ := (Option.bind_some _ _).symm.trans H; rw [hy217]; with_reducible exact H2_) | (have H2_ := (Option.bind_some _ _).symm.trans H; with_reducible exact H2_) | with_reducible exact H | (rw [hy217]; exact H) | exact H
    have Ny217 := ZM hy217
    clear hy217
    have H' := ZM H
    clear H
    have p201 : 0 ≤ (x22_1 : Int) := of_decide_eq_true Z3
    have q201 : x22_1 < (l3.length : Int) := of_decide_eq_true Z3
    obtain ⟨ad201, A201_0, c201_0, e201, hx201_0, hx201_1, hl201_0, hi201_0⟩ := at_T26 HR3.out x22_1 p201 q201
    cases e201
    replace hx201_0 := (HB.out.cell (World.block_lt_of_cell? w _ hx201_0)).trans hx201_0
    replace hx201_1 := (HB.out.cell (World.block_lt_of_cell? w _ hx201_1)).trans hx201_1
    have HR201_0 := ZM hi201_0
    have HC201_0 := ZM hl201_0
    clear hi201_0 hl201_0
    replace p201 := eq_true p201
    replace q201 := eq_true q201
    go_wp2_with (first | ((with_reducible refine gate_dst (N := 13) rfl ?_); refine box_event ?hg (N := 13) ?hd (cs := #[.slice none 0 0, .int .i64 0]) (t := 26) ?hr ?_; (case hd => rfl); (case hg => rfl); (case hr => exact Z9); intro gb202 hg w29 hbox hb; replace HO_11 := ZM (Kd.S_below Z11 hb); have BK202 := ZM (hbox); have GW202 := ZM ((by rw [hg]; exact (zzS Z1) : w.heap.size ≤ gb202)); have GE202 := ZM ((by rw [hg]; exact (zzS Z1) : w.heap.size ≤ gb202)); replace HB := ZM (zzT Z1 hb); clear hb hbox hg; obtain ⟨hcz30_0, hcz30_1, hfz30_0, hfz30_1⟩ := Y2f BK202) | ((with_reducible refine gate_builtin (b := .append) (xs := #[.tmp 45, .tmp 47]) rfl ?_); at_builtin; refine Kd.S_append (Kd.slice 2 (Kd.int .i64)) (w0 := w) w.heap.size rfl (.tmp 45) (.tmp 47) 27 22 (.slice none 0 0) 24 rfl Try.underlying27 info22 rfl (by decide) (by omega) u11 x11_1 ([] : List Int) [.slice none 0 0] (fun _ => True) (fun _ => False) rfl (by first | (go_simp; done) | (go_simp; rfl)) ?aP (fun k_ hk_ => hk_.elim) ?aF ?aO ?aB ?aS ?aL ?_; (case aP => exact Kd.M_row (Kd.R_nil _ _ _ _ _)); (case aB => exact Z7); (case aF => exact (fun _ _ => trivial)); (case aO => exact (by (with_reducible repeat (first | apply Kd.S_alloc | apply Kd.S_drewN | apply Kd.S_drew)); exact Kd.S_mono (Kd.S_far (p := ⟨gb202, 1, none⟩) (Kd.S_far (p := ⟨gb202, 0, none⟩) (Kd.S_types HO_11.out BK202.out (by decide)) (fun _ hk => hk.2) (.slice A201_0 ((rd_T26 l3 x22_1).f0).length c201_0)) (fun _ hk => hk.2) (.int .i64 ((rd_T26 l3 x22_1).f1))) (fun k_ hk => ⟨trivial, fun e_ => e_⟩))); (case aS => exact (zzS Z7)); (case aL => have := LMc28.out; omega); intro v218 w31 ho hb hg hat; rw [← Ny217.out] at ho; replace BK202 := ZM (blk_grown (g := gb202) (o := .cells #[.slice A201_0 ((rd_T26 l3 x22_1).f0).length c201_0, .int .i64 ((rd_T26 l3 x22_1).f1)] 26 (0, 0)) Z24 hg (Kd.S_ne HO_11.out BK202.out (by decide))); have HO219 := ZM (ho); replace HB := ZM (hb); clear HO_11; clear ho hb hg hat))
    go_roundg k1
    case measure => have := HK1.out; omega
    case rel => exact ⟨(x10_1), (y217), (wrap64 (x22_1 + 1)), Z4, Z4, H', ⟨by have := HK1.out; omega⟩, ⟨by (with_reducible repeat (first | apply Kd.S_alloc | apply Kd.S_drewN | apply Kd.S_drew)); exact HO219.out⟩, ⟨by repeat (first | (with_reducible first | exact HB.out | apply zzA | apply zzN | apply zzD | refine below_set ?_ GE202.out) | exact HB.out)⟩⟩
   rw [if_pos c10] at H
   have c10b0 : (x10_1 == 0) = true := beq_iff_eq.mpr c10
   have c10b1 : (x10_1 != 0) = false := bne_eq_false_iff_eq.mpr c10
   clear c10
   replace H := Option.bind_eq_some_iff.mp H
   obtain ⟨⟨t203, t206⟩, A110, H⟩ := H
   replace H : (if t206 = 0 then ((soft_bend.f ((rd_T26 l3 x22_1).f0) ((rd_T26 l3 x22_1).f1) t203 a2).bind fun bt207 => (if x11_1.length < 5864062014805 then (soft_GradP.l0 k1 a0 l1 a2 l3 bt207.2 (x11_1 ++ [bt207.1]) l3 (l3.length : Int) (wrap64 (x22_1 + 1))) else (none))) else (if x11_1.length < 5864062014805 then (soft_GradP.l0 k1 a0 l1 a2 l3 t206 (x11_1 ++ [([] : List Int)]) l3 (l3.length : Int) (wrap64 (x22_1 + 1))) else (none))) = some (r1, r2) := H
   have A11 := ZM A110
   clear A110
   by_cases c12 : t206 = 0
   case neg =>
    rw [if_neg c12] at H
    have c12b0 : (t206 == 0) = false := beq_eq_false_iff_ne.mpr c12
    have c12b1 : (t206 != 0) = true := bne_iff_ne.mpr c12
    by_cases c23 : x11_1.length < 5864062014805
    case neg =>
     rw [if_neg c23] at H
     exact absurd H (by simp)
    rw [if_pos c23] at H
    have LMc23 := ZM c23
    clear c23
    obtain ⟨y214, hy214⟩ : ∃ y_ : List (List Int), y_ = (x11_1 ++ [([] : List Int)]) := ⟨_, rfl⟩
    replace H : (soft_GradP.l0 k1 a0 l1 a2 l3 t206 y214 l3 (l3.length : Int) (wrap64 (x22_1 + 1))) = some (r1, r2) := by first | (rw [hy214]; with_reducible exact H) | (have H2_ := (Option.bind_some _ _).symm.trans H; rw [hy214]; with_reducible exact H2_) | (have H2_ := (Option.bind_some _ _).symm.trans H; with_reducible exact H2_) | with_reducible exact H | (rw [hy214]; exact H) | exact H
    have Ny214 := ZM hy214
    clear hy214
    have H' := ZM H
    clear H
    have p201 : 0 ≤ (x22_1 : Int) := of_decide_eq_true Z3
    have q201 : x22_1 < (l3.length : Int) := of_decide_eq_true Z3
    obtain ⟨ad201, A201_0, c201_0, e201, hx201_0, hx201_1, hl201_0, hi201_0⟩ := at_T26 HR3.out x22_1 p201 q201
    cases e201
    replace hx201_0 := (HB.out.cell (World.block_lt_of_cell? w _ hx201_0)).trans hx201_0
    replace hx201_1 := (HB.out.cell (World.block_lt_of_cell? w _ hx201_1)).trans hx201_1
    have HR201_0 := ZM hi201_0
    have HC201_0 := ZM hl201_0
    clear hi201_0 hl201_0
    replace p201 := eq_true p201
    replace q201 := eq_true q201
    go_wp2_with (first | ((with_reducible refine gate_dst (N := 13) rfl ?_); refine box_event ?hg (N := 13) ?hd (cs := #[.slice none 0 0, .int .i64 0]) (t := 26) ?hr ?_; (case hd => rfl); (case hg => rfl); (case hr => exact Z9); intro gb202 hg w24 hbox hb; replace HO_11 := ZM (Kd.S_below Z11 hb); have BK202 := ZM (hbox); have GW202 := ZM ((by rw [hg]; exact (zzS Z1) : w.heap.size ≤ gb202)); have GE202 := ZM ((by rw [hg]; exact (zzS Z1) : w.heap.size ≤ gb202)); replace HB := ZM (zzT Z1 hb); clear hb hbox hg; obtain ⟨hcz25_0, hcz25_1, hfz25_0, hfz25_1⟩ := Y2f BK202) | ((with_reducible refine gate_callee (f := 23) rfl ?_); refine goesL_ (some 33) rfl rfl Try.func23 (by kernel_rfl) rfl #[.int .i64 a0, .slice A1 l1.length c1, .agg #[.slice A201_0 ((rd_T26 l3 x22_1).f0).length c201_0, .int .i64 ((rd_T26 l3 x22_1).f1)], .int .i64 a2] rfl Z2 ?_; (with_reducible refine (soft_Off.calls a0 _ _ l1 _ _ ((rd_T26 l3 x22_1).f0) ((rd_T26 l3 x22_1).f1) a2 t203 t206 _ ?side1 ?side2 ?side3 ?side4 A11.out).mono ?_); (case side1 => exact Kd.C_below HR1.out Z7); (case side2 => exact HC1.out); (case side3 => exact Kd.C_below HR201_0.out Z7); (case side4 => exact HC201_0.out); rintro e w26 ⟨v204, rfl, ho0, hb⟩; refine ⟨_, rfl, ?_⟩; replace HO_11 := ZM (Kd.S_elder' Z35 (Kd.R_base ho0) hb); have HO205 := ZM (Kd.R_lower ho0 (zzS Z7)); replace BK202 := ZM (blk_below (g := gb202) (o := .cells #[.slice A201_0 ((rd_T26 l3 x22_1).f0).length c201_0, .int .i64 ((rd_T26 l3 x22_1).f1)] 26 (0, 0)) Z24 hb); replace HB := ZM (zzT Z7 hb); (try clear hb); (try clear hb2); (try clear hk); (try clear hi); (try clear ho0)) | ((with_reducible refine gate_builtin (b := .append) (xs := #[.tmp 45, .tmp 47]) rfl ?_); at_builtin; refine Kd.S_append (Kd.slice 2 (Kd.int .i64)) (w0 := w) w.heap.size rfl (.tmp 45) (.tmp 47) 27 22 (.slice none 0 0) 24 rfl Try.underlying27 info22 rfl (by decide) (by omega) u11 x11_1 ([] : List Int) [.slice none 0 0] (fun k_ => some k_ ≠ (v204 : Value).ownBlock) (fun _ => False) rfl rfl ?aP (fun k_ hk_ => hk_.elim) ?aF ?aO ?aB ?aS ?aL ?_; (case aP => exact Kd.M_row (Kd.R_nil _ _ _ _ _)); (case aB => exact Z7); (case aF => exact (fun k_ hk => Kd.fresh' (Kd.R_lt (Zr HO205)) k_ hk)); (case aO => exact (by (with_reducible repeat (first | apply Kd.S_alloc | apply Kd.S_drewN | apply Kd.S_drew)); exact Kd.S_mono HO_11.out (fun k_ hk => ⟨hk.2, fun e_ => e_⟩))); (case aS => exact (zzS Z7)); (case aL => have := LMc23.out; omega); intro v215 w27 ho hb hg hat; rw [← Ny214.out] at ho; replace BK202 := ZM (blk_grown (g := gb202) (o := .cells #[.slice A201_0 ((rd_T26 l3 x22_1).f0).length c201_0, .int .i64 ((rd_T26 l3 x22_1).f1)] 26 (0, 0)) (Zk BK202) hg (Kd.S_ne HO_11.out BK202.out (by decide))); replace HO205 := ZM (Kd.R_over' (Zr HO205) (Kd.S_typed Z11) (by decide) hg); have HO216 := ZM (ho); replace HB := ZM (hb); clear HO_11; clear ho hb hg hat))
    go_roundg k1
    case measure => have := HK1.out; omega
    case rel => exact ⟨(t206), (y214), (wrap64 (x22_1 + 1)), Z4, Z4, H', ⟨by have := HK1.out; omega⟩, ⟨by (with_reducible repeat (first | apply Kd.S_alloc | apply Kd.S_drewN | apply Kd.S_drew)); exact Kd.S_mono HO216.out (fun _ hk => trivial)⟩, ⟨by repeat (first | (with_reducible first | exact HB.out | apply zzA | apply zzN | apply zzD | refine below_set ?_ GE202.out) | exact HB.out)⟩⟩
   rw [if_pos c12] at H
   have c12b0 : (t206 == 0) = true := beq_iff_eq.mpr c12
   have c12b1 : (t206 != 0) = false := bne_eq_false_iff_eq.mpr c12
   clear c12
   replace H := Option.bind_eq_some_iff.mp H
   obtain ⟨⟨t207, t210⟩, A130, H⟩ := H
   replace H : (if x11_1.length < 5864062014805 then (soft_GradP.l0 k1 a0 l1 a2 l3 t210 (x11_1 ++ [t207]) l3 (l3.length : Int) (wrap64 (x22_1 + 1))) else (none)) = some (r1, r2) := H
   have A13 := ZM A130
   clear A130
   by_cases c14 : x11_1.length < 5864062014805
   case neg =>
    rw [if_neg c14] at H
    exact absurd H (by simp)
   rw [if_pos c14] at H
   have LMc14 := ZM c14
   clear c14
   obtain ⟨y211, hy211⟩ : ∃ y_ : List (List Int), y_ = (x11_1 ++ [t207]) := ⟨_, rfl⟩
   replace H : (soft_GradP.l0 k1 a0 l1 a2 l3 t210 y211 l3 (l3.length : Int) (wrap64 (x22_1 + 1))) = some (r1, r2) := by first | (rw [hy211]; with_reducible exact H) | (have H2_ := (Option.bind_some _ _).symm.trans H; rw [hy211]; with_reducible exact H2_) | (have H2_ := (Option.bind_some _ _).symm.trans H; with_reducible exact H2_) | with_reducible exact H | (rw [hy211]; exact H) | exact H
   have Ny211 := ZM hy211
   clear hy211
   have H' := ZM H
   clear H
   have p201 : 0 ≤ (x22_1 : Int) := of_decide_eq_true Z3
   have q201 : x22_1 < (l3.length : Int) := of_decide_eq_true Z3
   obtain ⟨ad201, A201_0, c201_0, e201, hx201_0, hx201_1, hl201_0, hi201_0⟩ := at_T26 HR3.out x22_1 p201 q201
   cases e201
   replace hx201_0 := (HB.out.cell (World.block_lt_of_cell? w _ hx201_0)).trans hx201_0
   replace hx201_1 := (HB.out.cell (World.block_lt_of_cell? w _ hx201_1)).trans hx201_1
   have HR201_0 := ZM hi201_0
   have HC201_0 := ZM hl201_0
   clear hi201_0 hl201_0
   replace p201 := eq_true p201
   replace q201 := eq_true q201
   go_wp2_with (first | ((with_reducible refine gate_dst (N := 13) rfl ?_); refine box_event ?hg (N := 13) ?hd (cs := #[.slice none 0 0, .int .i64 0]) (t := 26) ?hr ?_; (case hd => rfl); (case hg => rfl); (case hr => exact Z9); intro gb202 hg w15 hbox hb; replace HO_11 := ZM (Kd.S_below Z11 hb); have BK202 := ZM (hbox); have GW202 := ZM ((by rw [hg]; exact (zzS Z1) : w.heap.size ≤ gb202)); have GE202 := ZM ((by rw [hg]; exact (zzS Z1) : w.heap.size ≤ gb202)); replace HB := ZM (zzT Z1 hb); clear hb hbox hg; obtain ⟨hcz16_0, hcz16_1, hfz16_0, hfz16_1⟩ := Y2f BK202) | ((with_reducible refine gate_callee (f := 23) rfl ?_); refine goesL_ (some 33) rfl rfl Try.func23 (by kernel_rfl) rfl #[.int .i64 a0, .slice A1 l1.length c1, .agg #[.slice A201_0 ((rd_T26 l3 x22_1).f0).length c201_0, .int .i64 ((rd_T26 l3 x22_1).f1)], .int .i64 a2] rfl Z2 ?_; (with_reducible refine (soft_Off.calls a0 _ _ l1 _ _ ((rd_T26 l3 x22_1).f0) ((rd_T26 l3 x22_1).f1) a2 t203 t206 _ ?side1 ?side2 ?side3 ?side4 A11.out).mono ?_); (case side1 => exact Kd.C_below HR1.out Z7); (case side2 => exact HC1.out); (case side3 => exact Kd.C_below HR201_0.out Z7); (case side4 => exact HC201_0.out); rintro e w17 ⟨v204, rfl, ho0, hb⟩; refine ⟨_, rfl, ?_⟩; replace HO_11 := ZM (Kd.S_elder' Z35 (Kd.R_base ho0) hb); have HO205 := ZM (Kd.R_lower ho0 (zzS Z7)); replace BK202 := ZM (blk_below (g := gb202) (o := .cells #[.slice A201_0 ((rd_T26 l3 x22_1).f0).length c201_0, .int .i64 ((rd_T26 l3 x22_1).f1)] 26 (0, 0)) Z24 hb); replace HB := ZM (zzT Z7 hb); (try clear hb); (try clear hb2); (try clear hk); (try clear hi); (try clear ho0); obtain ⟨hcz18_0, hcz18_1, hfz18_0, hfz18_1⟩ := Y2f BK202; obtain ⟨Ao19, co19, eo19⟩ := Kd.R_slice HO205.out; subst eo19) | ((with_reducible refine gate_callee (f := 24) rfl ?_); refine goesL_ (some 42) rfl rfl Try.func24 (by kernel_rfl) rfl #[.agg #[.slice A201_0 ((rd_T26 l3 x22_1).f0).length c201_0, .int .i64 ((rd_T26 l3 x22_1).f1)], .slice Ao19 t203.length co19, .int .i64 a2] rfl Z2 ?_; (with_reducible refine (soft_bend.calls _ _ ((rd_T26 l3 x22_1).f0) ((rd_T26 l3 x22_1).f1) _ _ t203 a2 t207 t210 _ ?side1 ?side2 ?side3 ?side4 A13.out).mono ?_); (case side1 => repeat (first | exact (Kd.C_below HR201_0.out HB.out) | (with_reducible refine ccA ?_ _) | (with_reducible refine ccN ?_ _) | (with_reducible refine ccD ?_))); (case side2 => exact HC201_0.out); (case side3 => repeat (first | exact (Kd.R_reads' HO205.out).2.2 | (with_reducible refine ccA ?_ _) | (with_reducible refine ccN ?_ _) | (with_reducible refine ccD ?_))); (case side4 => exact (Kd.R_reads' HO205.out).2.1); rintro e w20 ⟨v208, rfl, ho0, hb⟩; refine ⟨_, rfl, ?_⟩; have n0_ := ZM (Kd.S_elder' Z11 (Kd.R_base ho0) hb); have n1_ := ZM (Kd.R_elder' (Zr HO205) (Kd.R_base ho0) hb); have n2_ := ZM (Kd.R_lower (Kd.R_new' ho0 (Kd.R_lt (Zr HO205))) (zzS Z7)); have n3_ := ZM (blk_below (g := gb202) (o := .cells #[.slice A201_0 ((rd_T26 l3 x22_1).f0).length c201_0, .int .i64 ((rd_T26 l3 x22_1).f1)] 26 (0, 0)) (Zk BK202) hb); have n4_ := ZM (zzT Z7 hb); clear HO_11; clear HO205; clear BK202; clear HB; have HO_11 := n0_; have HO205 := n1_; have HO209 := n2_; have BK202 := n3_; have HB := n4_; clear n0_ n1_ n2_ n3_ n4_; (try clear hb); (try clear hb2); (try clear hk); (try clear hi); (try clear ho0); obtain ⟨Ao22, co22, eo22⟩ := Kd.R_slice HO209.out; subst eo22) | ((with_reducible refine gate_builtin (b := .append) (xs := #[.tmp 45, .tmp 47]) rfl ?_); at_builtin; refine Kd.S_append (Kd.slice 2 (Kd.int .i64)) (w0 := w) w.heap.size rfl (.tmp 45) (.tmp 47) 27 22 (.slice none 0 0) 24 rfl Try.underlying27 info22 rfl (by decide) (by omega) u11 x11_1 t207 [.slice Ao22 t207.length co22] (fun k_ => some k_ ≠ (.slice Ao19 t203.length co19 : Value).ownBlock) (fun k_ => some k_ = (.slice Ao22 t207.length co22 : Value).ownBlock) rfl rfl ?aP (fun k_ hk_ => ((Kd.R_mono (ok' := fun k_ => ((fun k_ => some k_ ≠ (.slice Ao19 t203.length co19 : Value).ownBlock)) k_ ∧ some k_ ≠ (u11 : Value).ownBlock) (Kd.R_apart' (HO209.out) (Kd.S_typed HO_11.out) (by decide)) (fun k_ hk => ⟨hk.1.2, hk.2⟩))).1 k_ hk_.symm) ?aF ?aO ?aB ?aS ?aL ?_; (case aP => exact Kd.M_row (Kd.R_mono (Kd.R_tight rfl (Kd.R_mono (ok' := fun k_ => ((fun k_ => some k_ ≠ (.slice Ao19 t203.length co19 : Value).ownBlock)) k_ ∧ some k_ ≠ (u11 : Value).ownBlock) (Kd.R_apart' (HO209.out) (Kd.S_typed HO_11.out) (by decide)) (fun k_ hk => ⟨hk.1.2, hk.2⟩))) (fun _ h_ => h_))); (case aB => exact Z7); (case aF => exact (fun k_ hk => Kd.fresh' (Kd.R_lt (Zr HO205)) k_ hk)); (case aO => exact (by (with_reducible repeat (first | apply Kd.S_alloc | apply Kd.S_drewN | apply Kd.S_drew)); exact Kd.S_mono HO_11.out (fun k_ hk => ⟨hk.1.2, fun e_ => hk.2 e_⟩))); (case aS => exact (zzS Z7)); (case aL => have := LMc14.out; omega); intro v212 w21 ho hb hg hat; rw [← Ny211.out] at ho; replace BK202 := ZM (blk_grown (g := gb202) (o := .cells #[.slice A201_0 ((rd_T26 l3 x22_1).f0).length c201_0, .int .i64 ((rd_T26 l3 x22_1).f1)] 26 (0, 0)) (Zk BK202) hg (Kd.S_ne HO_11.out BK202.out (by decide))); replace HO205 := ZM (Kd.R_over' (Zr HO205) (Kd.S_typed Z11) (by decide) hg); have HO213 := ZM (ho); replace HB := ZM (hb); clear HO_11 HO209; clear ho hb hg hat))
   go_roundg k1
   case measure => have := HK1.out; omega
   case rel => exact ⟨(t210), (y211), (wrap64 (x22_1 + 1)), Z4, Z4, H', ⟨by have := HK1.out; omega⟩, ⟨by (with_reducible repeat (first | apply Kd.S_alloc | apply Kd.S_drewN | apply Kd.S_drew)); exact Kd.S_mono HO213.out (fun _ hk => trivial)⟩, ⟨by repeat (first | (with_reducible first | exact HB.out | apply zzA | apply zzN | apply zzD | refine below_set ?_ GE202.out) | exact HB.out)⟩⟩
def soft_Grad.f (a0 : Int) (l1 : List Int) (a2 : Int) (l3 : List S26) : Option (List Int × Int) := if V64 l1 ∧ (∀ s ∈ l3, Sm64 s) ∧ l3.length ≤ 1000000 then some (gradS a0 l1 a2 (l3.map sm)) else none
theorem soft_Grad.of (a0 : Int) (l1 : List Int) (a2 : Int) (l3 : List S26)  (h_ : V64 l1 ∧ (∀ s ∈ l3, Sm64 s) ∧ l3.length ≤ 1000000) : soft_Grad.f a0 l1 a2 l3 = some (gradS a0 l1 a2 (l3.map sm)) := if_pos h_
theorem soft_GradP.bad (o : Int) (w : List Int) (f : Int) (l : List S26) (e : Int) (he : e ≠ 0) (hb : l.length ≤ 1000000) : ∀ (d i : Nat) (acc : List (List Int)), d + i = l.length → acc.length ≤ i →
    soft_GradP.l0 (d + 1) o w f l e acc l (l.length : Int) (i : Int) = some ([], e) := by
  intro d
  induction d with
  | zero => intro i acc hd ha; rw [soft_GradP.l0, if_neg (by omega), if_neg he]
  | succ d ih =>
    intro i acc hd ha
    rw [soft_GradP.l0, if_pos (by omega), if_pos (by omega), if_pos (by omega), if_neg he, if_pos (by omega), wrap64_of (by unfold I64; omega), show (i : Int) + 1 = ((i + 1 : Nat) : Int) by omega, ih (i + 1) _ (by omega) Z39]
theorem soft_GradP.good (o : Int) (w : List Int) (f : Int) (l : List S26) (hw : V64 w) (hs : ∀ s ∈ l, Sm64 s) (hx : ∀ s ∈ l, s.f0.length ≤ 16) (hb : l.length ≤ 64) : ∀ (d i : Nat) (acc : List (List Int)), d + i = l.length → acc.length ≤ i → (∀ v ∈ acc, V64 v ∧ v.length ≤ 136) →
    soft_GradP.l0 (d + 1) o w f l 0 acc l (l.length : Int) (i : Int) = some (if (rowsFrom (fun s : S26 => bendS o w f (sm s)) (l.drop i) acc).2 = 0 then meanL l.length (rowsFrom (fun s : S26 => bendS o w f (sm s)) (l.drop i) acc).1 else ([], (rowsFrom (fun s : S26 => bendS o w f (sm s)) (l.drop i) acc).2)) := by
  intro d
  induction d with
  | zero =>
    intro i acc hd ha hv
    rw [soft_GradP.l0, if_neg (by omega), if_pos rfl, List.drop_eq_nil_of_le (by omega), rowsFrom_nil, linear_Mean.of _ _ ⟨by unfold I64; omega, fun v h => (hv v h).1, List.all_eq_true.2 fun v h => decide_eq_true (by have := (hv v h).2; omega)⟩]
    rfl
  | succ d ih =>
    intro i acc hd ha hv
    have hi : i < l.length := by omega
    have hm := List.getElem_mem hi
    have h1 := hs _ hm
    have hbd : bendS o w f (sm l[i]) = if (offS o w l[i].f0 l[i].f1 f).2 = 0 then bendRows l[i].f0 f (offS o w l[i].f0 l[i].f1 f).1 else ([], (offS o w l[i].f0 l[i].f1 f).2) := rfl
    have hbg := bendS_good o w f (sm l[i])
    have hxl : (sm l[i]).1.length ≤ 16 := hx _ hm
    rw [soft_GradP.l0, if_pos (by omega), if_pos (by omega), if_pos (by omega), if_pos rfl, rd_sm hi, soft_Off.of _ _ _ _ _ ⟨hw, h1.1⟩, Option.bind_some, List.drop_eq_getElem_cons hi]
    by_cases c : (offS o w l[i].f0 l[i].f1 f).2 = 0
    · rw [if_pos c] at hbd
      obtain ⟨hl, h2, h8, hov⟩ := offS_good c
      rw [if_pos c, soft_bend.of _ _ _ _ ⟨h1.1, hov, by omega⟩, Option.bind_some, if_pos (by omega), wrap64_of (by unfold I64; omega), show (i : Int) + 1 = ((i + 1 : Nat) : Int) by omega]
      by_cases c2 : (bendRows l[i].f0 f (offS o w l[i].f0 l[i].f1 f).1).2 = 0
      · rw [c2, rowsFrom_ok (g := fun s : S26 => bendS o w f (sm s)) (by simp only [hbd]; exact c2)]
        simp only [hbd]
        rw [hbd] at hbg
        refine ih (i + 1) _ (by omega) Z39 ?_
        intro v hv'
        rcases List.mem_append.1 hv' with e | e
        · exact hv v e
        · rw [List.mem_singleton.1 e]; exact ⟨hbg.1, by have := hbg.2; omega⟩
      · rw [soft_GradP.bad o w f l _ c2 (by omega) d (i + 1) _ (by omega) Z39, rowsFrom_bad (g := fun s : S26 => bendS o w f (sm s)) (by simp only [hbd]; exact c2)]
        simp only [hbd, if_neg c2]
    · rw [if_neg c] at hbd
      rw [if_neg c, if_pos (by omega), wrap64_of (by unfold I64; omega), show (i : Int) + 1 = ((i + 1 : Nat) : Int) by omega, soft_GradP.bad o w f l _ c (by omega) d (i + 1) _ (by omega) Z39, rowsFrom_bad (g := fun s : S26 => bendS o w f (sm s)) (by simp only [hbd]; exact c)]
      simp only [hbd, if_neg c]
theorem rowsL_smS (o : Int) (w : List Int) (f : Int) : ∀ l : List S26, rowsL (bendS o w f) (l.map sm) = rowsL (fun s => bendS o w f (sm s)) l
  | [] => rfl
  | x :: l => by simp only [List.map_cons, rowsL, rowsL_smS o w f l]
theorem soft_GradP.is (o : Int) (w : List Int) (f : Int) (l : List S26) (hw : V64 w) (hs : ∀ s ∈ l, Sm64 s) (hb : l.length ≤ 1000000) : soft_GradP.f (l.length + 1) o w f l = some (gradS o w f (l.map sm)) := by
  unfold soft_GradP.f gradS soft_fits.f
  rw [Option.bind_some]
  by_cases c : fitS o w (l.map sm) = 0
  · obtain ⟨h1, h2⟩ := fitS_ok c
    rw [List.length_map] at h1
    have hk := soft_GradP.good o w f l hw hs (fun s h => h2 (sm s) (List.mem_map_of_mem h)) h1 l.length 0 [] (by omega) (by simp) (fun v hv => by cases hv)
    rw [List.drop_zero, rowsFrom_start, show ((0 : Nat) : Int) = 0 from rfl] at hk
    rw [c, if_pos rfl, List.length_map, rowsL_smS]
    exact hk
  · have hk := soft_GradP.bad o w f l _ c hb l.length 0 [] (by omega) (by simp)
    rw [show ((0 : Nat) : Int) = 0 from rfl] at hk
    rw [if_neg c, hk]
theorem soft_Grad.calls (a0 : Int) (A1 : Option Addr) (c1 : Nat) (l1 : List Int) (a2 : Int) (A3 : Option Addr) (c3 : Nat) (l3 : List (S26)) (r1 : List Int) (r2 : Int) (w : World) (hr1 : Kd.C (Kd.int .i64) w A1 l1.length l1) (hc1 : l1.length ≤ c1) (hr3 : Kd.C k26 w A3 l3.length l3) (hc3 : l3.length ≤ c3) (h : soft_Grad.f a0 l1 a2 l3 = some (r1, r2)) :
    Calls Try.prog 9 #[.int .i64 a0, .slice A1 l1.length c1, .int .i64 a2, .slice A3 l3.length c3] w fun e w' => ∃ v0_ : Value, e = .returned (.tuple #[v0_, .int .i64 r2]) ∧ Kd.R (Kd.int .i64) 2 w' w.heap.size (fun _ => True) v0_ r1 ∧ Below w.heap.size w w' := by
  unfold soft_Grad.f at h
  split at h
  case isFalse => cases h
  rename_i hv
  exact soft_GradP.calls (l3.length + 1) a0 A1 c1 l1 a2 A3 c3 l3 r1 r2 w hr1 hc1 hr3 hc3 ((soft_GradP.is a0 l1 a2 l3 hv.1 hv.2.1 hv.2.2).trans h)


/-! ### thrumref02_SameP: function 13 -/
def thrumref02_SameP.l0 : Nat → List Int → List Int → Int → Int → Option (Bool)
 | 0, _, _, _, _ => none
 | k + 1, x0, x1, x12, x13 => if x13 < x12 then (if 0 ≤ x13 then (if x13 < (x0.length : Int) then (if x13 < (x1.length : Int) then (if (rd x0 x13) = (rd x1 x13) then (thrumref02_SameP.l0 k x0 x1 x12 (wrap64 (x13 + 1))) else (some false)) else (none)) else (none)) else (none)) else (some true)
def thrumref02_SameP.f (k : Nat) (l0 : List Int) (l1 : List Int) : Option (Bool) := if (l0.length : Int) = (l1.length : Int) then (thrumref02_SameP.l0 k l0 l1 (l0.length : Int) 0) else (some false)
theorem thrumref02_SameP.mono_l : ∀ k, (∀ y0 y1 y2 y3, LeO (thrumref02_SameP.l0 k y0 y1 y2 y3) (thrumref02_SameP.l0 (k + 1) y0 y1 y2 y3))
 | 0 => fun _ _ _ _ r h => by simp [thrumref02_SameP.l0] at h
 | k + 1 => by
  have ih0 := thrumref02_SameP.mono_l k
  ·
   intro y0 y1 y2 y3
   unfold thrumref02_SameP.l0
   repeat' first
   | (with_reducible exact ih0 _ _ _ _)
   | (with_reducible exact LeO.refl _)
   | (with_reducible exact LeO.none _)
   | (with_reducible refine LeO.ite ?_ ?_)
   | (with_reducible refine LeO.bind ?_ (fun _ => ?_))
theorem thrumref02_SameP.mono : ∀ a0 a1 k, LeO (thrumref02_SameP.f k a0 a1) (thrumref02_SameP.f (k + 1) a0 a1) := by
 intro a0 a1 k
 have ih0 := thrumref02_SameP.mono_l k
 unfold thrumref02_SameP.f
 repeat' first
   | (with_reducible exact ih0 _ _ _ _)
   | (with_reducible exact LeO.refl _)
   | (with_reducible exact LeO.none _)
   | (with_reducible refine LeO.ite ?_ ?_)
   | (with_reducible refine LeO.bind ?_ (fun _ => ?_))
set_option maxHeartbeats 8000000 in
set_option maxRecDepth 100000 in
theorem thrumref02_SameP.calls (k : Nat) (A0 : Option Addr) (c0 : Nat) (l0 : List Int) (A1 : Option Addr) (c1 : Nat) (l1 : List Int) (r : Bool) (w : World) (hr0 : Kd.C (Kd.int .i64) w A0 l0.length l0) (hc0 : l0.length ≤ c0) (hr1 : Kd.C (Kd.int .i64) w A1 l1.length l1) (hc1 : l1.length ≤ c1) (h : thrumref02_SameP.f k l0 l1 = some r) :
  Calls Try.prog 13 #[.slice A0 l0.length c0, .slice A1 l1.length c1] w fun e w' => e = .returned (.bool r) ∧ Drawn0 w w' := by
 have HR0 := ZM hr0
 have HC0 := ZM hc0
 clear hr0 hc0
 have HR1 := ZM hr1
 have HC1 := ZM hc1
 clear hr1 hc1
 have H : (if (l0.length : Int) = (l1.length : Int) then (thrumref02_SameP.l0 k l0 l1 (l0.length : Int) 0) else (some false)) = some r := h
 clear h
 by_cases c3 : (l0.length : Int) = (l1.length : Int)
 case neg =>
  rw [if_neg c3] at H
  have c3b0 : ((l0.length : Int) == (l1.length : Int)) = false := beq_eq_false_iff_ne.mpr c3
  have c3b1 : ((l0.length : Int) != (l1.length : Int)) = true := bne_iff_ne.mpr c3
  have c3b2 : (l0.length == l1.length) = false := by first | simpa using c3 | (simp at c3 ⊢; omega)
  obtain rfl := Option.some.inj H
  go_enter Try.func13, Try.ntmps13
  go_wp2
  repeat (go_quiet (fail); try go_wp2)
  go_ret
  exact ⟨by first | rfl | (simp; done) | (simp [*]; done), by repeat (first | exact ddR _ | apply ddS)⟩
 rw [if_pos c3] at H
 have c3b0 : ((l0.length : Int) == (l1.length : Int)) = true := beq_iff_eq.mpr c3
 have c3b1 : ((l0.length : Int) != (l1.length : Int)) = false := bne_eq_false_iff_eq.mpr c3
 have c3b2 : (l0.length == l1.length) = true := by first | simpa using c3 | (simp at c3 ⊢; omega)
 clear c3
 have H' := ZM H
 clear H
 go_enter Try.func13, Try.ntmps13
 go_wp2
 repeat (go_quiet (fail); try go_wp2)
 go_loopg [13] k (fun kq v13 w' => ∃ (x13_1 : Int), v13 = .int .i64 x13_1 ∧ Aside0 (thrumref02_SameP.l0 kq l0 l1 (l0.length : Int) x13_1 = some r) ∧ Aside0 (kq ≤ k) ∧ Drawn0 w w')
 case atStart => exact ⟨(0), Z4, H', ⟨Nat.le_refl _⟩, by repeat (first | exact ddR _ | apply ddS)⟩
 case round =>
  clear H'
  try clear c1
  try clear p2
  try clear c3
  try clear c3b0
  try clear c3b1
  try clear c3b2
  obtain ⟨x13_1, rfl, HA, HK1, ⟨m1, rfl⟩⟩ := hrel
  cases gk with
  | zero => exact absurd HA.out (by simp [thrumref02_SameP.l0])
  | succ k1 =>
   have H := HA.out
   clear HA
   simp only [thrumref02_SameP.l0] at H
   by_cases c4 : x13_1 < (l0.length : Int)
   case neg =>
    rw [if_neg c4] at H
    have c4b0 : decide (x13_1 < (l0.length : Int)) = false := decide_eq_false c4
    clear c4
    obtain rfl := Option.some.inj H
    go_wp2
    repeat (go_quiet (fail); try go_wp2)
    go_ret
    exact ⟨by first | rfl | (simp; done) | (simp [*]; done), by repeat (first | exact ddR _ | apply ddS)⟩
   rw [if_pos c4] at H
   have c4b0 : decide (x13_1 < (l0.length : Int)) = true := decide_eq_true c4
   clear c4
   by_cases c5 : 0 ≤ x13_1
   case neg =>
    rw [if_neg c5] at H
    exact absurd H (by simp)
   rw [if_pos c5] at H
   have c5b0 : decide (0 ≤ x13_1) = true := decide_eq_true c5
   clear c5
   by_cases c6 : x13_1 < (l0.length : Int)
   case neg =>
    rw [if_neg c6] at H
    exact absurd H (by simp)
   rw [if_pos c6] at H
   have c6b0 : decide (x13_1 < (l0.length : Int)) = true := decide_eq_true c6
   clear c6
   by_cases c7 : x13_1 < (l1.length : Int)
   case neg =>
    rw [if_neg c7] at H
    exact absurd H (by simp)
   rw [if_pos c7] at H
   have c7b0 : decide (x13_1 < (l1.length : Int)) = true := decide_eq_true c7
   clear c7
   by_cases c8 : (rd l0 x13_1) = (rd l1 x13_1)
   case neg =>
    rw [if_neg c8] at H
    have c8b0 : ((rd l0 x13_1) == (rd l1 x13_1)) = false := beq_eq_false_iff_ne.mpr c8
    have c8b1 : ((rd l0 x13_1) != (rd l1 x13_1)) = true := bne_iff_ne.mpr c8
    obtain rfl := Option.some.inj H
    have p220 : 0 ≤ (x13_1 : Int) := of_decide_eq_true Z3
    have q220 : x13_1 < (l0.length : Int) := of_decide_eq_true Z3
    obtain ⟨ad220, e220, hx220_0⟩ := Kd.at_int HR0.out x13_1 p220 q220
    cases e220
    replace p220 := eq_true p220
    replace q220 := eq_true q220
    have p221 : 0 ≤ (x13_1 : Int) := of_decide_eq_true Z3
    have q221 : x13_1 < (l1.length : Int) := of_decide_eq_true Z3
    obtain ⟨ad221, e221, hx221_0⟩ := Kd.at_int HR1.out x13_1 p221 q221
    cases e221
    replace p221 := eq_true p221
    replace q221 := eq_true q221
    go_wp2
    repeat (go_quiet (fail); try go_wp2)
    go_ret
    exact ⟨by first | rfl | (simp; done) | (simp [*]; done), by repeat (first | exact ddR _ | apply ddS)⟩
   rw [if_pos c8] at H
   have c8b0 : ((rd l0 x13_1) == (rd l1 x13_1)) = true := beq_iff_eq.mpr c8
   have c8b1 : ((rd l0 x13_1) != (rd l1 x13_1)) = false := bne_eq_false_iff_eq.mpr c8
   clear c8
   have H' := ZM H
   clear H
   have p220 : 0 ≤ (x13_1 : Int) := of_decide_eq_true Z3
   have q220 : x13_1 < (l0.length : Int) := of_decide_eq_true Z3
   obtain ⟨ad220, e220, hx220_0⟩ := Kd.at_int HR0.out x13_1 p220 q220
   cases e220
   replace p220 := eq_true p220
   replace q220 := eq_true q220
   have p221 : 0 ≤ (x13_1 : Int) := of_decide_eq_true Z3
   have q221 : x13_1 < (l1.length : Int) := of_decide_eq_true Z3
   obtain ⟨ad221, e221, hx221_0⟩ := Kd.at_int HR1.out x13_1 p221 q221
   cases e221
   replace p221 := eq_true p221
   replace q221 := eq_true q221
   go_wp2
   repeat (go_quiet (fail); try go_wp2)
   go_roundg k1
   case measure => have := HK1.out; omega
   case rel => exact ⟨(wrap64 (x13_1 + 1)), Z4, H', ⟨by have := HK1.out; omega⟩, by repeat (first | exact ddR _ | apply ddS)⟩
theorem thrumref02_SameP.loop (x0 x1 : List Int) (hl : x0.length = x1.length) (hb : x0.length ≤ 9223372036854775807) : ∀ (d i : Nat), d + i = x0.length →
    thrumref02_SameP.l0 (d + 1) x0 x1 (x0.length : Int) (i : Int) = some (decide (x0.drop i = x1.drop i)) := by
  intro d
  induction d with
  | zero =>
    intro i hd
    rw [thrumref02_SameP.l0, if_neg (by omega), List.drop_eq_nil_of_le (by omega), List.drop_eq_nil_of_le (by omega)]; simp
  | succ d ih =>
    intro i hd
    have hi : i < x0.length := by omega
    have hi1 : i < x1.length := by omega
    rw [thrumref02_SameP.l0, if_pos (by omega), if_pos (by omega), if_pos (by omega), if_pos (by omega), List.drop_eq_getElem_cons hi, List.drop_eq_getElem_cons hi1, show rd x0 (i : Int) = x0[i] from rd_nat hi, show rd x1 (i : Int) = x1[i] from rd_nat hi1]
    by_cases c : x0[i] = x1[i]
    · rw [if_pos c, wrap64_of (by unfold I64; omega), show (i : Int) + 1 = ((i + 1 : Nat) : Int) by omega, ih (i + 1) (by omega)]
      simp only [List.cons.injEq, c, true_and]
    · rw [if_neg c]; simp only [List.cons.injEq, c, false_and, decide_false]
def thrumref02_Same.f (l0 l1 : List Int) : Option Bool := some (decide (l0 = l1))
theorem thrumref02_Same.calls (A0 : Option Addr) (c0 : Nat) (l0 : List Int) (A1 : Option Addr) (c1 : Nat) (l1 : List Int) (r : Bool) (w : World) (hr0 : Kd.C (Kd.int .i64) w A0 l0.length l0) (hc0 : l0.length ≤ c0) (hr1 : Kd.C (Kd.int .i64) w A1 l1.length l1) (hc1 : l1.length ≤ c1) (h : thrumref02_Same.f l0 l1 = some r) :
    Calls Try.prog 13 #[.slice A0 l0.length c0, .slice A1 l1.length c1] w fun e w' => e = .returned (.bool r) ∧ Drawn0 w w' := by
  refine thrumref02_SameP.calls (l0.length + 1) A0 c0 l0 A1 c1 l1 r w hr0 hc0 hr1 hc1 (Eq.trans ?_ h)
  have hm := Kd.C_max hr0
  unfold thrumref02_SameP.f thrumref02_Same.f
  by_cases c : l0.length = l1.length
  · rw [if_pos (by omega)]
    exact (thrumref02_SameP.loop l0 l1 c hm l0.length 0 (by omega)).trans (by simp)
  · rw [if_neg (by omega)]
    have : l0 ≠ l1 := fun e => c (by rw [e])
    simp [this]


/-! ### thrumlaw15_liveP: function 5 -/
def thrumlaw15_liveP.f  : Option (Bool) := (soft_Tell.f 2 (([0, 0, 0, 0] : List Int)) (([5] : List Int)) 4).bind fun bt228 => ((soft_Grad.f 2 (([0, 0, 0, 0] : List Int)) 4 (([(⟨(([16] : List Int)), 1⟩ : S26)] : List (S26)))).bind fun bt241 => (if bt228.2 = 0 then ((thrumref02_Same.f bt228.1 (([8, 8] : List Int))).bind fun t248 => (if t248 = true then (if bt241.2 = 0 then ((thrumref02_Same.f bt241.1 (([8, 8, (-8), (-8)] : List Int))).bind fun t252 => (some t252)) else (some false)) else (some false))) else (some false)))
set_option maxHeartbeats 80000000 in
set_option maxRecDepth 100000 in
theorem thrumlaw15_liveP.calls  (r : Bool) (w : World) (h : thrumlaw15_liveP.f  = some r) (hr_ : r = true) :
  Calls Try.prog 5 #[] w fun e w' => e = .returned (.bool r) ∧ Below w.heap.size w w' := by
 have HR_ := ZM hr_
 clear hr_
 have hu26 := Try.underlying26
 have HB := ZM (Below.refl w.heap.size w)
 have H : ((soft_Tell.f 2 (([0, 0, 0, 0] : List Int)) (([5] : List Int)) 4).bind fun bt228 => ((soft_Grad.f 2 (([0, 0, 0, 0] : List Int)) 4 (([(⟨(([16] : List Int)), 1⟩ : S26)] : List (S26)))).bind fun bt241 => (if bt228.2 = 0 then ((thrumref02_Same.f bt228.1 (([8, 8] : List Int))).bind fun t248 => (if t248 = true then (if bt241.2 = 0 then ((thrumref02_Same.f bt241.1 (([8, 8, (-8), (-8)] : List Int))).bind fun t252 => (some t252)) else (some false)) else (some false))) else (some false)))) = some r := h
 clear h
 obtain ⟨y222, hy222⟩ : ∃ y_ : List Int, y_ = (([0, 0, 0, 0] : List Int)) := ⟨_, rfl⟩
 replace H : ((soft_Tell.f 2 y222 (([5] : List Int)) 4).bind fun bt228 => ((soft_Grad.f 2 (([0, 0, 0, 0] : List Int)) 4 (([(⟨(([16] : List Int)), 1⟩ : S26)] : List (S26)))).bind fun bt241 => (if bt228.2 = 0 then ((thrumref02_Same.f bt228.1 (([8, 8] : List Int))).bind fun t248 => (if t248 = true then (if bt241.2 = 0 then ((thrumref02_Same.f bt241.1 (([8, 8, (-8), (-8)] : List Int))).bind fun t252 => (some t252)) else (some false)) else (some false))) else (some false)))) = some r := by first | (rw [hy222]; with_reducible exact H) | (have H2_ := (Option.bind_some _ _).symm.trans H; rw [hy222]; with_reducible exact H2_) | (have H2_ := (Option.bind_some _ _).symm.trans H; with_reducible exact H2_) | with_reducible exact H | (rw [hy222]; exact H) | exact H
 have Ny222 := ZM hy222
 clear hy222
 obtain ⟨y225, hy225⟩ : ∃ y_ : List Int, y_ = (([5] : List Int)) := ⟨_, rfl⟩
 replace H : ((soft_Tell.f 2 y222 y225 4).bind fun bt228 => ((soft_Grad.f 2 (([0, 0, 0, 0] : List Int)) 4 (([(⟨(([16] : List Int)), 1⟩ : S26)] : List (S26)))).bind fun bt241 => (if bt228.2 = 0 then ((thrumref02_Same.f bt228.1 (([8, 8] : List Int))).bind fun t248 => (if t248 = true then (if bt241.2 = 0 then ((thrumref02_Same.f bt241.1 (([8, 8, (-8), (-8)] : List Int))).bind fun t252 => (some t252)) else (some false)) else (some false))) else (some false)))) = some r := by first | (rw [hy225]; with_reducible exact H) | (have H2_ := (Option.bind_some _ _).symm.trans H; rw [hy225]; with_reducible exact H2_) | (have H2_ := (Option.bind_some _ _).symm.trans H; with_reducible exact H2_) | with_reducible exact H | (rw [hy225]; exact H) | exact H
 have Ny225 := ZM hy225
 clear hy225
 replace H := Option.bind_eq_some_iff.mp H
 obtain ⟨⟨t228, t229⟩, A10, H⟩ := H
 replace H : ((soft_Grad.f 2 (([0, 0, 0, 0] : List Int)) 4 (([(⟨(([16] : List Int)), 1⟩ : S26)] : List (S26)))).bind fun bt241 => (if t229 = 0 then ((thrumref02_Same.f t228 (([8, 8] : List Int))).bind fun t248 => (if t248 = true then (if bt241.2 = 0 then ((thrumref02_Same.f bt241.1 (([8, 8, (-8), (-8)] : List Int))).bind fun t252 => (some t252)) else (some false)) else (some false))) else (some false))) = some r := H
 have A1 := ZM A10
 clear A10
 obtain ⟨y232, hy232⟩ : ∃ y_ : List Int, y_ = (([0, 0, 0, 0] : List Int)) := ⟨_, rfl⟩
 replace H : ((soft_Grad.f 2 y232 4 (([(⟨(([16] : List Int)), 1⟩ : S26)] : List (S26)))).bind fun bt241 => (if t229 = 0 then ((thrumref02_Same.f t228 (([8, 8] : List Int))).bind fun t248 => (if t248 = true then (if bt241.2 = 0 then ((thrumref02_Same.f bt241.1 (([8, 8, (-8), (-8)] : List Int))).bind fun t252 => (some t252)) else (some false)) else (some false))) else (some false))) = some r := by first | (rw [hy232]; with_reducible exact H) | (have H2_ := (Option.bind_some _ _).symm.trans H; rw [hy232]; with_reducible exact H2_) | (have H2_ := (Option.bind_some _ _).symm.trans H; with_reducible exact H2_) | with_reducible exact H | (rw [hy232]; exact H) | exact H
 have Ny232 := ZM hy232
 clear hy232
 obtain ⟨y235, hy235⟩ : ∃ y_ : List Int, y_ = (([16] : List Int)) := ⟨_, rfl⟩
 replace H : ((soft_Grad.f 2 y232 4 (([(⟨y235, 1⟩ : S26)] : List (S26)))).bind fun bt241 => (if t229 = 0 then ((thrumref02_Same.f t228 (([8, 8] : List Int))).bind fun t248 => (if t248 = true then (if bt241.2 = 0 then ((thrumref02_Same.f bt241.1 (([8, 8, (-8), (-8)] : List Int))).bind fun t252 => (some t252)) else (some false)) else (some false))) else (some false))) = some r := by first | (rw [hy235]; with_reducible exact H) | (have H2_ := (Option.bind_some _ _).symm.trans H; rw [hy235]; with_reducible exact H2_) | (have H2_ := (Option.bind_some _ _).symm.trans H; with_reducible exact H2_) | with_reducible exact H | (rw [hy235]; exact H) | exact H
 have Ny235 := ZM hy235
 clear hy235
 obtain ⟨y238, hy238⟩ : ∃ y_ : List (S26), y_ = (([(⟨y235, 1⟩ : S26)] : List (S26))) := ⟨_, rfl⟩
 replace H : ((soft_Grad.f 2 y232 4 y238).bind fun bt241 => (if t229 = 0 then ((thrumref02_Same.f t228 (([8, 8] : List Int))).bind fun t248 => (if t248 = true then (if bt241.2 = 0 then ((thrumref02_Same.f bt241.1 (([8, 8, (-8), (-8)] : List Int))).bind fun t252 => (some t252)) else (some false)) else (some false))) else (some false))) = some r := by first | (rw [hy238]; with_reducible exact H) | (have H2_ := (Option.bind_some _ _).symm.trans H; rw [hy238]; with_reducible exact H2_) | (have H2_ := (Option.bind_some _ _).symm.trans H; with_reducible exact H2_) | with_reducible exact H | (rw [hy238]; exact H) | exact H
 have Ny238 := ZM hy238
 clear hy238
 replace H := Option.bind_eq_some_iff.mp H
 obtain ⟨⟨t241, t242⟩, A20, H⟩ := H
 replace H : (if t229 = 0 then ((thrumref02_Same.f t228 (([8, 8] : List Int))).bind fun t248 => (if t248 = true then (if t242 = 0 then ((thrumref02_Same.f t241 (([8, 8, (-8), (-8)] : List Int))).bind fun t252 => (some t252)) else (some false)) else (some false))) else (some false)) = some r := H
 have A2 := ZM A20
 clear A20
 by_cases c3 : t229 = 0
 case neg =>
  rw [if_neg c3] at H
  exact absurd (Option.some.inj H) Z50
 rw [if_pos c3] at H
 have c3b0 : (t229 == 0) = true := beq_iff_eq.mpr c3
 have c3b1 : (t229 != 0) = false := bne_eq_false_iff_eq.mpr c3
 clear c3
 obtain ⟨y245, hy245⟩ : ∃ y_ : List Int, y_ = (([8, 8] : List Int)) := ⟨_, rfl⟩
 replace H : ((thrumref02_Same.f t228 y245).bind fun t248 => (if t248 = true then (if t242 = 0 then ((thrumref02_Same.f t241 (([8, 8, (-8), (-8)] : List Int))).bind fun t252 => (some t252)) else (some false)) else (some false))) = some r := by first | (rw [hy245]; with_reducible exact H) | (have H2_ := (Option.bind_some _ _).symm.trans H; rw [hy245]; with_reducible exact H2_) | (have H2_ := (Option.bind_some _ _).symm.trans H; with_reducible exact H2_) | with_reducible exact H | (rw [hy245]; exact H) | exact H
 have Ny245 := ZM hy245
 clear hy245
 replace H := Option.bind_eq_some_iff.mp H
 obtain ⟨t248, A40, H⟩ := H
 replace H : (if t248 = true then (if t242 = 0 then ((thrumref02_Same.f t241 (([8, 8, (-8), (-8)] : List Int))).bind fun t252 => (some t252)) else (some false)) else (some false)) = some r := H
 have A4 := ZM A40
 clear A40
 by_cases c5 : t248 = true
 case neg =>
  replace c5 := Bool.eq_false_iff.mpr c5
  subst c5
  have H1 : (some false) = some r := by rw [if_neg (show ¬ (false = true) by decide)] at H; exact H
  exact absurd (Option.some.inj H1) Z50
 subst c5
 have H1 : (if t242 = 0 then ((thrumref02_Same.f t241 (([8, 8, (-8), (-8)] : List Int))).bind fun t252 => (some t252)) else (some false)) = some r := by rw [if_pos rfl] at H; exact H
 clear H
 have H := H1
 clear H1
 by_cases c6 : t242 = 0
 case neg =>
  rw [if_neg c6] at H
  exact absurd (Option.some.inj H) Z50
 rw [if_pos c6] at H
 have c6b0 : (t242 == 0) = true := beq_iff_eq.mpr c6
 have c6b1 : (t242 != 0) = false := bne_eq_false_iff_eq.mpr c6
 clear c6
 obtain ⟨y249, hy249⟩ : ∃ y_ : List Int, y_ = (([8, 8, (-8), (-8)] : List Int)) := ⟨_, rfl⟩
 replace H : ((thrumref02_Same.f t241 y249).bind fun t252 => (some t252)) = some r := by first | (rw [hy249]; with_reducible exact H) | (have H2_ := (Option.bind_some _ _).symm.trans H; rw [hy249]; with_reducible exact H2_) | (have H2_ := (Option.bind_some _ _).symm.trans H; with_reducible exact H2_) | with_reducible exact H | (rw [hy249]; exact H) | exact H
 have Ny249 := ZM hy249
 clear hy249
 replace H := Option.bind_eq_some_iff.mp H
 obtain ⟨t252, A70, H⟩ := H
 replace H : (some t252) = some r := H
 have A7 := ZM A70
 clear A70
 obtain rfl := Option.some.inj H
 go_enter Try.func5, Try.ntmps5
 go_wp2_with (first | ((with_reducible refine gate_dst (N := 6) rfl ?_); (try (refine gate_guard (by rfl) ?_; dsimp only)); refine Kd.R_lit (Kd.int .i64) _ 2 ?hg (N := 6) ?hd (xs := ([0, 0, 0, 0] : List Int)) (inner := [.int .i64 0, .int .i64 0, .int .i64 0, .int .i64 0]) (ok := fun _ => True) (okp := fun _ => True) ?hr ?hp (fun _ hk => hk) trivial (Below.refl _ _) (Nat.le_refl _) (by simp) ?_; (case hd => rfl); (case hg => rfl); (case hr => exact Z9); (case hp => exact (Reps.one (show Kd.M (Kd.int .i64) _ _ _ 0 [.int .i64 0] from rfl) (Reps.one (show Kd.M (Kd.int .i64) _ _ _ 0 [.int .i64 0] from rfl) (Reps.one (show Kd.M (Kd.int .i64) _ _ _ 0 [.int .i64 0] from rfl) (Reps.one (show Kd.M (Kd.int .i64) _ _ _ 0 [.int .i64 0] from rfl) (Reps.none _ _)))))); intro v223 w8 ho9 hb hg_ hnew_; clear hg_ hnew_; (first | rw [← Ny222.out] at ho9 | (simp only [Int.reduceToNat] at ho9; rw [← Ny222.out] at ho9)); have HO224 := ZM (Kd.R_lower ho9 (zzS Z1)); replace HB := ZM (zzT Z1 hb); clear hb ho9) | ((with_reducible refine gate_dst (N := 7) rfl ?_); (try (refine gate_guard (by rfl) ?_; dsimp only)); refine Kd.R_lit (Kd.int .i64) _ 2 ?hg (N := 7) ?hd (xs := ([5] : List Int)) (inner := [.int .i64 5]) (ok := fun _ => True) (okp := fun _ => True) ?hr ?hp (fun _ hk => hk) trivial (Below.refl _ _) (Nat.le_refl _) (by simp) ?_; (case hd => rfl); (case hg => rfl); (case hr => exact Z9); (case hp => exact (Reps.one (show Kd.M (Kd.int .i64) _ _ _ 5 [.int .i64 5] from rfl) (Reps.none _ _))); intro v226 w10 ho11 hb hg_ hnew_; clear hg_ hnew_; (first | rw [← Ny225.out] at ho11 | (simp only [Int.reduceToNat] at ho11; rw [← Ny225.out] at ho11)); have n0_ := ZM (Kd.R_elder' (Zr HO224) (Kd.R_base ho11) hb); have n1_ := ZM (Kd.R_lower (Kd.R_new' ho11 (Kd.R_lt (Zr HO224))) (zzS Z1)); have n2_ := ZM (zzT Z1 hb); clear HO224; clear HB; have HO224 := n0_; have HO227 := n1_; have HB := n2_; clear n0_ n1_ n2_; clear hb ho11; obtain ⟨Ao12, co12, eo12⟩ := Kd.R_slice HO224.out; subst eo12; obtain ⟨Ao13, co13, eo13⟩ := Kd.R_slice HO227.out; subst eo13) | ((with_reducible refine gate_callee (f := 8) rfl ?_); refine goesL_ (some 8) rfl rfl Try.func8 (by kernel_rfl) rfl #[.int .i64 2, .slice Ao12 y222.length co12, .slice Ao13 y225.length co13, .int .i64 4] rfl Z2 ?_; (with_reducible refine (soft_Tell.calls 2 _ _ y222 _ _ y225 4 t228 t229 _ ?side1 ?side2 ?side3 ?side4 A1.out).mono ?_); (case side1 => repeat (first | exact (Kd.R_reads' HO224.out).2.2 | (with_reducible refine ccA ?_ _) | (with_reducible refine ccN ?_ _) | (with_reducible refine ccD ?_))); (case side2 => exact (Kd.R_reads' HO224.out).2.1); (case side3 => repeat (first | exact (Kd.R_reads' HO227.out).2.2 | (with_reducible refine ccA ?_ _) | (with_reducible refine ccN ?_ _) | (with_reducible refine ccD ?_))); (case side4 => exact (Kd.R_reads' HO227.out).2.1); rintro e w14 ⟨v230, rfl, ho0, hb⟩; refine ⟨_, rfl, ?_⟩; have n0_ := ZM (Kd.R_elder' (Zr HO224) (Kd.R_base ho0) hb); have n1_ := ZM (Kd.R_elder' (Zr HO227) (Kd.R_base ho0) hb); have n2_ := ZM (Kd.R_lower (Kd.R_new' (Kd.R_new' ho0 (Kd.R_lt (Zr HO224))) (Kd.R_lt (Zr HO227))) (zzS Z1)); have n3_ := ZM (zzT Z1 hb); clear HO224; clear HO227; clear HB; have HO224 := n0_; have HO227 := n1_; have HO231 := n2_; have HB := n3_; clear n0_ n1_ n2_ n3_; (try clear hb); (try clear hb2); (try clear hk); (try clear hi); (try clear ho0)) | ((with_reducible refine gate_dst (N := 12) rfl ?_); (try (refine gate_guard (by rfl) ?_; dsimp only)); refine Kd.R_lit (Kd.int .i64) _ 2 ?hg (N := 12) ?hd (xs := ([0, 0, 0, 0] : List Int)) (inner := [.int .i64 0, .int .i64 0, .int .i64 0, .int .i64 0]) (ok := fun _ => True) (okp := fun _ => True) ?hr ?hp (fun _ hk => hk) trivial (Below.refl _ _) (Nat.le_refl _) (by simp) ?_; (case hd => rfl); (case hg => rfl); (case hr => exact Z9); (case hp => exact (Reps.one (show Kd.M (Kd.int .i64) _ _ _ 0 [.int .i64 0] from rfl) (Reps.one (show Kd.M (Kd.int .i64) _ _ _ 0 [.int .i64 0] from rfl) (Reps.one (show Kd.M (Kd.int .i64) _ _ _ 0 [.int .i64 0] from rfl) (Reps.one (show Kd.M (Kd.int .i64) _ _ _ 0 [.int .i64 0] from rfl) (Reps.none _ _)))))); intro v233 w15 ho16 hb hg_ hnew_; clear hg_ hnew_; (first | rw [← Ny232.out] at ho16 | (simp only [Int.reduceToNat] at ho16; rw [← Ny232.out] at ho16)); have n0_ := ZM (Kd.R_elder' (Zr HO224) (Kd.R_base ho16) hb); have n1_ := ZM (Kd.R_elder' (Zr HO227) (Kd.R_base ho16) hb); have n2_ := ZM (Kd.R_elder' (Zr HO231) (Kd.R_base ho16) hb); have n3_ := ZM (Kd.R_lower (Kd.R_new' (Kd.R_new' (Kd.R_new' ho16 (Kd.R_lt (Zr HO224))) (Kd.R_lt (Zr HO227))) (Kd.R_lt (Zr HO231))) (zzS Z1)); have n4_ := ZM (zzT Z1 hb); clear HO224; clear HO227; clear HO231; clear HB; have HO224 := n0_; have HO227 := n1_; have HO231 := n2_; have HO234 := n3_; have HB := n4_; clear n0_ n1_ n2_ n3_ n4_; clear hb ho16) | ((with_reducible refine gate_dst (N := 13) rfl ?_); (try (refine gate_guard (by rfl) ?_; dsimp only)); refine Kd.R_lit (Kd.int .i64) _ 2 ?hg (N := 13) ?hd (xs := ([16] : List Int)) (inner := [.int .i64 16]) (ok := fun _ => True) (okp := fun _ => True) ?hr ?hp (fun _ hk => hk) trivial (Below.refl _ _) (Nat.le_refl _) (by simp) ?_; (case hd => rfl); (case hg => rfl); (case hr => exact Z9); (case hp => exact (Reps.one (show Kd.M (Kd.int .i64) _ _ _ 16 [.int .i64 16] from rfl) (Reps.none _ _))); intro v236 w17 ho18 hb hg_ hnew_; clear hg_ hnew_; (first | rw [← Ny235.out] at ho18 | (simp only [Int.reduceToNat] at ho18; rw [← Ny235.out] at ho18)); have n0_ := ZM (Kd.R_elder' (Zr HO224) (Kd.R_base ho18) hb); have n1_ := ZM (Kd.R_elder' (Zr HO227) (Kd.R_base ho18) hb); have n2_ := ZM (Kd.R_elder' (Zr HO231) (Kd.R_base ho18) hb); have n3_ := ZM (Kd.R_elder' (Zr HO234) (Kd.R_base ho18) hb); have n4_ := ZM (Kd.R_lower (Kd.R_new' (Kd.R_new' (Kd.R_new' (Kd.R_new' ho18 (Kd.R_lt (Zr HO224))) (Kd.R_lt (Zr HO227))) (Kd.R_lt (Zr HO231))) (Kd.R_lt (Zr HO234))) (zzS Z1)); have n5_ := ZM (zzT Z1 hb); clear HO224; clear HO227; clear HO231; clear HO234; clear HB; have HO224 := n0_; have HO227 := n1_; have HO231 := n2_; have HO234 := n3_; have HO237 := n4_; have HB := n5_; clear n0_ n1_ n2_ n3_ n4_ n5_; clear hb ho18; obtain ⟨Ao19, co19, eo19⟩ := Kd.R_slice HO237.out; subst eo19) | ((with_reducible refine gate_dst (N := 15) rfl ?_); (try (refine gate_guard (by rfl) ?_; dsimp only)); refine Kd.N_lit k26 _ 26 ?hg (N' := 15) ?hd (xs := ([(⟨y235, 1⟩ : S26)] : List (S26))) (inner := [.slice Ao19 y235.length co19, .int .i64 1]) (ok := (fun k_ => some k_ ≠ (.slice Ao12 y222.length co12 : Value).ownBlock ∧ some k_ ≠ (.slice Ao13 y225.length co13 : Value).ownBlock ∧ some k_ ≠ (v230 : Value).ownBlock ∧ some k_ ≠ (v233 : Value).ownBlock)) (okp := (fun k_ => some k_ ≠ (.slice Ao12 y222.length co12 : Value).ownBlock ∧ some k_ ≠ (.slice Ao13 y225.length co13 : Value).ownBlock ∧ some k_ ≠ (v230 : Value).ownBlock ∧ some k_ ≠ (v233 : Value).ownBlock)) ?hr ?hp (fun _ hk => hk) ((show ∀ k_, w17.heap.size ≤ k_ → (fun k_ => some k_ ≠ (.slice Ao12 y222.length co12 : Value).ownBlock ∧ some k_ ≠ (.slice Ao13 y225.length co13 : Value).ownBlock ∧ some k_ ≠ (v230 : Value).ownBlock ∧ some k_ ≠ (v233 : Value).ownBlock) k_ from fun k_ hk => ⟨Kd.fresh' (Kd.R_lt (Zr HO224)) k_ hk, Kd.fresh' (Kd.R_lt (Zr HO227)) k_ hk, Kd.fresh' (Kd.R_lt (Zr HO231)) k_ hk, Kd.fresh' (Kd.R_lt (Zr HO234)) k_ hk⟩) _ (Nat.le_refl _)) (Below.refl _ _) (Nat.le_refl _) (by simp) ?_; (case hd => rfl); (case hg => rfl); (case hr => exact Z9); (case hp => exact (Reps.c2 (show Kd.FK k26 _ _ (⟨y235, 1⟩ : S26) [.slice Ao19 y235.length co19, .int .i64 1] from (k26_mkF _ _ (⟨y235, 1⟩ : S26) (Kd.R_reads' (Kd.R_mono (ok' := (fun k_ => some k_ ≠ (.slice Ao12 y222.length co12 : Value).ownBlock ∧ some k_ ≠ (.slice Ao13 y225.length co13 : Value).ownBlock ∧ some k_ ≠ (v230 : Value).ownBlock ∧ some k_ ≠ (v233 : Value).ownBlock)) (HO237.out) (fun k_ hk => ⟨hk.1.1.1.2, ⟨hk.1.1.2, ⟨hk.1.2, hk.2⟩⟩⟩))).2.1 (Kd.R_F (Kd.R_mono (ok' := (fun k_ => some k_ ≠ (.slice Ao12 y222.length co12 : Value).ownBlock ∧ some k_ ≠ (.slice Ao13 y225.length co13 : Value).ownBlock ∧ some k_ ≠ (v230 : Value).ownBlock ∧ some k_ ≠ (v233 : Value).ownBlock)) (HO237.out) (fun k_ hk => ⟨hk.1.1.1.2, ⟨hk.1.1.2, ⟨hk.1.2, hk.2⟩⟩⟩))))) (Reps.none _ _))); intro v239 w20 ho21 hb hg_ hnew_; clear hg_ hnew_; (first | rw [← Ny238.out] at ho21 | (simp only [Int.reduceToNat] at ho21; rw [← Ny238.out] at ho21)); replace HO224 := ZM (Kd.R_below (Zr HO224) hb); replace HO227 := ZM (Kd.R_below (Zr HO227) hb); replace HO231 := ZM (Kd.R_below (Zr HO231) hb); replace HO234 := ZM (Kd.R_below (Zr HO234) hb); have HO240 := ZM (Kd.N_lower ho21 (zzS Z1)); replace HB := ZM (zzT Z1 hb); clear HO237; clear hb ho21; obtain ⟨Ao22, co22, eo22⟩ := Kd.R_slice HO234.out; subst eo22; obtain ⟨Ao23, co23, eo23⟩ := Kd.N_slice HO240.out; subst eo23) | ((with_reducible refine gate_callee (f := 9) rfl ?_); refine goesL_ (some 16) rfl rfl Try.func9 (by kernel_rfl) rfl #[.int .i64 2, .slice Ao22 y232.length co22, .int .i64 4, .slice Ao23 y238.length co23] rfl Z2 ?_; (with_reducible refine (soft_Grad.calls 2 _ _ y232 4 _ _ y238 t241 t242 _ ?side1 ?side2 ?side3 ?side4 A2.out).mono ?_); (case side1 => repeat (first | exact (Kd.R_reads' HO234.out).2.2 | (with_reducible refine ccA ?_ _) | (with_reducible refine ccN ?_ _) | (with_reducible refine ccD ?_))); (case side2 => exact (Kd.R_reads' HO234.out).2.1); (case side3 => repeat (first | exact (Kd.N_reads' HO240.out).2.2 | (with_reducible refine ccA ?_ _) | (with_reducible refine ccN ?_ _) | (with_reducible refine ccD ?_))); (case side4 => exact (Kd.N_reads' HO240.out).2.1); rintro e w24 ⟨v243, rfl, ho0, hb⟩; refine ⟨_, rfl, ?_⟩; have n0_ := ZM (Kd.R_elder' (Zr HO224) (Kd.R_base ho0) hb); have n1_ := ZM (Kd.R_elder' (Zr HO227) (Kd.R_base ho0) hb); have n2_ := ZM (Kd.R_elder' (Zr HO231) (Kd.R_base ho0) hb); have n3_ := ZM (Kd.R_elder' (Zr HO234) (Kd.R_base ho0) hb); have n4_ := ZM (Kd.N_elder' Z43 (Kd.R_base ho0) hb); have n5_ := ZM (Kd.R_lower (Kd.R_new' (Kd.R_new' (Kd.R_new' (Kd.R_new' ho0 (Kd.R_lt (Zr HO224))) (Kd.R_lt (Zr HO227))) (Kd.R_lt (Zr HO231))) (Kd.R_lt (Zr HO234))) (zzS Z1)); have n6_ := ZM (zzT Z1 hb); clear HO224; clear HO227; clear HO231; clear HO234; clear HO240; clear HB; have HO224 := n0_; have HO227 := n1_; have HO231 := n2_; have HO234 := n3_; have HO240 := n4_; have HO244 := n5_; have HB := n6_; clear n0_ n1_ n2_ n3_ n4_ n5_ n6_; (try clear hb); (try clear hb2); (try clear hk); (try clear hi); (try clear ho0)) | ((with_reducible refine gate_dst (N := 23) rfl ?_); (try (refine gate_guard (by rfl) ?_; dsimp only)); refine Kd.R_lit (Kd.int .i64) _ 2 ?hg (N := 23) ?hd (xs := ([8, 8] : List Int)) (inner := [.int .i64 8, .int .i64 8]) (ok := fun _ => True) (okp := fun _ => True) ?hr ?hp (fun _ hk => hk) trivial (Below.refl _ _) (Nat.le_refl _) (by simp) ?_; (case hd => rfl); (case hg => rfl); (case hr => exact Z9); (case hp => exact (Reps.one (show Kd.M (Kd.int .i64) _ _ _ 8 [.int .i64 8] from rfl) (Reps.one (show Kd.M (Kd.int .i64) _ _ _ 8 [.int .i64 8] from rfl) (Reps.none _ _)))); intro v246 w25 ho26 hb hg_ hnew_; clear hg_ hnew_; (first | rw [← Ny245.out] at ho26 | (simp only [Int.reduceToNat] at ho26; rw [← Ny245.out] at ho26)); have n0_ := ZM (Kd.R_elder' (Zr HO224) (Kd.R_base ho26) hb); have n1_ := ZM (Kd.R_elder' (Zr HO227) (Kd.R_base ho26) hb); have n2_ := ZM (Kd.R_elder' (Zr HO231) (Kd.R_base ho26) hb); have n3_ := ZM (Kd.R_elder' (Zr HO234) (Kd.R_base ho26) hb); have n4_ := ZM (Kd.N_elder' Z43 (Kd.R_base ho26) hb); have n5_ := ZM (Kd.R_elder' (Zr HO244) (Kd.R_base ho26) hb); have n6_ := ZM (Kd.R_lower (Kd.R_new' (Kd.R_new' (Kd.R_new' (Kd.R_new' (Kd.R_new' ho26 (Kd.R_lt (Zr HO224))) (Kd.R_lt (Zr HO227))) (Kd.R_lt (Zr HO231))) (Kd.R_lt (Zr HO234))) (Kd.R_lt (Zr HO244))) (zzS Z1)); have n7_ := ZM (zzT Z1 hb); clear HO224; clear HO227; clear HO231; clear HO234; clear HO240; clear HO244; clear HB; have HO224 := n0_; have HO227 := n1_; have HO231 := n2_; have HO234 := n3_; have HO240 := n4_; have HO244 := n5_; have HO247 := n6_; have HB := n7_; clear n0_ n1_ n2_ n3_ n4_ n5_ n6_ n7_; clear hb ho26; obtain ⟨Ao27, co27, eo27⟩ := Kd.R_slice HO231.out; subst eo27; obtain ⟨Ao28, co28, eo28⟩ := Kd.R_slice HO247.out; subst eo28) | (go_at_call 13; (with_reducible refine (thrumref02_Same.calls _ _ t228 _ _ y245 true _ ?side1 ?side2 ?side3 ?side4 A4.out).mono ?_); (case side1 => repeat (first | exact (Kd.R_reads' HO231.out).2.2 | (with_reducible refine ccA ?_ _) | (with_reducible refine ccN ?_ _) | (with_reducible refine ccD ?_))); (case side2 => exact (Kd.R_reads' HO231.out).2.1); (case side3 => repeat (first | exact (Kd.R_reads' HO247.out).2.2 | (with_reducible refine ccA ?_ _) | (with_reducible refine ccN ?_ _) | (with_reducible refine ccD ?_))); (case side4 => exact (Kd.R_reads' HO247.out).2.1); rintro e w' ⟨rfl, ⟨nd, rfl⟩⟩) | ((with_reducible refine gate_dst (N := 32) rfl ?_); (try (refine gate_guard (by rfl) ?_; dsimp only)); refine Kd.R_lit (Kd.int .i64) _ 2 ?hg (N := 32) ?hd (xs := ([8, 8, (-8), (-8)] : List Int)) (inner := [.int .i64 8, .int .i64 8, .int .i64 (-8), .int .i64 (-8)]) (ok := fun _ => True) (okp := fun _ => True) ?hr ?hp (fun _ hk => hk) trivial (Below.refl _ _) (Nat.le_refl _) (by simp) ?_; (case hd => rfl); (case hg => rfl); (case hr => exact Z9); (case hp => exact (Reps.one (show Kd.M (Kd.int .i64) _ _ _ 8 [.int .i64 8] from rfl) (Reps.one (show Kd.M (Kd.int .i64) _ _ _ 8 [.int .i64 8] from rfl) (Reps.one (show Kd.M (Kd.int .i64) _ _ _ (-8) [.int .i64 (-8)] from rfl) (Reps.one (show Kd.M (Kd.int .i64) _ _ _ (-8) [.int .i64 (-8)] from rfl) (Reps.none _ _)))))); intro v250 w29 ho30 hb hg_ hnew_; clear hg_ hnew_; (first | rw [← Ny249.out] at ho30 | (simp only [Int.reduceToNat] at ho30; rw [← Ny249.out] at ho30)); have n0_ := ZM (Kd.R_elder' (Zr HO224) (Kd.R_base ho30) hb); have n1_ := ZM (Kd.R_elder' (Zr HO227) (Kd.R_base ho30) hb); have n2_ := ZM (Kd.R_elder' (Zr HO231) (Kd.R_base ho30) hb); have n3_ := ZM (Kd.R_elder' (Zr HO234) (Kd.R_base ho30) hb); have n4_ := ZM (Kd.N_elder' Z43 (Kd.R_base ho30) hb); have n5_ := ZM (Kd.R_elder' (Zr HO244) (Kd.R_base ho30) hb); have n6_ := ZM (Kd.R_elder' (Zr HO247) (Kd.R_base ho30) hb); have n7_ := ZM (Kd.R_lower (Kd.R_new' (Kd.R_new' (Kd.R_new' (Kd.R_new' (Kd.R_new' (Kd.R_new' ho30 (Kd.R_lt (Zr HO224))) (Kd.R_lt (Zr HO227))) (Kd.R_lt (Zr HO231))) (Kd.R_lt (Zr HO234))) (Kd.R_lt (Zr HO244))) (Kd.R_lt (Zr HO247))) (zzS Z1)); have n8_ := ZM (zzT Z1 hb); clear HO224; clear HO227; clear HO231; clear HO234; clear HO240; clear HO244; clear HO247; clear HB; have HO224 := n0_; have HO227 := n1_; have HO231 := n2_; have HO234 := n3_; have HO240 := n4_; have HO244 := n5_; have HO247 := n6_; have HO251 := n7_; have HB := n8_; clear n0_ n1_ n2_ n3_ n4_ n5_ n6_ n7_ n8_; clear hb ho30; obtain ⟨Ao31, co31, eo31⟩ := Kd.R_slice HO244.out; subst eo31; obtain ⟨Ao32, co32, eo32⟩ := Kd.R_slice HO251.out; subst eo32) | (go_at_call 13; (with_reducible refine (thrumref02_Same.calls _ _ t241 _ _ y249 t252 _ ?side1 ?side2 ?side3 ?side4 A7.out).mono ?_); (case side1 => repeat (first | exact (Kd.R_reads' HO244.out).2.2 | (with_reducible refine ccA ?_ _) | (with_reducible refine ccN ?_ _) | (with_reducible refine ccD ?_))); (case side2 => exact (Kd.R_reads' HO244.out).2.1); (case side3 => repeat (first | exact (Kd.R_reads' HO251.out).2.2 | (with_reducible refine ccA ?_ _) | (with_reducible refine ccN ?_ _) | (with_reducible refine ccD ?_))); (case side4 => exact (Kd.R_reads' HO251.out).2.1); rintro e w' ⟨rfl, ⟨nd, rfl⟩⟩))
 go_ret
 exact ⟨by first | rfl | (simp [errW_none, errW_some] <;> rfl) | (simp [*, errW_none, errW_some] <;> rfl), by repeat (first | (with_reducible first | exact HB.out | apply zzA | apply zzN | apply zzD) | exact HB.out)⟩
def thrumlaw15_live.f : Option Bool := some true
theorem thrumlaw15_live.calls  (r : Bool) (w : World) (h : thrumlaw15_live.f  = some r) :
    Calls Try.prog 5 #[] w fun e w' => e = .returned (.bool r) ∧ Below w.heap.size w w' := by
  have hr : r = true := (Option.some.inj h).symm
  refine thrumlaw15_liveP.calls r w (Eq.trans ?_ h) hr
  unfold thrumlaw15_liveP.f thrumlaw15_live.f
  rw [soft_Tell.of _ _ _ _ (by decide +kernel), show tellS 2 [0, 0, 0, 0] [5] 4 = ([8, 8], 0) by decide +kernel]
  simp only [Option.bind_some]
  rw [soft_Grad.of _ _ _ _ ⟨by decide +kernel, (by intro s hs; cases List.mem_singleton.1 hs; exact ⟨by decide +kernel, by decide +kernel⟩), by decide +kernel⟩, show gradS 2 [0, 0, 0, 0] 4 ([(⟨[16], 1⟩ : S26)].map sm) = ([8, 8, -8, -8], 0) by decide +kernel]
  rfl


end Go.Proofs.Ytgilbdpbfmpcpaa.HS
