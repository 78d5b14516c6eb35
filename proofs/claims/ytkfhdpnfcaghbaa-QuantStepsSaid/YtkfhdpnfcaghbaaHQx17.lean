/- What Go functions do, each as a plain Lean function with the same answers, and the proof of it, in every world: printed by the session's driver over the kit's print, with texts by hand. -/
import Derived.Test.YtkfhdpnfcaghbaaHQx0
import Derived.Test.YtkfhdpnfcaghbaaHQx1
import Derived.Test.YtkfhdpnfcaghbaaHQx3
import Derived.Test.YtkfhdpnfcaghbaaHQx13
import Derived.Test.YtkfhdpnfcaghbaaHQx14
namespace Go.Proofs.Ytkfhdpnfcaghbaa.HQ
open Go.RowKit Go.Proofs.YtkfhdpnfcaghbaaW.PrintWords Go.Proofs.YtkfhdpnfcaghbaaW.PrintLast Go.Proofs.YtkfhdpnfcaghbaaW.PrintMore
attribute [local go_sem] max2_int min2_int max_two min_two max_three min_three max_four min_four   -- for this text's walks alone
open Go.Proofs.Ytkfhdpnfcaghbaa.Sp
attribute [local go_sem] Go.Proofs.Ytkfhdpnfcaghbaa.Sp.u64_not
set_option linter.unusedVariables false
set_option linter.unusedSimpArgs false

/-! ### thrumlaw10_QuantSteps: function 10 -/
mutual
def thrumlaw10_QuantSteps.j0 : Nat → Int → Int → Int → Int → Bool → Int → Bool → Option (Bool)
 | 0, _, _, _, _, _, _, _ => none
 | k + 1, x0, x1, x2, x3, x9, x10, x45 => if x45 = true then (some false) else (if (IntKind.u64.wrap (x10 + 1)) = 0 then (none) else ((quant_Value.f (Int.tmod x2 (IntKind.u64.wrap (x10 + 1))) x1 x3).bind fun bt229 => (if bt229.2 = 0 then (if bt229.1 < 0 then (thrumlaw10_QuantSteps.j1 k x0 x1 (Int.tmod x2 (IntKind.u64.wrap (x10 + 1))) x3 x9 x10 bt229.1 true) else (thrumlaw10_QuantSteps.j1 k x0 x1 (Int.tmod x2 (IntKind.u64.wrap (x10 + 1))) x3 x9 x10 bt229.1 (decide (bt229.1 > x1)))) else (thrumlaw10_QuantSteps.j1 k x0 x1 (Int.tmod x2 (IntKind.u64.wrap (x10 + 1))) x3 x9 x10 bt229.1 true))))
def thrumlaw10_QuantSteps.j1 : Nat → Int → Int → Int → Int → Bool → Int → Int → Bool → Option (Bool)
 | 0, _, _, _, _, _, _, _, _ => none
 | k + 1, x0, x1, x2, x3, x9, x10, x12, x67 => if x67 = true then (some false) else ((quant_Level.f x12 x1 x3).bind fun bt231 => (if bt231.2.2 = 0 then (if bt231.1 > x2 then (thrumlaw10_QuantSteps.j2 k x0 x1 x2 x3 x9 x10 x12 true) else (if x1 > (wrap64 (x10)) then (thrumlaw10_QuantSteps.j2 k x0 x1 x2 x3 x9 x10 x12 (decide ((IntKind.u64.wrap (bt231.1 + 1)) < x2))) else (thrumlaw10_QuantSteps.j2 k x0 x1 x2 x3 x9 x10 x12 false))) else (thrumlaw10_QuantSteps.j2 k x0 x1 x2 x3 x9 x10 x12 true)))
def thrumlaw10_QuantSteps.j2 : Nat → Int → Int → Int → Int → Bool → Int → Int → Bool → Option (Bool)
 | 0, _, _, _, _, _, _, _, _ => none
 | k + 1, x0, x1, x2, x3, x9, x10, x12, x94 => if x94 = true then (some false) else (if x2 < x10 then ((quant_Value.f (IntKind.u64.wrap (x2 + 1)) x1 x3).bind fun bt234 => (if bt234.2 = 0 then (if bt234.1 < x12 then (some false) else (thrumlaw10_QuantSteps.j3 k x0 x1 x3 x9 x10)) else (some false))) else (thrumlaw10_QuantSteps.j3 k x0 x1 x3 x9 x10))
def thrumlaw10_QuantSteps.j3 : Nat → Int → Int → Int → Bool → Int → Option (Bool)
 | 0, _, _, _, _, _ => none
 | k + 1, x0, x1, x3, x9, x10 => if x1 = 0 then (some x9) else (if (wrap64 (x1 + 1)) = 0 then (none) else ((quant_Level.f (Int.tmod x0 (wrap64 (x1 + 1))) x1 x3).bind fun bt236 => (if x9 = true then (if bt236.2.2 = 0 then (if bt236.2.1 < (IntKind.u64.wrap (x1)) then ((thrumref09_Size.f (Int.tmod x0 (wrap64 (x1 + 1)))).bind fun t239 => (some ((IntKind.u64.wrap ((IntKind.u64.wrap (bt236.1 * (IntKind.u64.wrap (x1)))) + bt236.2.1)) == (IntKind.u64.wrap (t239 * x10))))) else (some false)) else (some false)) else (some false))))
end
def thrumlaw10_QuantSteps.f (k : Nat) (a0 : Int) (a1 : Int) (a2 : Int) (a3 : Int) : Option (Bool) := (thrumlaw10_live.f).bind fun t226 => (if t226 = true then ((quant_Steps.f (wrap64 (1 + (Int.tmod (wrap64 ((Int.tmod a3 8) + 8)) 8)))).bind fun bt227 => (if bt227.2 = 0 then (if 0 ≤ (wrap64 (1 + (Int.tmod (wrap64 ((Int.tmod a3 8) + 8)) 8))) then (thrumlaw10_QuantSteps.j0 k a0 (Go.bits .and .i64 a1 1125899906842623) a2 (wrap64 (1 + (Int.tmod (wrap64 ((Int.tmod a3 8) + 8)) 8))) t226 bt227.1 (bt227.1 != (IntKind.u64.wrap ((shl .u64 1 (wrap64 (1 + (Int.tmod (wrap64 ((Int.tmod a3 8) + 8)) 8)))) - 1)))) else (none)) else (thrumlaw10_QuantSteps.j0 k a0 (Go.bits .and .i64 a1 1125899906842623) a2 (wrap64 (1 + (Int.tmod (wrap64 ((Int.tmod a3 8) + 8)) 8))) t226 bt227.1 true))) else (some false))
theorem thrumlaw10_QuantSteps.mono_l : ∀ k, (∀ y0 y1 y2 y3 y4 y5 y6, LeO (thrumlaw10_QuantSteps.j0 k y0 y1 y2 y3 y4 y5 y6) (thrumlaw10_QuantSteps.j0 (k + 1) y0 y1 y2 y3 y4 y5 y6)) ∧ (∀ y0 y1 y2 y3 y4 y5 y6 y7, LeO (thrumlaw10_QuantSteps.j1 k y0 y1 y2 y3 y4 y5 y6 y7) (thrumlaw10_QuantSteps.j1 (k + 1) y0 y1 y2 y3 y4 y5 y6 y7)) ∧ (∀ y0 y1 y2 y3 y4 y5 y6 y7, LeO (thrumlaw10_QuantSteps.j2 k y0 y1 y2 y3 y4 y5 y6 y7) (thrumlaw10_QuantSteps.j2 (k + 1) y0 y1 y2 y3 y4 y5 y6 y7)) ∧ (∀ y0 y1 y2 y3 y4, LeO (thrumlaw10_QuantSteps.j3 k y0 y1 y2 y3 y4) (thrumlaw10_QuantSteps.j3 (k + 1) y0 y1 y2 y3 y4))
 | 0 => ⟨fun _ _ _ _ _ _ _ r h => by simp [thrumlaw10_QuantSteps.j0] at h, fun _ _ _ _ _ _ _ _ r h => by simp [thrumlaw10_QuantSteps.j1] at h, fun _ _ _ _ _ _ _ _ r h => by simp [thrumlaw10_QuantSteps.j2] at h, fun _ _ _ _ _ r h => by simp [thrumlaw10_QuantSteps.j3] at h⟩
 | k + 1 => by
  obtain ⟨ih0, ih1, ih2, ih3⟩ := thrumlaw10_QuantSteps.mono_l k
  refine ⟨?_, ?_, ?_, ?_⟩
  ·
   intro y0 y1 y2 y3 y4 y5 y6
   unfold thrumlaw10_QuantSteps.j0
   repeat' first
   | (with_reducible exact ih0 _ _ _ _ _ _ _)
   | (with_reducible exact ih1 _ _ _ _ _ _ _ _)
   | (with_reducible exact ih2 _ _ _ _ _ _ _ _)
   | (with_reducible exact ih3 _ _ _ _ _)
   | (with_reducible exact LeO.refl _)
   | (with_reducible exact LeO.none _)
   | (with_reducible refine LeO.ite ?_ ?_)
   | (with_reducible refine LeO.bind ?_ (fun _ => ?_))
   | exact ih0 _ _ _ _ _ _ _
   | exact ih1 _ _ _ _ _ _ _ _
   | exact ih2 _ _ _ _ _ _ _ _
   | exact ih3 _ _ _ _ _
   | exact LeO.none _
   | refine LeO.ite ?_ ?_
   | refine LeO.bind ?_ (fun _ => ?_)
  ·
   intro y0 y1 y2 y3 y4 y5 y6 y7
   unfold thrumlaw10_QuantSteps.j1
   repeat' first
   | (with_reducible exact ih0 _ _ _ _ _ _ _)
   | (with_reducible exact ih1 _ _ _ _ _ _ _ _)
   | (with_reducible exact ih2 _ _ _ _ _ _ _ _)
   | (with_reducible exact ih3 _ _ _ _ _)
   | (with_reducible exact LeO.refl _)
   | (with_reducible exact LeO.none _)
   | (with_reducible refine LeO.ite ?_ ?_)
   | (with_reducible refine LeO.bind ?_ (fun _ => ?_))
   | exact ih0 _ _ _ _ _ _ _
   | exact ih1 _ _ _ _ _ _ _ _
   | exact ih2 _ _ _ _ _ _ _ _
   | exact ih3 _ _ _ _ _
   | exact LeO.none _
   | refine LeO.ite ?_ ?_
   | refine LeO.bind ?_ (fun _ => ?_)
  ·
   intro y0 y1 y2 y3 y4 y5 y6 y7
   unfold thrumlaw10_QuantSteps.j2
   repeat' first
   | (with_reducible exact ih0 _ _ _ _ _ _ _)
   | (with_reducible exact ih1 _ _ _ _ _ _ _ _)
   | (with_reducible exact ih2 _ _ _ _ _ _ _ _)
   | (with_reducible exact ih3 _ _ _ _ _)
   | (with_reducible exact LeO.refl _)
   | (with_reducible exact LeO.none _)
   | (with_reducible refine LeO.ite ?_ ?_)
   | (with_reducible refine LeO.bind ?_ (fun _ => ?_))
   | exact ih0 _ _ _ _ _ _ _
   | exact ih1 _ _ _ _ _ _ _ _
   | exact ih2 _ _ _ _ _ _ _ _
   | exact ih3 _ _ _ _ _
   | exact LeO.none _
   | refine LeO.ite ?_ ?_
   | refine LeO.bind ?_ (fun _ => ?_)
  ·
   intro y0 y1 y2 y3 y4
   unfold thrumlaw10_QuantSteps.j3
   repeat' first
   | (with_reducible exact ih0 _ _ _ _ _ _ _)
   | (with_reducible exact ih1 _ _ _ _ _ _ _ _)
   | (with_reducible exact ih2 _ _ _ _ _ _ _ _)
   | (with_reducible exact ih3 _ _ _ _ _)
   | (with_reducible exact LeO.refl _)
   | (with_reducible exact LeO.none _)
   | (with_reducible refine LeO.ite ?_ ?_)
   | (with_reducible refine LeO.bind ?_ (fun _ => ?_))
   | exact ih0 _ _ _ _ _ _ _
   | exact ih1 _ _ _ _ _ _ _ _
   | exact ih2 _ _ _ _ _ _ _ _
   | exact ih3 _ _ _ _ _
   | exact LeO.none _
   | refine LeO.ite ?_ ?_
   | refine LeO.bind ?_ (fun _ => ?_)
theorem thrumlaw10_QuantSteps.mono : ∀ a0 a1 a2 a3 k, LeO (thrumlaw10_QuantSteps.f k a0 a1 a2 a3) (thrumlaw10_QuantSteps.f (k + 1) a0 a1 a2 a3) := by
 intro a0 a1 a2 a3 k
 obtain ⟨ih0, ih1, ih2, ih3⟩ := thrumlaw10_QuantSteps.mono_l k
 unfold thrumlaw10_QuantSteps.f
 repeat' first
   | (with_reducible exact ih0 _ _ _ _ _ _ _)
   | (with_reducible exact ih1 _ _ _ _ _ _ _ _)
   | (with_reducible exact ih2 _ _ _ _ _ _ _ _)
   | (with_reducible exact ih3 _ _ _ _ _)
   | (with_reducible exact LeO.refl _)
   | (with_reducible exact LeO.none _)
   | (with_reducible refine LeO.ite ?_ ?_)
   | (with_reducible refine LeO.bind ?_ (fun _ => ?_))
   | exact ih0 _ _ _ _ _ _ _
   | exact ih1 _ _ _ _ _ _ _ _
   | exact ih2 _ _ _ _ _ _ _ _
   | exact ih3 _ _ _ _ _
   | exact LeO.none _
   | refine LeO.ite ?_ ?_
   | refine LeO.bind ?_ (fun _ => ?_)
theorem thrumlaw10_QuantSteps.j0_not {k : Nat} {y0} {y1} {y2} {y3} {y4} {y5} (h : thrumlaw10_QuantSteps.j0 k y0 y1 y2 y3 y4 y5 true = some true) : False := by cases k <;> simp [thrumlaw10_QuantSteps.j0] at h
theorem thrumlaw10_QuantSteps.j1_not {k : Nat} {y0} {y1} {y2} {y3} {y4} {y5} {y6} (h : thrumlaw10_QuantSteps.j1 k y0 y1 y2 y3 y4 y5 y6 true = some true) : False := by cases k <;> simp [thrumlaw10_QuantSteps.j1] at h
theorem thrumlaw10_QuantSteps.j2_not {k : Nat} {y0} {y1} {y2} {y3} {y4} {y5} {y6} (h : thrumlaw10_QuantSteps.j2 k y0 y1 y2 y3 y4 y5 y6 true = some true) : False := by cases k <;> simp [thrumlaw10_QuantSteps.j2] at h
set_option maxHeartbeats 80000000 in
set_option maxRecDepth 100000 in
theorem thrumlaw10_QuantSteps.calls (k : Nat) (a0 : Int) (a1 : Int) (a2 : Int) (a3 : Int) (r : Bool) (w : World) (h : thrumlaw10_QuantSteps.f k a0 a1 a2 a3 = some r) (hr_ : r = true) :
  Calls Try.prog 10 #[.int .i64 a0, .int .i64 a1, .int .u64 a2, .int .i64 a3] w fun e w' => e = .returned (.bool r) ∧ Below w.heap.size w w' := by
 have HR_ := Aside0.mk hr_
 clear hr_
 have HB := Aside0.mk (Below.refl w.heap.size w)
 have H : ((thrumlaw10_live.f).bind fun t226 => (if t226 = true then ((quant_Steps.f (wrap64 (1 + (Int.tmod (wrap64 ((Int.tmod a3 8) + 8)) 8)))).bind fun bt227 => (if bt227.2 = 0 then (if 0 ≤ (wrap64 (1 + (Int.tmod (wrap64 ((Int.tmod a3 8) + 8)) 8))) then (thrumlaw10_QuantSteps.j0 k a0 (Go.bits .and .i64 a1 1125899906842623) a2 (wrap64 (1 + (Int.tmod (wrap64 ((Int.tmod a3 8) + 8)) 8))) t226 bt227.1 (bt227.1 != (IntKind.u64.wrap ((shl .u64 1 (wrap64 (1 + (Int.tmod (wrap64 ((Int.tmod a3 8) + 8)) 8)))) - 1)))) else (none)) else (thrumlaw10_QuantSteps.j0 k a0 (Go.bits .and .i64 a1 1125899906842623) a2 (wrap64 (1 + (Int.tmod (wrap64 ((Int.tmod a3 8) + 8)) 8))) t226 bt227.1 true))) else (some false))) = some r := h
 clear h
 replace H := Option.bind_eq_some_iff.mp H
 obtain ⟨t226, A50, H⟩ := H
 replace H : (if t226 = true then ((quant_Steps.f (wrap64 (1 + (Int.tmod (wrap64 ((Int.tmod a3 8) + 8)) 8)))).bind fun bt227 => (if bt227.2 = 0 then (if 0 ≤ (wrap64 (1 + (Int.tmod (wrap64 ((Int.tmod a3 8) + 8)) 8))) then (thrumlaw10_QuantSteps.j0 k a0 (Go.bits .and .i64 a1 1125899906842623) a2 (wrap64 (1 + (Int.tmod (wrap64 ((Int.tmod a3 8) + 8)) 8))) t226 bt227.1 (bt227.1 != (IntKind.u64.wrap ((shl .u64 1 (wrap64 (1 + (Int.tmod (wrap64 ((Int.tmod a3 8) + 8)) 8)))) - 1)))) else (none)) else (thrumlaw10_QuantSteps.j0 k a0 (Go.bits .and .i64 a1 1125899906842623) a2 (wrap64 (1 + (Int.tmod (wrap64 ((Int.tmod a3 8) + 8)) 8))) t226 bt227.1 true))) else (some false)) = some r := H
 have A5 := Aside0.mk A50
 clear A50
 by_cases c6 : t226 = true
 ·
  subst c6
  have H1 : ((quant_Steps.f (wrap64 (1 + (Int.tmod (wrap64 ((Int.tmod a3 8) + 8)) 8)))).bind fun bt227 => (if bt227.2 = 0 then (if 0 ≤ (wrap64 (1 + (Int.tmod (wrap64 ((Int.tmod a3 8) + 8)) 8))) then (thrumlaw10_QuantSteps.j0 k a0 (Go.bits .and .i64 a1 1125899906842623) a2 (wrap64 (1 + (Int.tmod (wrap64 ((Int.tmod a3 8) + 8)) 8))) true bt227.1 (bt227.1 != (IntKind.u64.wrap ((shl .u64 1 (wrap64 (1 + (Int.tmod (wrap64 ((Int.tmod a3 8) + 8)) 8)))) - 1)))) else (none)) else (thrumlaw10_QuantSteps.j0 k a0 (Go.bits .and .i64 a1 1125899906842623) a2 (wrap64 (1 + (Int.tmod (wrap64 ((Int.tmod a3 8) + 8)) 8))) true bt227.1 true))) = some r := by rw [if_pos rfl] at H; exact H
  clear H
  have H := H1
  clear H1
  replace H := Option.bind_eq_some_iff.mp H
  obtain ⟨⟨t227, t228⟩, A70, H⟩ := H
  replace H : (if t228 = 0 then (if 0 ≤ (wrap64 (1 + (Int.tmod (wrap64 ((Int.tmod a3 8) + 8)) 8))) then (thrumlaw10_QuantSteps.j0 k a0 (Go.bits .and .i64 a1 1125899906842623) a2 (wrap64 (1 + (Int.tmod (wrap64 ((Int.tmod a3 8) + 8)) 8))) true t227 (t227 != (IntKind.u64.wrap ((shl .u64 1 (wrap64 (1 + (Int.tmod (wrap64 ((Int.tmod a3 8) + 8)) 8)))) - 1)))) else (none)) else (thrumlaw10_QuantSteps.j0 k a0 (Go.bits .and .i64 a1 1125899906842623) a2 (wrap64 (1 + (Int.tmod (wrap64 ((Int.tmod a3 8) + 8)) 8))) true t227 true)) = some r := H
  have A7 := Aside0.mk A70
  clear A70
  have HC8 := Aside0.mk H
  clear H
  go_enter Try.func10, Try.ntmps10
  go_upto_region 7 with (first | ((with_reducible refine gate_callee (f := 44) rfl ?_); refine goesL_ (some 22) rfl rfl Try.func44 (by kernel_rfl) rfl #[] rfl (by (try simp only [List.map_toArray, List.map_cons, List.map_nil]); first | done | rfl | (simp only [List.length_drop, List.length_take]; rfl)) ?_; (with_reducible refine (thrumlaw10_live.calls  true _ A5.out).mono ?_); rintro e w9 ⟨rfl, hb⟩; refine ⟨_, rfl, ?_⟩; have n0_ := Aside0.mk (below_step (by repeat (first | (with_reducible first | exact HB.out | apply below_alloc | apply pw_below_drewN | apply below_drew1) | exact HB.out)) hb); clear HB; have HB := n0_; clear n0_; (try clear hb); (try clear hb2); (try clear hk); (try clear hi)) | ((with_reducible refine gate_callee (f := 51) rfl ?_); refine goesL_ (some 34) rfl rfl Try.func51 (by kernel_rfl) rfl #[.int .i64 (wrap64 (1 + (Int.tmod (wrap64 ((Int.tmod a3 8) + 8)) 8)))] rfl (by (try simp only [List.map_toArray, List.map_cons, List.map_nil]); first | done | rfl | (simp only [List.length_drop, List.length_take]; rfl)) ?_; (with_reducible refine (quant_Steps.calls (wrap64 (1 + (Int.tmod (wrap64 ((Int.tmod a3 8) + 8)) 8))) t227 t228 _ A7.out).mono ?_); rintro e w' ⟨rfl, ⟨nd, rfl⟩⟩; refine ⟨_, rfl, ?_⟩))
  (try simp only [Act.put, List.setIfInBounds_toArray, List.set_cons_zero, List.set_cons_succ])
  go_cut [45] (fun v45 wc => ∃ (kq : Nat) (x45_7 : Bool), v45 = .bool x45_7 ∧ Aside0 (thrumlaw10_QuantSteps.j0 kq a0 (Go.bits .and .i64 a1 1125899906842623) a2 (wrap64 (1 + (Int.tmod (wrap64 ((Int.tmod a3 8) + 8)) 8))) true t227 x45_7 = some r) ∧ Aside0 (kq ≤ k) ∧ Aside0 (Below w.heap.size w wc))
  case first =>
   have H := HC8.out
   clear HC8
   by_cases c10 : t228 = 0
   ·
    rw [if_pos c10] at H
    have c10b0 : (t228 == 0) = true := beq_iff_eq.mpr c10
    have c10b1 : (t228 != 0) = false := bne_eq_false_iff_eq.mpr c10
    clear c10
    (first | rw [c10b0] | (simp only [i64_w, i32_w]; rw [c10b0]) | skip)
    obtain ⟨ji11, hji11⟩ : ∃ j_ : Int, (wrap64 (1 + (Int.tmod (wrap64 ((Int.tmod a3 8) + 8)) 8))) = j_ := ⟨_, rfl⟩
    replace H : (if 0 ≤ (ji11) then (thrumlaw10_QuantSteps.j0 k a0 (Go.bits .and .i64 a1 1125899906842623) a2 ji11 true t227 (t227 != (IntKind.u64.wrap ((shl .u64 1 (ji11)) - 1)))) else (none)) = some r := by first | (rw [hji11] at H; exact H) | (simp only [hji11] at H ⊢; exact H)
    have hji11w : (IntKind.i64.wrap (1 + (Int.tmod (wrap64 ((Int.tmod a3 8) + 8)) 8))) = ji11 := (i64_w _).trans hji11
    by_cases c12 : 0 ≤ (ji11)
    ·
     rw [if_pos c12] at H
     have c12b0 := eq_true c12
     have c12b1 : decide (0 ≤ (ji11)) = true := decide_eq_true c12
     clear c12
     obtain ⟨ji13, hji13⟩ : ∃ j_ : Int, (shl .u64 1 (ji11)) = j_ := ⟨_, rfl⟩
     replace H : (thrumlaw10_QuantSteps.j0 k a0 (Go.bits .and .i64 a1 1125899906842623) a2 ji11 true t227 (t227 != (IntKind.u64.wrap ((ji13) - 1)))) = some r := by first | (rw [hji13] at H; exact H) | (simp only [hji13] at H ⊢; exact H)
     have hji13_ : (IntKind.u64.wrap (1 * 2 ^ min (ji11).toNat 64)) = ji13 := hji13
     have hji13z : (ji11) ≤ 64 → (IntKind.u64.wrap (1 * 2 ^ (ji11).toNat)) = ji13 := shl_small hji13
     have hji13u : (IntKind.u64.wrap (2 ^ min (ji11).toNat 64)) = ji13 := by have h_ := hji13_; rw [Int.one_mul] at h_; exact h_
     have hji13v : (ji11) ≤ 64 → (IntKind.u64.wrap (2 ^ (ji11).toNat)) = ji13 := fun hle_ => by have h_ := hji13z hle_; rw [Int.one_mul] at h_; exact h_
     have H' := Aside0.mk H
     clear H
     go_wp2
     go_meet
     case rel => exact ⟨_, ((t227 != (IntKind.u64.wrap ((ji13) - 1)))), (by first | rfl | (simp; done) | (simp only [← hji13] <;> (first | rfl | simp)) | (simp [*]; done)), ⟨by first | exact H'.out | (have h_ := H'.out; rw [← hji11] at h_; exact h_)⟩, ⟨by first | omega | exact Nat.le_refl _⟩, ⟨by repeat (first | (with_reducible first | exact HB.out | apply below_alloc | apply pw_below_drewN | apply below_drew1) | exact HB.out)⟩⟩
    ·
     rw [if_neg c12] at H
     exact absurd H (by simp)
   ·
    rw [if_neg c10] at H
    exact (thrumlaw10_QuantSteps.j0_not (H.trans (by rw [HR_.out]))).elim
  case rest =>
   clear HC8
   try clear c1
   try clear p2
   try clear c4
   try clear c5
   try clear c6
   try clear p6
   try clear c10
   try clear c10b0
   try clear c10b1
   try clear c12
   try clear c12b0
   try clear c12b1
   obtain ⟨kq, x45_7, rfl, HA, HJ7, HB⟩ := hcut
   cases kq with
   | zero => exact absurd HA.out (by simp [thrumlaw10_QuantSteps.j0])
   | succ kj7 =>
    have H := HA.out
    clear HA
    simp only [thrumlaw10_QuantSteps.j0] at H
    by_cases c14 : x45_7 = true
    ·
     subst c14
     have H1 : (some false) = some r := by rw [if_pos rfl] at H; exact H
     exact absurd (Option.some.inj H1) (by rw [HR_.out]; decide)
    ·
     replace c14 := Bool.eq_false_iff.mpr c14
     subst c14
     have H1 : (if (IntKind.u64.wrap (t227 + 1)) = 0 then (none) else ((quant_Value.f (Int.tmod a2 (IntKind.u64.wrap (t227 + 1))) (Go.bits .and .i64 a1 1125899906842623) (wrap64 (1 + (Int.tmod (wrap64 ((Int.tmod a3 8) + 8)) 8)))).bind fun bt229 => (if bt229.2 = 0 then (if bt229.1 < 0 then (thrumlaw10_QuantSteps.j1 kj7 a0 (Go.bits .and .i64 a1 1125899906842623) (Int.tmod a2 (IntKind.u64.wrap (t227 + 1))) (wrap64 (1 + (Int.tmod (wrap64 ((Int.tmod a3 8) + 8)) 8))) true t227 bt229.1 true) else (thrumlaw10_QuantSteps.j1 kj7 a0 (Go.bits .and .i64 a1 1125899906842623) (Int.tmod a2 (IntKind.u64.wrap (t227 + 1))) (wrap64 (1 + (Int.tmod (wrap64 ((Int.tmod a3 8) + 8)) 8))) true t227 bt229.1 (decide (bt229.1 > (Go.bits .and .i64 a1 1125899906842623))))) else (thrumlaw10_QuantSteps.j1 kj7 a0 (Go.bits .and .i64 a1 1125899906842623) (Int.tmod a2 (IntKind.u64.wrap (t227 + 1))) (wrap64 (1 + (Int.tmod (wrap64 ((Int.tmod a3 8) + 8)) 8))) true t227 bt229.1 true)))) = some r := by rw [if_neg (show ¬ (false = true) by decide)] at H; exact H
     clear H
     have H := H1
     clear H1
     by_cases c15 : (IntKind.u64.wrap (t227 + 1)) = 0
     ·
      rw [if_pos c15] at H
      exact absurd H (by simp)
     ·
      rw [if_neg c15] at H
      have c15b0 : ((IntKind.u64.wrap (t227 + 1)) == 0) = false := beq_eq_false_iff_ne.mpr c15
      have c15b1 : ((IntKind.u64.wrap (t227 + 1)) != 0) = true := bne_iff_ne.mpr c15
      replace H := Option.bind_eq_some_iff.mp H
      obtain ⟨⟨t229, t230⟩, A160, H⟩ := H
      replace H : (if t230 = 0 then (if t229 < 0 then (thrumlaw10_QuantSteps.j1 kj7 a0 (Go.bits .and .i64 a1 1125899906842623) (Int.tmod a2 (IntKind.u64.wrap (t227 + 1))) (wrap64 (1 + (Int.tmod (wrap64 ((Int.tmod a3 8) + 8)) 8))) true t227 t229 true) else (thrumlaw10_QuantSteps.j1 kj7 a0 (Go.bits .and .i64 a1 1125899906842623) (Int.tmod a2 (IntKind.u64.wrap (t227 + 1))) (wrap64 (1 + (Int.tmod (wrap64 ((Int.tmod a3 8) + 8)) 8))) true t227 t229 (decide (t229 > (Go.bits .and .i64 a1 1125899906842623))))) else (thrumlaw10_QuantSteps.j1 kj7 a0 (Go.bits .and .i64 a1 1125899906842623) (Int.tmod a2 (IntKind.u64.wrap (t227 + 1))) (wrap64 (1 + (Int.tmod (wrap64 ((Int.tmod a3 8) + 8)) 8))) true t227 t229 true)) = some r := H
      have A16 := Aside0.mk A160
      clear A160
      have HC17 := Aside0.mk H
      clear H
      go_upto_region 11 with (first | ((with_reducible refine gate_callee (f := 49) rfl ?_); refine goesL_ (some 54) rfl rfl Try.func49 (by kernel_rfl) rfl #[.int .u64 (Int.tmod a2 (IntKind.u64.wrap (t227 + 1))), .int .i64 (Go.bits .and .i64 a1 1125899906842623), .int .i64 (wrap64 (1 + (Int.tmod (wrap64 ((Int.tmod a3 8) + 8)) 8)))] rfl (by (try simp only [List.map_toArray, List.map_cons, List.map_nil]); first | done | rfl | (simp only [List.length_drop, List.length_take]; rfl)) ?_; (with_reducible refine (quant_Value.calls (Int.tmod a2 (IntKind.u64.wrap (t227 + 1))) (Go.bits .and .i64 a1 1125899906842623) (wrap64 (1 + (Int.tmod (wrap64 ((Int.tmod a3 8) + 8)) 8))) t229 t230 _ A16.out).mono ?_); rintro e w' ⟨rfl, ⟨nd, rfl⟩⟩; refine ⟨_, rfl, ?_⟩))
      (try simp only [Act.put, List.setIfInBounds_toArray, List.set_cons_zero, List.set_cons_succ])
      go_cut [67] (fun v67 wc => ∃ (kq : Nat) (x67_16 : Bool), v67 = .bool x67_16 ∧ Aside0 (thrumlaw10_QuantSteps.j1 kq a0 (Go.bits .and .i64 a1 1125899906842623) (Int.tmod a2 (IntKind.u64.wrap (t227 + 1))) (wrap64 (1 + (Int.tmod (wrap64 ((Int.tmod a3 8) + 8)) 8))) true t227 t229 x67_16 = some r) ∧ Aside0 (kq ≤ kj7) ∧ Aside0 (Below w.heap.size w wc))
      case first =>
       have H := HC17.out
       clear HC17
       by_cases c18 : t230 = 0
       ·
        rw [if_pos c18] at H
        have c18b0 : (t230 == 0) = true := beq_iff_eq.mpr c18
        have c18b1 : (t230 != 0) = false := bne_eq_false_iff_eq.mpr c18
        clear c18
        (first | rw [c18b0] | (simp only [i64_w, i32_w]; rw [c18b0]) | skip)
        by_cases c19 : t229 < 0
        ·
         rw [if_pos c19] at H
         exact (thrumlaw10_QuantSteps.j1_not (H.trans (by rw [HR_.out]))).elim
        ·
         rw [if_neg c19] at H
         have c19b0 : decide (t229 < 0) = false := decide_eq_false c19
         clear c19
         have H' := Aside0.mk H
         clear H
         go_wp2
         go_meet
         case rel => exact ⟨_, (decide (t229 > (Go.bits .and .i64 a1 1125899906842623))), (by first | rfl | (simp; done) | (simp [*]; done)), ⟨by first | exact H'.out | (have h_ := H'.out; rw [← hji11] at h_; exact h_)⟩, ⟨by have := HJ7.out; first | omega | exact Nat.le_refl _⟩, ⟨by repeat (first | (with_reducible first | exact HB.out | apply below_alloc | apply pw_below_drewN | apply below_drew1) | exact HB.out)⟩⟩
       ·
        rw [if_neg c18] at H
        exact (thrumlaw10_QuantSteps.j1_not (H.trans (by rw [HR_.out]))).elim
      case rest =>
       clear HC17
       try clear c1
       try clear p2
       try clear c4
       try clear c5
       try clear c6
       try clear p6
       try clear c10
       try clear c10b0
       try clear c10b1
       try clear c12
       try clear c12b0
       try clear c12b1
       try clear c14
       try clear c15
       try clear c15b0
       try clear c15b1
       try clear c18
       try clear c18b0
       try clear c18b1
       try clear c19
       try clear c19b0
       try clear p2
       try clear p6
       obtain ⟨kq, x67_16, rfl, HA, HJ16, HB⟩ := hcut
       cases kq with
       | zero => exact absurd HA.out (by simp [thrumlaw10_QuantSteps.j1])
       | succ kj16 =>
        have H := HA.out
        clear HA
        simp only [thrumlaw10_QuantSteps.j1] at H
        by_cases c20 : x67_16 = true
        ·
         subst c20
         have H1 : (some false) = some r := by rw [if_pos rfl] at H; exact H
         exact absurd (Option.some.inj H1) (by rw [HR_.out]; decide)
        ·
         replace c20 := Bool.eq_false_iff.mpr c20
         subst c20
         have H1 : ((quant_Level.f t229 (Go.bits .and .i64 a1 1125899906842623) (wrap64 (1 + (Int.tmod (wrap64 ((Int.tmod a3 8) + 8)) 8)))).bind fun bt231 => (if bt231.2.2 = 0 then (if bt231.1 > (Int.tmod a2 (IntKind.u64.wrap (t227 + 1))) then (thrumlaw10_QuantSteps.j2 kj16 a0 (Go.bits .and .i64 a1 1125899906842623) (Int.tmod a2 (IntKind.u64.wrap (t227 + 1))) (wrap64 (1 + (Int.tmod (wrap64 ((Int.tmod a3 8) + 8)) 8))) true t227 t229 true) else (if (Go.bits .and .i64 a1 1125899906842623) > (wrap64 (t227)) then (thrumlaw10_QuantSteps.j2 kj16 a0 (Go.bits .and .i64 a1 1125899906842623) (Int.tmod a2 (IntKind.u64.wrap (t227 + 1))) (wrap64 (1 + (Int.tmod (wrap64 ((Int.tmod a3 8) + 8)) 8))) true t227 t229 (decide ((IntKind.u64.wrap (bt231.1 + 1)) < (Int.tmod a2 (IntKind.u64.wrap (t227 + 1)))))) else (thrumlaw10_QuantSteps.j2 kj16 a0 (Go.bits .and .i64 a1 1125899906842623) (Int.tmod a2 (IntKind.u64.wrap (t227 + 1))) (wrap64 (1 + (Int.tmod (wrap64 ((Int.tmod a3 8) + 8)) 8))) true t227 t229 false))) else (thrumlaw10_QuantSteps.j2 kj16 a0 (Go.bits .and .i64 a1 1125899906842623) (Int.tmod a2 (IntKind.u64.wrap (t227 + 1))) (wrap64 (1 + (Int.tmod (wrap64 ((Int.tmod a3 8) + 8)) 8))) true t227 t229 true))) = some r := by rw [if_neg (show ¬ (false = true) by decide)] at H; exact H
         clear H
         have H := H1
         clear H1
         replace H := Option.bind_eq_some_iff.mp H
         obtain ⟨⟨t231, t232, t233⟩, A210, H⟩ := H
         replace H : (if t233 = 0 then (if t231 > (Int.tmod a2 (IntKind.u64.wrap (t227 + 1))) then (thrumlaw10_QuantSteps.j2 kj16 a0 (Go.bits .and .i64 a1 1125899906842623) (Int.tmod a2 (IntKind.u64.wrap (t227 + 1))) (wrap64 (1 + (Int.tmod (wrap64 ((Int.tmod a3 8) + 8)) 8))) true t227 t229 true) else (if (Go.bits .and .i64 a1 1125899906842623) > (wrap64 (t227)) then (thrumlaw10_QuantSteps.j2 kj16 a0 (Go.bits .and .i64 a1 1125899906842623) (Int.tmod a2 (IntKind.u64.wrap (t227 + 1))) (wrap64 (1 + (Int.tmod (wrap64 ((Int.tmod a3 8) + 8)) 8))) true t227 t229 (decide ((IntKind.u64.wrap (t231 + 1)) < (Int.tmod a2 (IntKind.u64.wrap (t227 + 1)))))) else (thrumlaw10_QuantSteps.j2 kj16 a0 (Go.bits .and .i64 a1 1125899906842623) (Int.tmod a2 (IntKind.u64.wrap (t227 + 1))) (wrap64 (1 + (Int.tmod (wrap64 ((Int.tmod a3 8) + 8)) 8))) true t227 t229 false))) else (thrumlaw10_QuantSteps.j2 kj16 a0 (Go.bits .and .i64 a1 1125899906842623) (Int.tmod a2 (IntKind.u64.wrap (t227 + 1))) (wrap64 (1 + (Int.tmod (wrap64 ((Int.tmod a3 8) + 8)) 8))) true t227 t229 true)) = some r := H
         have A21 := Aside0.mk A210
         clear A210
         have HC22 := Aside0.mk H
         clear H
         go_upto_region 14 with (first | ((with_reducible refine gate_callee (f := 47) rfl ?_); refine goesL_ (some 72) rfl rfl Try.func47 (by kernel_rfl) rfl #[.int .i64 t229, .int .i64 (Go.bits .and .i64 a1 1125899906842623), .int .i64 (wrap64 (1 + (Int.tmod (wrap64 ((Int.tmod a3 8) + 8)) 8)))] rfl (by (try simp only [List.map_toArray, List.map_cons, List.map_nil]); first | done | rfl | (simp only [List.length_drop, List.length_take]; rfl)) ?_; (with_reducible refine (quant_Level.calls t229 (Go.bits .and .i64 a1 1125899906842623) (wrap64 (1 + (Int.tmod (wrap64 ((Int.tmod a3 8) + 8)) 8))) t231 t232 t233 _ A21.out).mono ?_); rintro e w' ⟨rfl, ⟨nd, rfl⟩⟩; refine ⟨_, rfl, ?_⟩))
         (try simp only [Act.put, List.setIfInBounds_toArray, List.set_cons_zero, List.set_cons_succ])
         go_cut [94] (fun v94 wc => ∃ (kq : Nat) (x94_21 : Bool), v94 = .bool x94_21 ∧ Aside0 (thrumlaw10_QuantSteps.j2 kq a0 (Go.bits .and .i64 a1 1125899906842623) (Int.tmod a2 (IntKind.u64.wrap (t227 + 1))) (wrap64 (1 + (Int.tmod (wrap64 ((Int.tmod a3 8) + 8)) 8))) true t227 t229 x94_21 = some r) ∧ Aside0 (kq ≤ kj16) ∧ Aside0 (Below w.heap.size w wc))
         case first =>
          have H := HC22.out
          clear HC22
          by_cases c23 : t233 = 0
          ·
           rw [if_pos c23] at H
           have c23b0 : (t233 == 0) = true := beq_iff_eq.mpr c23
           have c23b1 : (t233 != 0) = false := bne_eq_false_iff_eq.mpr c23
           clear c23
           (first | rw [c23b0] | (simp only [i64_w, i32_w]; rw [c23b0]) | skip)
           by_cases c24 : t231 > (Int.tmod a2 (IntKind.u64.wrap (t227 + 1)))
           ·
            rw [if_pos c24] at H
            exact (thrumlaw10_QuantSteps.j2_not (H.trans (by rw [HR_.out]))).elim
           ·
            rw [if_neg c24] at H
            have c24b0 : decide ((Int.tmod a2 (IntKind.u64.wrap (t227 + 1))) < t231) = false := decide_eq_false c24
            clear c24
            by_cases c25 : (Go.bits .and .i64 a1 1125899906842623) > (wrap64 (t227))
            ·
             rw [if_pos c25] at H
             have c25b0 : decide ((wrap64 (t227)) < (Go.bits .and .i64 a1 1125899906842623)) = true := decide_eq_true c25
             clear c25
             have H' := Aside0.mk H
             clear H
             go_wp2
             go_meet
             case rel => exact ⟨_, (decide ((IntKind.u64.wrap (t231 + 1)) < (Int.tmod a2 (IntKind.u64.wrap (t227 + 1))))), (by first | rfl | (simp; done) | (simp [*]; done)), ⟨by first | exact H'.out | (have h_ := H'.out; rw [← hji11] at h_; exact h_)⟩, ⟨by have := HJ7.out; have := HJ16.out; first | omega | exact Nat.le_refl _⟩, ⟨by repeat (first | (with_reducible first | exact HB.out | apply below_alloc | apply pw_below_drewN | apply below_drew1) | exact HB.out)⟩⟩
            ·
             rw [if_neg c25] at H
             have c25b0 : decide ((wrap64 (t227)) < (Go.bits .and .i64 a1 1125899906842623)) = false := decide_eq_false c25
             clear c25
             have H' := Aside0.mk H
             clear H
             go_wp2
             go_meet
             case rel => exact ⟨_, (false), (by first | rfl | (simp; done) | (simp [*]; done)), ⟨by first | exact H'.out | (have h_ := H'.out; rw [← hji11] at h_; exact h_)⟩, ⟨by have := HJ7.out; have := HJ16.out; first | omega | exact Nat.le_refl _⟩, ⟨by repeat (first | (with_reducible first | exact HB.out | apply below_alloc | apply pw_below_drewN | apply below_drew1) | exact HB.out)⟩⟩
          ·
           rw [if_neg c23] at H
           exact (thrumlaw10_QuantSteps.j2_not (H.trans (by rw [HR_.out]))).elim
         case rest =>
          clear HC22
          try clear c1
          try clear c2
          try clear p2
          try clear c4
          try clear c5
          try clear c6
          try clear p6
          try clear c10
          try clear c10b0
          try clear c10b1
          try clear c12
          try clear c12b0
          try clear c12b1
          try clear c14
          try clear c15
          try clear c15b0
          try clear c15b1
          try clear c18
          try clear c18b0
          try clear c18b1
          try clear c19
          try clear c19b0
          try clear c20
          try clear c23
          try clear c23b0
          try clear c23b1
          try clear c24
          try clear c24b0
          try clear c25
          try clear c25b0
          try clear p2
          try clear p6
          obtain ⟨kq, x94_21, rfl, HA, HJ21, HB⟩ := hcut
          cases kq with
          | zero => exact absurd HA.out (by simp [thrumlaw10_QuantSteps.j2])
          | succ kj21 =>
           have H := HA.out
           clear HA
           simp only [thrumlaw10_QuantSteps.j2] at H
           by_cases c26 : x94_21 = true
           ·
            subst c26
            have H1 : (some false) = some r := by rw [if_pos rfl] at H; exact H
            exact absurd (Option.some.inj H1) (by rw [HR_.out]; decide)
           ·
            replace c26 := Bool.eq_false_iff.mpr c26
            subst c26
            have H1 : (if (Int.tmod a2 (IntKind.u64.wrap (t227 + 1))) < t227 then ((quant_Value.f (IntKind.u64.wrap ((Int.tmod a2 (IntKind.u64.wrap (t227 + 1))) + 1)) (Go.bits .and .i64 a1 1125899906842623) (wrap64 (1 + (Int.tmod (wrap64 ((Int.tmod a3 8) + 8)) 8)))).bind fun bt234 => (if bt234.2 = 0 then (if bt234.1 < t229 then (some false) else (thrumlaw10_QuantSteps.j3 kj21 a0 (Go.bits .and .i64 a1 1125899906842623) (wrap64 (1 + (Int.tmod (wrap64 ((Int.tmod a3 8) + 8)) 8))) true t227)) else (some false))) else (thrumlaw10_QuantSteps.j3 kj21 a0 (Go.bits .and .i64 a1 1125899906842623) (wrap64 (1 + (Int.tmod (wrap64 ((Int.tmod a3 8) + 8)) 8))) true t227)) = some r := by rw [if_neg (show ¬ (false = true) by decide)] at H; exact H
            clear H
            have H := H1
            clear H1
            have HC27 := Aside0.mk H
            clear H
            go_upto_if 97 with (fail)
            go_cut [] (fun wc => ∃ (kq : Nat), Aside0 (thrumlaw10_QuantSteps.j3 kq a0 (Go.bits .and .i64 a1 1125899906842623) (wrap64 (1 + (Int.tmod (wrap64 ((Int.tmod a3 8) + 8)) 8))) true t227 = some r) ∧ Aside0 (kq ≤ kj21) ∧ Aside0 (Below w.heap.size w wc))
            case first =>
             have H := HC27.out
             clear HC27
             by_cases c28 : (Int.tmod a2 (IntKind.u64.wrap (t227 + 1))) < t227
             ·
              rw [if_pos c28] at H
              have c28b0 : decide ((Int.tmod a2 (IntKind.u64.wrap (t227 + 1))) < t227) = true := decide_eq_true c28
              clear c28
              (first | rw [c28b0] | (simp only [i64_w, i32_w]; rw [c28b0]) | skip)
              replace H := Option.bind_eq_some_iff.mp H
              obtain ⟨⟨t234, t235⟩, A290, H⟩ := H
              replace H : (if t235 = 0 then (if t234 < t229 then (some false) else (thrumlaw10_QuantSteps.j3 kj21 a0 (Go.bits .and .i64 a1 1125899906842623) (wrap64 (1 + (Int.tmod (wrap64 ((Int.tmod a3 8) + 8)) 8))) true t227)) else (some false)) = some r := H
              have A29 := Aside0.mk A290
              clear A290
              by_cases c30 : t235 = 0
              ·
               rw [if_pos c30] at H
               have c30b0 : (t235 == 0) = true := beq_iff_eq.mpr c30
               have c30b1 : (t235 != 0) = false := bne_eq_false_iff_eq.mpr c30
               clear c30
               by_cases c31 : t234 < t229
               ·
                rw [if_pos c31] at H
                exact absurd (Option.some.inj H) (by rw [HR_.out]; decide)
               ·
                rw [if_neg c31] at H
                have c31b0 : decide (t234 < t229) = false := decide_eq_false c31
                clear c31
                have H' := Aside0.mk H
                clear H
                go_wp2_with (first | ((with_reducible refine gate_callee (f := 49) rfl ?_); refine goesL_ (some 103) rfl rfl Try.func49 (by kernel_rfl) rfl #[.int .u64 (IntKind.u64.wrap ((Int.tmod a2 (IntKind.u64.wrap (t227 + 1))) + 1)), .int .i64 (Go.bits .and .i64 a1 1125899906842623), .int .i64 (wrap64 (1 + (Int.tmod (wrap64 ((Int.tmod a3 8) + 8)) 8)))] rfl (by (try simp only [List.map_toArray, List.map_cons, List.map_nil]); first | done | rfl | (simp only [List.length_drop, List.length_take]; rfl)) ?_; (with_reducible refine (quant_Value.calls (IntKind.u64.wrap ((Int.tmod a2 (IntKind.u64.wrap (t227 + 1))) + 1)) (Go.bits .and .i64 a1 1125899906842623) (wrap64 (1 + (Int.tmod (wrap64 ((Int.tmod a3 8) + 8)) 8))) t234 t235 _ A29.out).mono ?_); rintro e w' ⟨rfl, ⟨nd, rfl⟩⟩; refine ⟨_, rfl, ?_⟩))
                go_meet
                case rel => exact ⟨_, H', ⟨by have := HJ7.out; have := HJ16.out; have := HJ21.out; first | omega | exact Nat.le_refl _⟩, ⟨by repeat (first | (with_reducible first | exact HB.out | apply below_alloc | apply pw_below_drewN | apply below_drew1) | exact HB.out)⟩⟩
              ·
               rw [if_neg c30] at H
               exact absurd (Option.some.inj H) (by rw [HR_.out]; decide)
             ·
              rw [if_neg c28] at H
              have c28b0 : decide ((Int.tmod a2 (IntKind.u64.wrap (t227 + 1))) < t227) = false := decide_eq_false c28
              clear c28
              (first | rw [c28b0] | (simp only [i64_w, i32_w]; rw [c28b0]) | skip)
              have H' := Aside0.mk H
              clear H
              go_wp2
              go_meet
              case rel => exact ⟨_, H', ⟨by have := HJ7.out; have := HJ16.out; have := HJ21.out; first | omega | exact Nat.le_refl _⟩, ⟨by repeat (first | (with_reducible first | exact HB.out | apply below_alloc | apply pw_below_drewN | apply below_drew1) | exact HB.out)⟩⟩
            case rest =>
             clear HC27
             try clear c1
             try clear c2
             try clear p2
             try clear c3
             try clear c4
             try clear c5
             try clear c6
             try clear p6
             try clear c10
             try clear c10b0
             try clear c10b1
             try clear c12
             try clear c12b0
             try clear c12b1
             try clear c14
             try clear c15
             try clear c15b0
             try clear c15b1
             try clear c18
             try clear c18b0
             try clear c18b1
             try clear c19
             try clear c19b0
             try clear c20
             try clear c23
             try clear c23b0
             try clear c23b1
             try clear c24
             try clear c24b0
             try clear c25
             try clear c25b0
             try clear c26
             try clear c28
             try clear c28b0
             try clear c30
             try clear c30b0
             try clear c30b1
             try clear c31
             try clear c31b0
             try clear p2
             try clear p6
             obtain ⟨kq, HA, HJ26, HB⟩ := hcut
             cases kq with
             | zero => exact absurd HA.out (by simp [thrumlaw10_QuantSteps.j3])
             | succ kj26 =>
              have H := HA.out
              clear HA
              simp only [thrumlaw10_QuantSteps.j3] at H
              by_cases c32 : (Go.bits .and .i64 a1 1125899906842623) = 0
              ·
               rw [if_pos c32] at H
               have c32b0 : ((Go.bits .and .i64 a1 1125899906842623) == 0) = true := beq_iff_eq.mpr c32
               have c32b1 : ((Go.bits .and .i64 a1 1125899906842623) != 0) = false := bne_eq_false_iff_eq.mpr c32
               clear c32
               obtain rfl := Option.some.inj H
               go_wp2
               go_ret
               exact ⟨by first | rfl | (simp [errW_none, errW_some] <;> rfl) | (simp [*, errW_none, errW_some] <;> rfl), by repeat (first | (with_reducible first | exact HB.out | apply below_alloc | apply pw_below_drewN | apply below_drew1) | exact HB.out)⟩
              ·
               rw [if_neg c32] at H
               have c32b0 : ((Go.bits .and .i64 a1 1125899906842623) == 0) = false := beq_eq_false_iff_ne.mpr c32
               have c32b1 : ((Go.bits .and .i64 a1 1125899906842623) != 0) = true := bne_iff_ne.mpr c32
               by_cases c33 : (wrap64 ((Go.bits .and .i64 a1 1125899906842623) + 1)) = 0
               ·
                rw [if_pos c33] at H
                exact absurd H (by simp)
               ·
                rw [if_neg c33] at H
                have c33b0 : ((wrap64 ((Go.bits .and .i64 a1 1125899906842623) + 1)) == 0) = false := beq_eq_false_iff_ne.mpr c33
                have c33b1 : ((wrap64 ((Go.bits .and .i64 a1 1125899906842623) + 1)) != 0) = true := bne_iff_ne.mpr c33
                replace H := Option.bind_eq_some_iff.mp H
                obtain ⟨⟨t236, t237, t238⟩, A340, H⟩ := H
                replace H : (if true = true then (if t238 = 0 then (if t237 < (IntKind.u64.wrap ((Go.bits .and .i64 a1 1125899906842623))) then ((thrumref09_Size.f (Int.tmod a0 (wrap64 ((Go.bits .and .i64 a1 1125899906842623) + 1)))).bind fun t239 => (some ((IntKind.u64.wrap ((IntKind.u64.wrap (t236 * (IntKind.u64.wrap ((Go.bits .and .i64 a1 1125899906842623))))) + t237)) == (IntKind.u64.wrap (t239 * t227))))) else (some false)) else (some false)) else (some false)) = some r := H
                have A34 := Aside0.mk A340
                clear A340
                first | rw [if_pos rfl] at H | rw [if_pos trivial] at H
                by_cases c35 : t238 = 0
                ·
                 rw [if_pos c35] at H
                 have c35b0 : (t238 == 0) = true := beq_iff_eq.mpr c35
                 have c35b1 : (t238 != 0) = false := bne_eq_false_iff_eq.mpr c35
                 clear c35
                 by_cases c36 : t237 < (IntKind.u64.wrap ((Go.bits .and .i64 a1 1125899906842623)))
                 ·
                  rw [if_pos c36] at H
                  have c36b0 : decide (t237 < (IntKind.u64.wrap ((Go.bits .and .i64 a1 1125899906842623)))) = true := decide_eq_true c36
                  clear c36
                  replace H := Option.bind_eq_some_iff.mp H
                  obtain ⟨t239, A370, H⟩ := H
                  replace H : (some ((IntKind.u64.wrap ((IntKind.u64.wrap (t236 * (IntKind.u64.wrap ((Go.bits .and .i64 a1 1125899906842623))))) + t237)) == (IntKind.u64.wrap (t239 * t227)))) = some r := H
                  have A37 := Aside0.mk A370
                  clear A370
                  obtain rfl := Option.some.inj H
                  go_wp2_with (first | ((with_reducible refine gate_callee (f := 47) rfl ?_); refine goesL_ (some 124) rfl rfl Try.func47 (by kernel_rfl) rfl #[.int .i64 (Int.tmod a0 (wrap64 ((Go.bits .and .i64 a1 1125899906842623) + 1))), .int .i64 (Go.bits .and .i64 a1 1125899906842623), .int .i64 (wrap64 (1 + (Int.tmod (wrap64 ((Int.tmod a3 8) + 8)) 8)))] rfl (by (try simp only [List.map_toArray, List.map_cons, List.map_nil]); first | done | rfl | (simp only [List.length_drop, List.length_take]; rfl)) ?_; (with_reducible refine (quant_Level.calls (Int.tmod a0 (wrap64 ((Go.bits .and .i64 a1 1125899906842623) + 1))) (Go.bits .and .i64 a1 1125899906842623) (wrap64 (1 + (Int.tmod (wrap64 ((Int.tmod a3 8) + 8)) 8))) t236 t237 t238 _ A34.out).mono ?_); rintro e w' ⟨rfl, ⟨nd, rfl⟩⟩; refine ⟨_, rfl, ?_⟩) | (go_at_call 53; (with_reducible refine (thrumref09_Size.calls (Int.tmod a0 (wrap64 ((Go.bits .and .i64 a1 1125899906842623) + 1))) t239 _ A37.out).mono ?_); rintro e w' ⟨rfl, ⟨nd, rfl⟩⟩))
                  go_ret
                  exact ⟨by first | rfl | (simp [errW_none, errW_some] <;> rfl) | (simp [*, errW_none, errW_some] <;> rfl), by repeat (first | (with_reducible first | exact HB.out | apply below_alloc | apply pw_below_drewN | apply below_drew1) | exact HB.out)⟩
                 ·
                  rw [if_neg c36] at H
                  exact absurd (Option.some.inj H) (by rw [HR_.out]; decide)
                ·
                 rw [if_neg c35] at H
                 exact absurd (Option.some.inj H) (by rw [HR_.out]; decide)
 ·
  replace c6 := Bool.eq_false_iff.mpr c6
  subst c6
  have H1 : (some false) = some r := by rw [if_neg (show ¬ (false = true) by decide)] at H; exact H
  exact absurd (Option.some.inj H1) (by rw [HR_.out]; decide)

/-- THE ONE PURE STATEMENT of thrumlaw10_QuantSteps: yours. -/
def thrumlaw10_QuantSteps.Pure : Prop := ∀ (a0 : Int) (a1 : Int) (a2 : Int) (a3 : Int), (Lit.int .i64 a0).wf = true → (Lit.int .i64 a1).wf = true → (Lit.int .u64 a2).wf = true → (Lit.int .i64 a3).wf = true → ∃ k, thrumlaw10_QuantSteps.f k a0 a1 a2 a3 = some true
theorem thrumlaw10_QuantSteps.walk (P : thrumlaw10_QuantSteps.Pure) (a0 : Int) (a1 : Int) (a2 : Int) (a3 : Int) (w : World) (w0 : (Lit.int .i64 a0).wf = true) (w1 : (Lit.int .i64 a1).wf = true) (w2 : (Lit.int .u64 a2).wf = true) (w3 : (Lit.int .i64 a3).wf = true) :
  Calls Try.prog 10 #[.int .i64 a0, .int .i64 a1, .int .u64 a2, .int .i64 a3] w fun e w' => e = .returned (.bool true) ∧ Below w.heap.size w w' := by
 obtain ⟨k, h⟩ := P a0 a1 a2 a3 w0 w1 w2 w3
 refine (thrumlaw10_QuantSteps.calls k a0 a1 a2 a3 true w h rfl).mono ?_
 rintro e w' ⟨rfl, hd⟩
 exact ⟨rfl, hd⟩



















































































































































































































































































































































































































































































































































end Go.Proofs.Ytkfhdpnfcaghbaa.HQ
