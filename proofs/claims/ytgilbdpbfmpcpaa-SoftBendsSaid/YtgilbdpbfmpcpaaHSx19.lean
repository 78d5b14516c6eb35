/- What Go functions do, each as a plain Lean function with the same answers, and the proof of it, in every world: printed by the session's driver over the kit's print, with texts by hand. -/
import Derived.Test.YtgilbdpbfmpcpaaHSx0
import Derived.Test.YtgilbdpbfmpcpaaHSx5
import Derived.Test.YtgilbdpbfmpcpaaHSx7
import Derived.Test.YtgilbdpbfmpcpaaHSx8
import Derived.Test.YtgilbdpbfmpcpaaHSx17
import Derived.Test.YtgilbdpbfmpcpaaHSx18
import Derived.Test.YtgilbdpbfmpcpaaMini
namespace Go.Proofs.Ytgilbdpbfmpcpaa.HS
open Go.RowKit Go.Proofs.YtgilbdpbfmpcpaaW.PrintWords Go.Proofs.YtgilbdpbfmpcpaaW.PrintLast Go.Proofs.YtgilbdpbfmpcpaaW.PrintMore
attribute [local go_sem] max2_int min2_int max_two min_two max_three min_three max_four min_four   -- for this text's walks alone
open Go.Proofs.Ytgilbdpbfmpcpaa.Sp
attribute [local go_sem] Go.Proofs.Ytgilbdpbfmpcpaa.Sp.u64_not
set_option linter.unusedVariables false
set_option linter.unusedSimpArgs false

/-! ### thrumlaw15_SoftBends: function 4 -/
def thrumlaw15_SoftBends.f (a0 : Int) (a1 : Int) (l2 : List Int) (a3 : Int) (l4 : List (S26)) : Option (Bool) := (thrumlaw15_live.f).bind fun t443 => (if t443 = true then ((thrumref14_Few.f l2 l4).bind fun t444 => (if t444 = true then (if ([] : List Int).length + l2.length < 17592186044416 then ((soft_Grad.f a1 l2 a3 l4).bind fun bt448 => ((thrumref15_Grad.f a1 l2 a3 l4).bind fun bt452 => ((soft_Right.f a1 l2 a3 l4).bind fun bt456 => ((thrumref15_Right.f a1 l2 a3 l4).bind fun bt458 => ((thrumref02_Same.f bt448.1 bt452.1).bind fun t460 => (if t460 = true then (if bt448.2 = bt452.2 then (if bt456.1 = bt458.1 then (if bt456.2 = bt458.2 then ((soft_Check.f a0 a1 l2 l4).bind fun t461 => ((thrumref15_Check.f a0 a1 l2 l4).bind fun t462 => (if t461 = t462 then ((thrumref02_Same.f l2 (([] : List Int) ++ l2)).bind fun t463 => (some t463)) else (some false)))) else (some false)) else (some false)) else (some false)) else (some false))))))) else (none)) else (some t443))) else (some false))
set_option maxHeartbeats 80000000 in
set_option maxRecDepth 100000 in
theorem thrumlaw15_SoftBends.calls (a0 : Int) (a1 : Int) (A2 : Option Addr) (c2 : Nat) (l2 : List Int) (a3 : Int) (A4 : Option Addr) (c4 : Nat) (l4 : List (S26)) (r : Bool) (w : World) (hr2 : Kd.C (Kd.int .i64) w A2 l2.length l2) (hc2 : l2.length ≤ c2) (hr4 : Kd.C k26 w A4 l4.length l4) (hc4 : l4.length ≤ c4) (h : thrumlaw15_SoftBends.f a0 a1 l2 a3 l4 = some r) (hr_ : r = true) :
  Calls Try.prog 4 #[.int .i64 a0, .int .i64 a1, .slice A2 l2.length c2, .int .i64 a3, .slice A4 l4.length c4] w fun e w' => e = .returned (.bool r) ∧ Below w.heap.size w w' := by
 have HR_ := ZM hr_
 clear hr_
 have HR2 := ZM hr2
 have HC2 := ZM hc2
 clear hr2 hc2
 have HR4 := ZM hr4
 have HC4 := ZM hc4
 clear hr4 hc4
 have HB := ZM (Below.refl w.heap.size w)
 have H : ((thrumlaw15_live.f).bind fun t443 => (if t443 = true then ((thrumref14_Few.f l2 l4).bind fun t444 => (if t444 = true then (if ([] : List Int).length + l2.length < 17592186044416 then ((soft_Grad.f a1 l2 a3 l4).bind fun bt448 => ((thrumref15_Grad.f a1 l2 a3 l4).bind fun bt452 => ((soft_Right.f a1 l2 a3 l4).bind fun bt456 => ((thrumref15_Right.f a1 l2 a3 l4).bind fun bt458 => ((thrumref02_Same.f bt448.1 bt452.1).bind fun t460 => (if t460 = true then (if bt448.2 = bt452.2 then (if bt456.1 = bt458.1 then (if bt456.2 = bt458.2 then ((soft_Check.f a0 a1 l2 l4).bind fun t461 => ((thrumref15_Check.f a0 a1 l2 l4).bind fun t462 => (if t461 = t462 then ((thrumref02_Same.f l2 (([] : List Int) ++ l2)).bind fun t463 => (some t463)) else (some false)))) else (some false)) else (some false)) else (some false)) else (some false))))))) else (none)) else (some t443))) else (some false))) = some r := h
 clear h
 replace H := Option.bind_eq_some_iff.mp H
 obtain ⟨t443, A60, H⟩ := H
 replace H : (if t443 = true then ((thrumref14_Few.f l2 l4).bind fun t444 => (if t444 = true then (if ([] : List Int).length + l2.length < 17592186044416 then ((soft_Grad.f a1 l2 a3 l4).bind fun bt448 => ((thrumref15_Grad.f a1 l2 a3 l4).bind fun bt452 => ((soft_Right.f a1 l2 a3 l4).bind fun bt456 => ((thrumref15_Right.f a1 l2 a3 l4).bind fun bt458 => ((thrumref02_Same.f bt448.1 bt452.1).bind fun t460 => (if t460 = true then (if bt448.2 = bt452.2 then (if bt456.1 = bt458.1 then (if bt456.2 = bt458.2 then ((soft_Check.f a0 a1 l2 l4).bind fun t461 => ((thrumref15_Check.f a0 a1 l2 l4).bind fun t462 => (if t461 = t462 then ((thrumref02_Same.f l2 (([] : List Int) ++ l2)).bind fun t463 => (some t463)) else (some false)))) else (some false)) else (some false)) else (some false)) else (some false))))))) else (none)) else (some t443))) else (some false)) = some r := H
 have A6 := ZM A60
 clear A60
 by_cases c7 : t443 = true
 case neg =>
  replace c7 := Bool.eq_false_iff.mpr c7
  subst c7
  have H1 : (some false) = some r := by rw [if_neg (show ¬ (false = true) by decide)] at H; exact H
  exact absurd (Option.some.inj H1) Z50
 subst c7
 have H1 : ((thrumref14_Few.f l2 l4).bind fun t444 => (if t444 = true then (if ([] : List Int).length + l2.length < 17592186044416 then ((soft_Grad.f a1 l2 a3 l4).bind fun bt448 => ((thrumref15_Grad.f a1 l2 a3 l4).bind fun bt452 => ((soft_Right.f a1 l2 a3 l4).bind fun bt456 => ((thrumref15_Right.f a1 l2 a3 l4).bind fun bt458 => ((thrumref02_Same.f bt448.1 bt452.1).bind fun t460 => (if t460 = true then (if bt448.2 = bt452.2 then (if bt456.1 = bt458.1 then (if bt456.2 = bt458.2 then ((soft_Check.f a0 a1 l2 l4).bind fun t461 => ((thrumref15_Check.f a0 a1 l2 l4).bind fun t462 => (if t461 = t462 then ((thrumref02_Same.f l2 (([] : List Int) ++ l2)).bind fun t463 => (some t463)) else (some false)))) else (some false)) else (some false)) else (some false)) else (some false))))))) else (none)) else (some true))) = some r := by rw [if_pos rfl] at H; exact H
 clear H
 have H := H1
 clear H1
 replace H := Option.bind_eq_some_iff.mp H
 obtain ⟨t444, A80, H⟩ := H
 replace H : (if t444 = true then (if ([] : List Int).length + l2.length < 17592186044416 then ((soft_Grad.f a1 l2 a3 l4).bind fun bt448 => ((thrumref15_Grad.f a1 l2 a3 l4).bind fun bt452 => ((soft_Right.f a1 l2 a3 l4).bind fun bt456 => ((thrumref15_Right.f a1 l2 a3 l4).bind fun bt458 => ((thrumref02_Same.f bt448.1 bt452.1).bind fun t460 => (if t460 = true then (if bt448.2 = bt452.2 then (if bt456.1 = bt458.1 then (if bt456.2 = bt458.2 then ((soft_Check.f a0 a1 l2 l4).bind fun t461 => ((thrumref15_Check.f a0 a1 l2 l4).bind fun t462 => (if t461 = t462 then ((thrumref02_Same.f l2 (([] : List Int) ++ l2)).bind fun t463 => (some t463)) else (some false)))) else (some false)) else (some false)) else (some false)) else (some false))))))) else (none)) else (some true)) = some r := H
 have A8 := ZM A80
 clear A80
 by_cases c9 : t444 = true
 case neg =>
  replace c9 := Bool.eq_false_iff.mpr c9
  subst c9
  have H1 : (some true) = some r := by rw [if_neg (show ¬ (false = true) by decide)] at H; exact H
  clear H
  have H := H1
  clear H1
  obtain rfl := Option.some.inj H
  go_enter Try.func4, Try.ntmps4
  go_wp2_with (first | ((with_reducible refine gate_callee (f := 5) rfl ?_); refine goesL_ (some 21) rfl rfl Try.func5 (by kernel_rfl) rfl #[] rfl Z2 ?_; (with_reducible refine (thrumlaw15_live.calls  true _ A6.out).mono ?_); rintro e w83 ⟨rfl, hb⟩; refine ⟨_, rfl, ?_⟩; replace HB := ZM (zzT Z1 hb); (try clear hb); (try clear hb2); (try clear hk); (try clear hi)) | ((with_reducible refine gate_callee (f := 6) rfl ?_); refine goesL_ (some 26) rfl rfl Try.func6 (by kernel_rfl) rfl #[.slice A2 l2.length c2, .slice A4 l4.length c4] rfl Z2 ?_; (with_reducible refine (thrumref14_Few.calls _ _ l2 _ _ l4 false _ ?side1 ?side2 ?side3 ?side4 A8.out).mono ?_); (case side1 => exact Z10); (case side2 => exact HC2.out); (case side3 => exact Z21); (case side4 => exact HC4.out); rintro e w84 ⟨rfl, hb⟩; refine ⟨_, rfl, ?_⟩; replace HB := ZM (zzT Z1 hb); (try clear hb); (try clear hb2); (try clear hk); (try clear hi)))
  go_ret
  exact ⟨by first | rfl | (simp [errW_none, errW_some] <;> rfl) | (simp [*, errW_none, errW_some] <;> rfl), by repeat (first | (with_reducible first | exact HB.out | apply zzA | apply zzN | apply zzD) | exact HB.out)⟩
 subst c9
 have H1 : (if ([] : List Int).length + l2.length < 17592186044416 then ((soft_Grad.f a1 l2 a3 l4).bind fun bt448 => ((thrumref15_Grad.f a1 l2 a3 l4).bind fun bt452 => ((soft_Right.f a1 l2 a3 l4).bind fun bt456 => ((thrumref15_Right.f a1 l2 a3 l4).bind fun bt458 => ((thrumref02_Same.f bt448.1 bt452.1).bind fun t460 => (if t460 = true then (if bt448.2 = bt452.2 then (if bt456.1 = bt458.1 then (if bt456.2 = bt458.2 then ((soft_Check.f a0 a1 l2 l4).bind fun t461 => ((thrumref15_Check.f a0 a1 l2 l4).bind fun t462 => (if t461 = t462 then ((thrumref02_Same.f l2 (([] : List Int) ++ l2)).bind fun t463 => (some t463)) else (some false)))) else (some false)) else (some false)) else (some false)) else (some false))))))) else (none)) = some r := by rw [if_pos rfl] at H; exact H
 clear H
 have H := H1
 clear H1
 by_cases c10 : ([] : List Int).length + l2.length < 17592186044416
 case neg =>
  rw [if_neg c10] at H
  exact absurd H (by simp)
 rw [if_pos c10] at H
 have LMc10 := ZM c10
 clear c10
 obtain ⟨y445, hy445⟩ : ∃ y_ : List Int, y_ = (([] : List Int) ++ l2) := ⟨_, rfl⟩
 replace H : ((soft_Grad.f a1 l2 a3 l4).bind fun bt448 => ((thrumref15_Grad.f a1 l2 a3 l4).bind fun bt452 => ((soft_Right.f a1 l2 a3 l4).bind fun bt456 => ((thrumref15_Right.f a1 l2 a3 l4).bind fun bt458 => ((thrumref02_Same.f bt448.1 bt452.1).bind fun t460 => (if t460 = true then (if bt448.2 = bt452.2 then (if bt456.1 = bt458.1 then (if bt456.2 = bt458.2 then ((soft_Check.f a0 a1 l2 l4).bind fun t461 => ((thrumref15_Check.f a0 a1 l2 l4).bind fun t462 => (if t461 = t462 then ((thrumref02_Same.f l2 y445).bind fun t463 => (some t463)) else (some false)))) else (some false)) else (some false)) else (some false)) else (some false))))))) = some r := by first | (rw [hy445]; with_reducible exact H) | (have H2_ := (Option.bind_some _ _).symm.trans H; rw [hy445]; with_reducible exact H2_) | (have H2_ := (Option.bind_some _ _).symm.trans H; with_reducible exact H2_) | with_reducible exact H | (rw [hy445]; exact H) | exact H
 have Ny445 := ZM hy445
 clear hy445
 replace H := Option.bind_eq_some_iff.mp H
 obtain ⟨⟨t448, t449⟩, A110, H⟩ := H
 replace H : ((thrumref15_Grad.f a1 l2 a3 l4).bind fun bt452 => ((soft_Right.f a1 l2 a3 l4).bind fun bt456 => ((thrumref15_Right.f a1 l2 a3 l4).bind fun bt458 => ((thrumref02_Same.f t448 bt452.1).bind fun t460 => (if t460 = true then (if t449 = bt452.2 then (if bt456.1 = bt458.1 then (if bt456.2 = bt458.2 then ((soft_Check.f a0 a1 l2 l4).bind fun t461 => ((thrumref15_Check.f a0 a1 l2 l4).bind fun t462 => (if t461 = t462 then ((thrumref02_Same.f l2 y445).bind fun t463 => (some t463)) else (some false)))) else (some false)) else (some false)) else (some false)) else (some false)))))) = some r := H
 have A11 := ZM A110
 clear A110
 replace H := Option.bind_eq_some_iff.mp H
 obtain ⟨⟨t452, t453⟩, A120, H⟩ := H
 replace H : ((soft_Right.f a1 l2 a3 l4).bind fun bt456 => ((thrumref15_Right.f a1 l2 a3 l4).bind fun bt458 => ((thrumref02_Same.f t448 t452).bind fun t460 => (if t460 = true then (if t449 = t453 then (if bt456.1 = bt458.1 then (if bt456.2 = bt458.2 then ((soft_Check.f a0 a1 l2 l4).bind fun t461 => ((thrumref15_Check.f a0 a1 l2 l4).bind fun t462 => (if t461 = t462 then ((thrumref02_Same.f l2 y445).bind fun t463 => (some t463)) else (some false)))) else (some false)) else (some false)) else (some false)) else (some false))))) = some r := H
 have A12 := ZM A120
 clear A120
 replace H := Option.bind_eq_some_iff.mp H
 obtain ⟨⟨t456, t457⟩, A130, H⟩ := H
 replace H : ((thrumref15_Right.f a1 l2 a3 l4).bind fun bt458 => ((thrumref02_Same.f t448 t452).bind fun t460 => (if t460 = true then (if t449 = t453 then (if t456 = bt458.1 then (if t457 = bt458.2 then ((soft_Check.f a0 a1 l2 l4).bind fun t461 => ((thrumref15_Check.f a0 a1 l2 l4).bind fun t462 => (if t461 = t462 then ((thrumref02_Same.f l2 y445).bind fun t463 => (some t463)) else (some false)))) else (some false)) else (some false)) else (some false)) else (some false)))) = some r := H
 have A13 := ZM A130
 clear A130
 replace H := Option.bind_eq_some_iff.mp H
 obtain ⟨⟨t458, t459⟩, A140, H⟩ := H
 replace H : ((thrumref02_Same.f t448 t452).bind fun t460 => (if t460 = true then (if t449 = t453 then (if t456 = t458 then (if t457 = t459 then ((soft_Check.f a0 a1 l2 l4).bind fun t461 => ((thrumref15_Check.f a0 a1 l2 l4).bind fun t462 => (if t461 = t462 then ((thrumref02_Same.f l2 y445).bind fun t463 => (some t463)) else (some false)))) else (some false)) else (some false)) else (some false)) else (some false))) = some r := H
 have A14 := ZM A140
 clear A140
 replace H := Option.bind_eq_some_iff.mp H
 obtain ⟨t460, A150, H⟩ := H
 replace H : (if t460 = true then (if t449 = t453 then (if t456 = t458 then (if t457 = t459 then ((soft_Check.f a0 a1 l2 l4).bind fun t461 => ((thrumref15_Check.f a0 a1 l2 l4).bind fun t462 => (if t461 = t462 then ((thrumref02_Same.f l2 y445).bind fun t463 => (some t463)) else (some false)))) else (some false)) else (some false)) else (some false)) else (some false)) = some r := H
 have A15 := ZM A150
 clear A150
 by_cases c16 : t460 = true
 case neg =>
  replace c16 := Bool.eq_false_iff.mpr c16
  subst c16
  have H1 : (some false) = some r := by rw [if_neg (show ¬ (false = true) by decide)] at H; exact H
  exact absurd (Option.some.inj H1) Z50
 subst c16
 have H1 : (if t449 = t453 then (if t456 = t458 then (if t457 = t459 then ((soft_Check.f a0 a1 l2 l4).bind fun t461 => ((thrumref15_Check.f a0 a1 l2 l4).bind fun t462 => (if t461 = t462 then ((thrumref02_Same.f l2 y445).bind fun t463 => (some t463)) else (some false)))) else (some false)) else (some false)) else (some false)) = some r := by rw [if_pos rfl] at H; exact H
 clear H
 have H := H1
 clear H1
 by_cases c17 : t449 = t453
 case neg =>
  rw [if_neg c17] at H
  exact absurd (Option.some.inj H) Z50
 rw [if_pos c17] at H
 have c17b0 : (t449 == t453) = true := beq_iff_eq.mpr c17
 have c17b1 : (t449 != t453) = false := bne_eq_false_iff_eq.mpr c17
 clear c17
 by_cases c18 : t456 = t458
 case neg =>
  rw [if_neg c18] at H
  exact absurd (Option.some.inj H) Z50
 rw [if_pos c18] at H
 have c18b0 : (t456 == t458) = true := beq_iff_eq.mpr c18
 have c18b1 : (t456 != t458) = false := bne_eq_false_iff_eq.mpr c18
 clear c18
 by_cases c19 : t457 = t459
 case neg =>
  rw [if_neg c19] at H
  exact absurd (Option.some.inj H) Z50
 rw [if_pos c19] at H
 have c19b0 : (t457 == t459) = true := beq_iff_eq.mpr c19
 have c19b1 : (t457 != t459) = false := bne_eq_false_iff_eq.mpr c19
 clear c19
 replace H := Option.bind_eq_some_iff.mp H
 obtain ⟨t461, A200, H⟩ := H
 replace H : ((thrumref15_Check.f a0 a1 l2 l4).bind fun t462 => (if t461 = t462 then ((thrumref02_Same.f l2 y445).bind fun t463 => (some t463)) else (some false))) = some r := H
 have A20 := ZM A200
 clear A200
 replace H := Option.bind_eq_some_iff.mp H
 obtain ⟨t462, A210, H⟩ := H
 replace H : (if t461 = t462 then ((thrumref02_Same.f l2 y445).bind fun t463 => (some t463)) else (some false)) = some r := H
 have A21 := ZM A210
 clear A210
 by_cases c22 : t461 = t462
 case neg =>
  rw [if_neg c22] at H
  exact absurd (Option.some.inj H) Z50
 rw [if_pos c22] at H
 have c22b0 : (t461 == t462) = true := beq_iff_eq.mpr c22
 have c22b1 : (t461 != t462) = false := bne_eq_false_iff_eq.mpr c22
 clear c22
 replace H := Option.bind_eq_some_iff.mp H
 obtain ⟨t463, A230, H⟩ := H
 replace H : (some t463) = some r := H
 have A23 := ZM A230
 clear A230
 obtain rfl := Option.some.inj H
 go_enter Try.func4, Try.ntmps4
 go_wp2_with (first | ((with_reducible refine gate_callee (f := 5) rfl ?_); refine goesL_ (some 21) rfl rfl Try.func5 (by kernel_rfl) rfl #[] rfl Z2 ?_; (with_reducible refine (thrumlaw15_live.calls  true _ A6.out).mono ?_); rintro e w24 ⟨rfl, hb⟩; refine ⟨_, rfl, ?_⟩; replace HB := ZM (zzT Z1 hb); (try clear hb); (try clear hb2); (try clear hk); (try clear hi)) | ((with_reducible refine gate_callee (f := 6) rfl ?_); refine goesL_ (some 26) rfl rfl Try.func6 (by kernel_rfl) rfl #[.slice A2 l2.length c2, .slice A4 l4.length c4] rfl Z2 ?_; (with_reducible refine (thrumref14_Few.calls _ _ l2 _ _ l4 true _ ?side1 ?side2 ?side3 ?side4 A8.out).mono ?_); (case side1 => exact Z10); (case side2 => exact HC2.out); (case side3 => exact Z21); (case side4 => exact HC4.out); rintro e w25 ⟨rfl, hb⟩; refine ⟨_, rfl, ?_⟩; replace HB := ZM (zzT Z1 hb); (try clear hb); (try clear hb2); (try clear hk); (try clear hi)) | ((with_reducible refine gate_builtin (b := .append) (xs := #[.const (.slice none 0 0), .tmp 29]) rfl ?_); at_builtin; refine Kd.R_append_rows (Kd.int .i64) (w0 := w) w.heap.size rfl (.const (.slice none 0 0)) (.tmp 29) 22 2 (.int .i64 0) 8 rfl Try.underlying22 info2 rfl (by decide) (by omega) (.slice none 0 0) ([] : List Int) l2 _ _ _ (fun _ => True) (fun _ => False) rfl rfl ?aO ?aR (fun _ _ h => h) (fun _ h => h.elim) ?aF ?aB ?aS ?aL ?_; (case aR => exact Z10); (case aB => exact Z1); (case aF => exact (fun _ _ => trivial)); (case aO => exact ((Kd.R_nil _ _ _ _ (fun _ => True)))); (case aS => exact (zzS Z1)); (case aL => have := LMc10.out; omega); intro v446 w26 ho hb hg hat; rw [← Ny445.out] at ho; have HO447 := ZM (ho); replace HB := ZM (hb); clear ho hb hg hat) | ((with_reducible refine gate_callee (f := 9) rfl ?_); refine goesL_ (some 36) rfl rfl Try.func9 (by kernel_rfl) rfl #[.int .i64 a1, .slice A2 l2.length c2, .int .i64 a3, .slice A4 l4.length c4] rfl Z2 ?_; (with_reducible refine (soft_Grad.calls a1 _ _ l2 a3 _ _ l4 t448 t449 _ ?side1 ?side2 ?side3 ?side4 A11.out).mono ?_); (case side1 => exact Z10); (case side2 => exact HC2.out); (case side3 => exact Z21); (case side4 => exact HC4.out); rintro e w27 ⟨v450, rfl, ho0, hb⟩; refine ⟨_, rfl, ?_⟩; have n0_ := ZM (Kd.R_elder' (Zr HO447) (Kd.R_base ho0) hb); have n1_ := ZM (Kd.R_lower (Kd.R_new' ho0 (Kd.R_lt (Zr HO447))) (zzS Z1)); have n2_ := ZM (zzT Z1 hb); clear HO447; clear HB; have HO447 := n0_; have HO451 := n1_; have HB := n2_; clear n0_ n1_ n2_; (try clear hb); (try clear hb2); (try clear hk); (try clear hi); (try clear ho0)) | ((with_reducible refine gate_callee (f := 10) rfl ?_); refine goesL_ (some 44) rfl rfl Try.func10 (by kernel_rfl) rfl #[.int .i64 a1, .slice A2 l2.length c2, .int .i64 a3, .slice A4 l4.length c4] rfl Z2 ?_; (with_reducible refine (thrumref15_Grad.calls a1 _ _ l2 a3 _ _ l4 t452 t453 _ ?side1 ?side2 ?side3 ?side4 A12.out).mono ?_); (case side1 => exact Z10); (case side2 => exact HC2.out); (case side3 => exact Z21); (case side4 => exact HC4.out); rintro e w28 ⟨v454, rfl, ho0, hb⟩; refine ⟨_, rfl, ?_⟩; have n0_ := ZM (Kd.R_elder' (Zr HO447) (Kd.R_base ho0) hb); have n1_ := ZM (Kd.R_elder' (Zr HO451) (Kd.R_base ho0) hb); have n2_ := ZM (Kd.R_lower (Kd.R_new' (Kd.R_new' ho0 (Kd.R_lt (Zr HO447))) (Kd.R_lt (Zr HO451))) (zzS Z1)); have n3_ := ZM (zzT Z1 hb); clear HO447; clear HO451; clear HB; have HO447 := n0_; have HO451 := n1_; have HO455 := n2_; have HB := n3_; clear n0_ n1_ n2_ n3_; (try clear hb); (try clear hb2); (try clear hk); (try clear hi); (try clear ho0)) | ((with_reducible refine gate_callee (f := 11) rfl ?_); refine goesL_ (some 52) rfl rfl Try.func11 (by kernel_rfl) rfl #[.int .i64 a1, .slice A2 l2.length c2, .int .i64 a3, .slice A4 l4.length c4] rfl Z2 ?_; (with_reducible refine (soft_Right.calls a1 _ _ l2 a3 _ _ l4 t456 t457 _ ?side1 ?side2 ?side3 ?side4 A13.out).mono ?_); (case side1 => exact Z10); (case side2 => exact HC2.out); (case side3 => exact Z21); (case side4 => exact HC4.out); rintro e w29 ⟨rfl, hb⟩; refine ⟨_, rfl, ?_⟩; replace HO447 := ZM (Kd.R_below (Zr HO447) hb); replace HO451 := ZM (Kd.R_below (Zr HO451) hb); replace HO455 := ZM (Kd.R_below (Zr HO455) hb); replace HB := ZM (zzT Z1 hb); (try clear hb); (try clear hb2); (try clear hk); (try clear hi)) | ((with_reducible refine gate_callee (f := 12) rfl ?_); refine goesL_ (some 60) rfl rfl Try.func12 (by kernel_rfl) rfl #[.int .i64 a1, .slice A2 l2.length c2, .int .i64 a3, .slice A4 l4.length c4] rfl Z2 ?_; (with_reducible refine (thrumref15_Right.calls a1 _ _ l2 a3 _ _ l4 t458 t459 _ ?side1 ?side2 ?side3 ?side4 A14.out).mono ?_); (case side1 => exact Z10); (case side2 => exact HC2.out); (case side3 => exact Z21); (case side4 => exact HC4.out); rintro e w30 ⟨rfl, hb⟩; refine ⟨_, rfl, ?_⟩; replace HO447 := ZM (Kd.R_below (Zr HO447) hb); replace HO451 := ZM (Kd.R_below (Zr HO451) hb); replace HO455 := ZM (Kd.R_below (Zr HO455) hb); replace HB := ZM (zzT Z1 hb); (try clear hb); (try clear hb2); (try clear hk); (try clear hi); obtain ⟨Ao31, co31, eo31⟩ := Kd.R_slice HO451.out; subst eo31; obtain ⟨Ao32, co32, eo32⟩ := Kd.R_slice HO455.out; subst eo32) | (go_at_call 13; (with_reducible refine (thrumref02_Same.calls _ _ t448 _ _ t452 true _ ?side1 ?side2 ?side3 ?side4 A15.out).mono ?_); (case side1 => repeat (first | exact (Kd.R_reads' HO451.out).2.2 | (with_reducible refine ccA ?_ _) | (with_reducible refine ccN ?_ _) | (with_reducible refine ccD ?_))); (case side2 => exact (Kd.R_reads' HO451.out).2.1); (case side3 => repeat (first | exact (Kd.R_reads' HO455.out).2.2 | (with_reducible refine ccA ?_ _) | (with_reducible refine ccN ?_ _) | (with_reducible refine ccD ?_))); (case side4 => exact (Kd.R_reads' HO455.out).2.1); rintro e w' ⟨rfl, ⟨nd, rfl⟩⟩) | (go_at_call 14; (with_reducible refine (soft_Check.calls a0 a1 _ _ l2 _ _ l4 t461 _ ?side1 ?side2 ?side3 ?side4 A20.out).mono ?_); (case side1 => repeat (first | exact (Kd.C_below HR2.out Z1) | (with_reducible refine ccA ?_ _) | (with_reducible refine ccN ?_ _) | (with_reducible refine ccD ?_))); (case side2 => exact HC2.out); (case side3 => repeat (first | exact (Kd.C_below HR4.out Z1) | (with_reducible refine ccA ?_ _) | (with_reducible refine ccN ?_ _) | (with_reducible refine ccD ?_))); (case side4 => exact HC4.out); rintro e w33 ⟨rfl, hb⟩; replace HO447 := ZM (Kd.R_below (Zr HO447) hb); replace HO451 := ZM (Kd.R_below (Zr HO451) hb); replace HO455 := ZM (Kd.R_below (Zr HO455) hb); replace HB := ZM (zzT Z1 hb); (try clear hb); (try clear hb2); (try clear hk); (try clear hi)) | (go_at_call 15; (with_reducible refine (thrumref15_Check.calls a0 a1 _ _ l2 _ _ l4 t462 _ ?side1 ?side2 ?side3 ?side4 A21.out).mono ?_); (case side1 => exact Z10); (case side2 => exact HC2.out); (case side3 => exact Z21); (case side4 => exact HC4.out); rintro e w34 ⟨rfl, hb⟩; replace HO447 := ZM (Kd.R_below (Zr HO447) hb); replace HO451 := ZM (Kd.R_below (Zr HO451) hb); replace HO455 := ZM (Kd.R_below (Zr HO455) hb); replace HB := ZM (zzT Z1 hb); (try clear hb); (try clear hb2); (try clear hk); (try clear hi); obtain ⟨Ao35, co35, eo35⟩ := Kd.R_slice HO447.out; subst eo35) | (go_at_call 13; (with_reducible refine (thrumref02_Same.calls _ _ l2 _ _ y445 t463 _ ?side1 ?side2 ?side3 ?side4 A23.out).mono ?_); (case side1 => exact Z10); (case side2 => exact HC2.out); (case side3 => repeat (first | exact (Kd.R_reads' HO447.out).2.2 | (with_reducible refine ccA ?_ _) | (with_reducible refine ccN ?_ _) | (with_reducible refine ccD ?_))); (case side4 => exact (Kd.R_reads' HO447.out).2.1); rintro e w' ⟨rfl, ⟨nd, rfl⟩⟩))
 go_ret
 exact ⟨by first | rfl | (simp [errW_none, errW_some] <;> rfl) | (simp [*, errW_none, errW_some] <;> rfl), by repeat (first | (with_reducible first | exact HB.out | apply zzA | apply zzN | apply zzD) | exact HB.out)⟩
/-- THE ONE PURE STATEMENT of thrumlaw15_SoftBends: yours. -/
def thrumlaw15_SoftBends.Pure : Prop := ∀ (a0 : Int) (a1 : Int) (l2 : List Int) (a3 : Int) (l4 : List (S26)), (Lit.int .i64 a0).wf = true → (Lit.int .i64 a1).wf = true → l2.length ≤ maxLen → l2.length * 8 ≤ 140737488351232 → (∀ x ∈ l2, (Lit.int .i64 x).wf = true) → (Lit.int .i64 a3).wf = true → (l4.length ≤ maxLen ∧ ∀ x__ ∈ l4, ((x__.f0.length ≤ maxLen ∧ ∀ x2__ ∈ x__.f0, (Lit.int .i64 x2__).wf = true) ∧ (Lit.int .i64 x__.f1).wf = true ∧ True)) → thrumlaw15_SoftBends.f a0 a1 l2 a3 l4 = some true
theorem thrumlaw15_SoftBends.walk (P : thrumlaw15_SoftBends.Pure) (a0 : Int) (a1 : Int) (a2 : Option Addr) (len2 cap2 : Nat) (z2 : List Int) (a3 : Int) (A4 : Option Addr) (c4 : Nat) (l4 : List (S26)) (w : World) (w0 : (Lit.int .i64 a0).wf = true) (w1 : (Lit.int .i64 a1).wf = true) (w2 : (a2 = none ∧ len2 = 0 ∧ cap2 = 0 ∧ z2 = []) ∨ ∃ x, a2 = some x ∧ len2 ≤ cap2 ∧ cap2 ≤ maxLen ∧ z2.length = cap2 ∧ (∀ i, i < z2.length → w.cell? (x.add i) = some (.int .i64 (z2.getD i 0))) ∧ ∀ n ∈ z2, (Lit.int .i64 n).wf = true) (y2 : len2 * 8 ≤ 140737488351232) (w3 : (Lit.int .i64 a3).wf = true) (hr4 : Kd.C k26 w A4 l4.length l4) (hc4 : l4.length ≤ c4) (hg4 : (l4.length ≤ maxLen ∧ ∀ x__ ∈ l4, ((x__.f0.length ≤ maxLen ∧ ∀ x2__ ∈ x__.f0, (Lit.int .i64 x2__).wf = true) ∧ (Lit.int .i64 x__.f1).wf = true ∧ True))) :
  Calls Try.prog 4 #[.int .i64 a0, .int .i64 a1, .slice a2 len2 cap2, .int .i64 a3, .slice A4 l4.length c4] w fun e w' => e = .returned (.bool true) ∧ Below w.heap.size w w' := by
 obtain ⟨l2, rfl, hr2, hm2, hw2, hc2⟩ := ReadsInt.ofRowC w2
 have h := P a0 a1 l2 a3 l4 w0 w1 hm2 y2 hw2 w3 hg4
 refine (thrumlaw15_SoftBends.calls a0 a1 _ _ l2 a3 _ _ l4 true w (Kd.C_of_reads (d := (0 : Int)) (h1 := fun _ => rfl) hr2) hc2 hr4 hc4 h rfl).mono ?_
 rintro e w' ⟨rfl, hd⟩
 exact ⟨rfl, hd⟩























































































































































































































































































































































































































































































































































































































































































































































































































































































































































































































































































































































end Go.Proofs.Ytgilbdpbfmpcpaa.HS
