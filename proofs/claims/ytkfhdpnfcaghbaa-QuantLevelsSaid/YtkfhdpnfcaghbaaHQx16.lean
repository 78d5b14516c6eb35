/- What Go functions do, each as a plain Lean function with the same answers, and the proof of it, in every world: printed by the session's driver over the kit's print, with texts by hand. -/
import Derived.Test.YtkfhdpnfcaghbaaHQx0
import Derived.Test.YtkfhdpnfcaghbaaHQx1
import Derived.Test.YtkfhdpnfcaghbaaHQx3
import Derived.Test.YtkfhdpnfcaghbaaHQx13
import Derived.Test.YtkfhdpnfcaghbaaHQx14
import Derived.Test.YtkfhdpnfcaghbaaHQx15
namespace Go.Proofs.Ytkfhdpnfcaghbaa.HQ
open Go.RowKit Go.Proofs.YtkfhdpnfcaghbaaW.PrintWords Go.Proofs.YtkfhdpnfcaghbaaW.PrintLast Go.Proofs.YtkfhdpnfcaghbaaW.PrintMore
attribute [local go_sem] max2_int min2_int max_two min_two max_three min_three max_four min_four   -- for this text's walks alone
open Go.Proofs.Ytkfhdpnfcaghbaa.Sp
attribute [local go_sem] Go.Proofs.Ytkfhdpnfcaghbaa.Sp.u64_not
set_option linter.unusedVariables false
set_option linter.unusedSimpArgs false

/-! ### thrumlaw10_QuantLevels: function 9 -/
def thrumlaw10_QuantLevels.f (a0 : Int) (a1 : Int) (a2 : Int) (a3 : Int) : Option (Bool) := (thrumlaw10_live.f).bind fun t211 => (if t211 = true then ((quant_Level.f a0 a1 a3).bind fun bt212 => ((thrumref10_Level.f a0 a1 a3).bind fun bt215 => ((quant_Value.f a2 a1 a3).bind fun bt218 => ((thrumref10_Value.f a2 a1 a3).bind fun bt220 => ((quant_Steps.f a3).bind fun bt222 => ((thrumref10_Steps.f a3).bind fun bt224 => (if bt212.1 = bt215.1 then (if bt212.2.1 = bt215.2.1 then (if bt212.2.2 = bt215.2.2 then (if bt218.1 = bt220.1 then (if bt218.2 = bt220.2 then (if bt222.1 = bt224.1 then (some (bt222.2 == bt224.2)) else (some false)) else (some false)) else (some false)) else (some false)) else (some false)) else (some false)))))))) else (some false))
set_option maxHeartbeats 80000000 in
set_option maxRecDepth 100000 in
theorem thrumlaw10_QuantLevels.calls (a0 : Int) (a1 : Int) (a2 : Int) (a3 : Int) (r : Bool) (w : World) (h : thrumlaw10_QuantLevels.f a0 a1 a2 a3 = some r) (hr_ : r = true) :
  Calls Try.prog 9 #[.int .i64 a0, .int .i64 a1, .int .u64 a2, .int .i64 a3] w fun e w' => e = .returned (.bool r) ∧ Below w.heap.size w w' := by
 have HR_ := Aside0.mk hr_
 clear hr_
 have HB := Aside0.mk (Below.refl w.heap.size w)
 have H : ((thrumlaw10_live.f).bind fun t211 => (if t211 = true then ((quant_Level.f a0 a1 a3).bind fun bt212 => ((thrumref10_Level.f a0 a1 a3).bind fun bt215 => ((quant_Value.f a2 a1 a3).bind fun bt218 => ((thrumref10_Value.f a2 a1 a3).bind fun bt220 => ((quant_Steps.f a3).bind fun bt222 => ((thrumref10_Steps.f a3).bind fun bt224 => (if bt212.1 = bt215.1 then (if bt212.2.1 = bt215.2.1 then (if bt212.2.2 = bt215.2.2 then (if bt218.1 = bt220.1 then (if bt218.2 = bt220.2 then (if bt222.1 = bt224.1 then (some (bt222.2 == bt224.2)) else (some false)) else (some false)) else (some false)) else (some false)) else (some false)) else (some false)))))))) else (some false))) = some r := h
 clear h
 replace H := Option.bind_eq_some_iff.mp H
 obtain ⟨t211, A50, H⟩ := H
 replace H : (if t211 = true then ((quant_Level.f a0 a1 a3).bind fun bt212 => ((thrumref10_Level.f a0 a1 a3).bind fun bt215 => ((quant_Value.f a2 a1 a3).bind fun bt218 => ((thrumref10_Value.f a2 a1 a3).bind fun bt220 => ((quant_Steps.f a3).bind fun bt222 => ((thrumref10_Steps.f a3).bind fun bt224 => (if bt212.1 = bt215.1 then (if bt212.2.1 = bt215.2.1 then (if bt212.2.2 = bt215.2.2 then (if bt218.1 = bt220.1 then (if bt218.2 = bt220.2 then (if bt222.1 = bt224.1 then (some (bt222.2 == bt224.2)) else (some false)) else (some false)) else (some false)) else (some false)) else (some false)) else (some false)))))))) else (some false)) = some r := H
 have A5 := Aside0.mk A50
 clear A50
 by_cases c6 : t211 = true
 ·
  subst c6
  have H1 : ((quant_Level.f a0 a1 a3).bind fun bt212 => ((thrumref10_Level.f a0 a1 a3).bind fun bt215 => ((quant_Value.f a2 a1 a3).bind fun bt218 => ((thrumref10_Value.f a2 a1 a3).bind fun bt220 => ((quant_Steps.f a3).bind fun bt222 => ((thrumref10_Steps.f a3).bind fun bt224 => (if bt212.1 = bt215.1 then (if bt212.2.1 = bt215.2.1 then (if bt212.2.2 = bt215.2.2 then (if bt218.1 = bt220.1 then (if bt218.2 = bt220.2 then (if bt222.1 = bt224.1 then (some (bt222.2 == bt224.2)) else (some false)) else (some false)) else (some false)) else (some false)) else (some false)) else (some false)))))))) = some r := by rw [if_pos rfl] at H; exact H
  clear H
  have H := H1
  clear H1
  replace H := Option.bind_eq_some_iff.mp H
  obtain ⟨⟨t212, t213, t214⟩, A70, H⟩ := H
  replace H : ((thrumref10_Level.f a0 a1 a3).bind fun bt215 => ((quant_Value.f a2 a1 a3).bind fun bt218 => ((thrumref10_Value.f a2 a1 a3).bind fun bt220 => ((quant_Steps.f a3).bind fun bt222 => ((thrumref10_Steps.f a3).bind fun bt224 => (if t212 = bt215.1 then (if t213 = bt215.2.1 then (if t214 = bt215.2.2 then (if bt218.1 = bt220.1 then (if bt218.2 = bt220.2 then (if bt222.1 = bt224.1 then (some (bt222.2 == bt224.2)) else (some false)) else (some false)) else (some false)) else (some false)) else (some false)) else (some false))))))) = some r := H
  have A7 := Aside0.mk A70
  clear A70
  replace H := Option.bind_eq_some_iff.mp H
  obtain ⟨⟨t215, t216, t217⟩, A80, H⟩ := H
  replace H : ((quant_Value.f a2 a1 a3).bind fun bt218 => ((thrumref10_Value.f a2 a1 a3).bind fun bt220 => ((quant_Steps.f a3).bind fun bt222 => ((thrumref10_Steps.f a3).bind fun bt224 => (if t212 = t215 then (if t213 = t216 then (if t214 = t217 then (if bt218.1 = bt220.1 then (if bt218.2 = bt220.2 then (if bt222.1 = bt224.1 then (some (bt222.2 == bt224.2)) else (some false)) else (some false)) else (some false)) else (some false)) else (some false)) else (some false)))))) = some r := H
  have A8 := Aside0.mk A80
  clear A80
  replace H := Option.bind_eq_some_iff.mp H
  obtain ⟨⟨t218, t219⟩, A90, H⟩ := H
  replace H : ((thrumref10_Value.f a2 a1 a3).bind fun bt220 => ((quant_Steps.f a3).bind fun bt222 => ((thrumref10_Steps.f a3).bind fun bt224 => (if t212 = t215 then (if t213 = t216 then (if t214 = t217 then (if t218 = bt220.1 then (if t219 = bt220.2 then (if bt222.1 = bt224.1 then (some (bt222.2 == bt224.2)) else (some false)) else (some false)) else (some false)) else (some false)) else (some false)) else (some false))))) = some r := H
  have A9 := Aside0.mk A90
  clear A90
  replace H := Option.bind_eq_some_iff.mp H
  obtain ⟨⟨t220, t221⟩, A100, H⟩ := H
  replace H : ((quant_Steps.f a3).bind fun bt222 => ((thrumref10_Steps.f a3).bind fun bt224 => (if t212 = t215 then (if t213 = t216 then (if t214 = t217 then (if t218 = t220 then (if t219 = t221 then (if bt222.1 = bt224.1 then (some (bt222.2 == bt224.2)) else (some false)) else (some false)) else (some false)) else (some false)) else (some false)) else (some false)))) = some r := H
  have A10 := Aside0.mk A100
  clear A100
  replace H := Option.bind_eq_some_iff.mp H
  obtain ⟨⟨t222, t223⟩, A110, H⟩ := H
  replace H : ((thrumref10_Steps.f a3).bind fun bt224 => (if t212 = t215 then (if t213 = t216 then (if t214 = t217 then (if t218 = t220 then (if t219 = t221 then (if t222 = bt224.1 then (some (t223 == bt224.2)) else (some false)) else (some false)) else (some false)) else (some false)) else (some false)) else (some false))) = some r := H
  have A11 := Aside0.mk A110
  clear A110
  replace H := Option.bind_eq_some_iff.mp H
  obtain ⟨⟨t224, t225⟩, A120, H⟩ := H
  replace H : (if t212 = t215 then (if t213 = t216 then (if t214 = t217 then (if t218 = t220 then (if t219 = t221 then (if t222 = t224 then (some (t223 == t225)) else (some false)) else (some false)) else (some false)) else (some false)) else (some false)) else (some false)) = some r := H
  have A12 := Aside0.mk A120
  clear A120
  by_cases c13 : t212 = t215
  ·
   rw [if_pos c13] at H
   have c13b0 : (t212 == t215) = true := beq_iff_eq.mpr c13
   have c13b1 : (t212 != t215) = false := bne_eq_false_iff_eq.mpr c13
   clear c13
   by_cases c14 : t213 = t216
   ·
    rw [if_pos c14] at H
    have c14b0 : (t213 == t216) = true := beq_iff_eq.mpr c14
    have c14b1 : (t213 != t216) = false := bne_eq_false_iff_eq.mpr c14
    clear c14
    by_cases c15 : t214 = t217
    ·
     rw [if_pos c15] at H
     have c15b0 : (t214 == t217) = true := beq_iff_eq.mpr c15
     have c15b1 : (t214 != t217) = false := bne_eq_false_iff_eq.mpr c15
     clear c15
     by_cases c16 : t218 = t220
     ·
      rw [if_pos c16] at H
      have c16b0 : (t218 == t220) = true := beq_iff_eq.mpr c16
      have c16b1 : (t218 != t220) = false := bne_eq_false_iff_eq.mpr c16
      clear c16
      by_cases c17 : t219 = t221
      ·
       rw [if_pos c17] at H
       have c17b0 : (t219 == t221) = true := beq_iff_eq.mpr c17
       have c17b1 : (t219 != t221) = false := bne_eq_false_iff_eq.mpr c17
       clear c17
       by_cases c18 : t222 = t224
       ·
        rw [if_pos c18] at H
        have c18b0 : (t222 == t224) = true := beq_iff_eq.mpr c18
        have c18b1 : (t222 != t224) = false := bne_eq_false_iff_eq.mpr c18
        clear c18
        obtain rfl := Option.some.inj H
        go_enter Try.func9, Try.ntmps9
        go_wp2_with (first | ((with_reducible refine gate_callee (f := 44) rfl ?_); refine goesL_ (some 24) rfl rfl Try.func44 (by kernel_rfl) rfl #[] rfl (by (try simp only [List.map_toArray, List.map_cons, List.map_nil]); first | done | rfl | (simp only [List.length_drop, List.length_take]; rfl)) ?_; (with_reducible refine (thrumlaw10_live.calls  true _ A5.out).mono ?_); rintro e w19 ⟨rfl, hb⟩; refine ⟨_, rfl, ?_⟩; have n0_ := Aside0.mk (below_step (by repeat (first | (with_reducible first | exact HB.out | apply below_alloc | apply pw_below_drewN | apply below_drew1) | exact HB.out)) hb); clear HB; have HB := n0_; clear n0_; (try clear hb); (try clear hb2); (try clear hk); (try clear hi)) | ((with_reducible refine gate_callee (f := 47) rfl ?_); refine goesL_ (some 31) rfl rfl Try.func47 (by kernel_rfl) rfl #[.int .i64 a0, .int .i64 a1, .int .i64 a3] rfl (by (try simp only [List.map_toArray, List.map_cons, List.map_nil]); first | done | rfl | (simp only [List.length_drop, List.length_take]; rfl)) ?_; (with_reducible refine (quant_Level.calls a0 a1 a3 t212 t213 t214 _ A7.out).mono ?_); rintro e w' ⟨rfl, ⟨nd, rfl⟩⟩; refine ⟨_, rfl, ?_⟩) | ((with_reducible refine gate_callee (f := 48) rfl ?_); refine goesL_ (some 39) rfl rfl Try.func48 (by kernel_rfl) rfl #[.int .i64 a0, .int .i64 a1, .int .i64 a3] rfl (by (try simp only [List.map_toArray, List.map_cons, List.map_nil]); first | done | rfl | (simp only [List.length_drop, List.length_take]; rfl)) ?_; (with_reducible refine (thrumref10_Level.calls a0 a1 a3 t215 t216 t217 _ A8.out).mono ?_); rintro e w' ⟨rfl, ⟨nd, rfl⟩⟩; refine ⟨_, rfl, ?_⟩) | ((with_reducible refine gate_callee (f := 49) rfl ?_); refine goesL_ (some 47) rfl rfl Try.func49 (by kernel_rfl) rfl #[.int .u64 a2, .int .i64 a1, .int .i64 a3] rfl (by (try simp only [List.map_toArray, List.map_cons, List.map_nil]); first | done | rfl | (simp only [List.length_drop, List.length_take]; rfl)) ?_; (with_reducible refine (quant_Value.calls a2 a1 a3 t218 t219 _ A9.out).mono ?_); rintro e w' ⟨rfl, ⟨nd, rfl⟩⟩; refine ⟨_, rfl, ?_⟩) | ((with_reducible refine gate_callee (f := 50) rfl ?_); refine goesL_ (some 54) rfl rfl Try.func50 (by kernel_rfl) rfl #[.int .u64 a2, .int .i64 a1, .int .i64 a3] rfl (by (try simp only [List.map_toArray, List.map_cons, List.map_nil]); first | done | rfl | (simp only [List.length_drop, List.length_take]; rfl)) ?_; (with_reducible refine (thrumref10_Value.calls a2 a1 a3 t220 t221 _ A10.out).mono ?_); rintro e w' ⟨rfl, ⟨nd, rfl⟩⟩; refine ⟨_, rfl, ?_⟩) | ((with_reducible refine gate_callee (f := 51) rfl ?_); refine goesL_ (some 59) rfl rfl Try.func51 (by kernel_rfl) rfl #[.int .i64 a3] rfl (by (try simp only [List.map_toArray, List.map_cons, List.map_nil]); first | done | rfl | (simp only [List.length_drop, List.length_take]; rfl)) ?_; (with_reducible refine (quant_Steps.calls a3 t222 t223 _ A11.out).mono ?_); rintro e w' ⟨rfl, ⟨nd, rfl⟩⟩; refine ⟨_, rfl, ?_⟩) | ((with_reducible refine gate_callee (f := 52) rfl ?_); refine goesL_ (some 64) rfl rfl Try.func52 (by kernel_rfl) rfl #[.int .i64 a3] rfl (by (try simp only [List.map_toArray, List.map_cons, List.map_nil]); first | done | rfl | (simp only [List.length_drop, List.length_take]; rfl)) ?_; (with_reducible refine (thrumref10_Steps.calls a3 t224 t225 _ A12.out).mono ?_); rintro e w' ⟨rfl, ⟨nd, rfl⟩⟩; refine ⟨_, rfl, ?_⟩))
        go_ret
        exact ⟨by first | rfl | (simp [errW_none, errW_some] <;> rfl) | (simp [*, errW_none, errW_some] <;> rfl), by repeat (first | (with_reducible first | exact HB.out | apply below_alloc | apply pw_below_drewN | apply below_drew1) | exact HB.out)⟩
       ·
        rw [if_neg c18] at H
        exact absurd (Option.some.inj H) (by rw [HR_.out]; decide)
      ·
       rw [if_neg c17] at H
       exact absurd (Option.some.inj H) (by rw [HR_.out]; decide)
     ·
      rw [if_neg c16] at H
      exact absurd (Option.some.inj H) (by rw [HR_.out]; decide)
    ·
     rw [if_neg c15] at H
     exact absurd (Option.some.inj H) (by rw [HR_.out]; decide)
   ·
    rw [if_neg c14] at H
    exact absurd (Option.some.inj H) (by rw [HR_.out]; decide)
  ·
   rw [if_neg c13] at H
   exact absurd (Option.some.inj H) (by rw [HR_.out]; decide)
 ·
  replace c6 := Bool.eq_false_iff.mpr c6
  subst c6
  have H1 : (some false) = some r := by rw [if_neg (show ¬ (false = true) by decide)] at H; exact H
  exact absurd (Option.some.inj H1) (by rw [HR_.out]; decide)

/-- THE ONE PURE STATEMENT of thrumlaw10_QuantLevels: yours. -/
def thrumlaw10_QuantLevels.Pure : Prop := ∀ (a0 : Int) (a1 : Int) (a2 : Int) (a3 : Int), (Lit.int .i64 a0).wf = true → (Lit.int .i64 a1).wf = true → (Lit.int .u64 a2).wf = true → (Lit.int .i64 a3).wf = true → thrumlaw10_QuantLevels.f a0 a1 a2 a3 = some true
theorem thrumlaw10_QuantLevels.walk (P : thrumlaw10_QuantLevels.Pure) (a0 : Int) (a1 : Int) (a2 : Int) (a3 : Int) (w : World) (w0 : (Lit.int .i64 a0).wf = true) (w1 : (Lit.int .i64 a1).wf = true) (w2 : (Lit.int .u64 a2).wf = true) (w3 : (Lit.int .i64 a3).wf = true) :
  Calls Try.prog 9 #[.int .i64 a0, .int .i64 a1, .int .u64 a2, .int .i64 a3] w fun e w' => e = .returned (.bool true) ∧ Below w.heap.size w w' := by
 have h := P a0 a1 a2 a3 w0 w1 w2 w3
 refine (thrumlaw10_QuantLevels.calls a0 a1 a2 a3 true w h rfl).mono ?_
 rintro e w' ⟨rfl, hd⟩
 exact ⟨rfl, hd⟩





































































































































































































































































































































































































































































































































































































































































































































































































































































































































































































































































































end Go.Proofs.Ytkfhdpnfcaghbaa.HQ
