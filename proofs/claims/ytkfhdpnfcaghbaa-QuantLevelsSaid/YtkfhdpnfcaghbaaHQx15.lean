/- What Go functions do, each as a plain Lean function with the same answers, and the proof of it, in every world: printed by the session's driver over the kit's print, with texts by hand. -/
import Derived.Test.YtkfhdpnfcaghbaaHQx0
import Derived.Test.YtkfhdpnfcaghbaaHQx13
namespace Go.Proofs.Ytkfhdpnfcaghbaa.HQ
open Go.RowKit Go.Proofs.YtkfhdpnfcaghbaaW.PrintWords Go.Proofs.YtkfhdpnfcaghbaaW.PrintLast Go.Proofs.YtkfhdpnfcaghbaaW.PrintMore
attribute [local go_sem] max2_int min2_int max_two min_two max_three min_three max_four min_four   -- for this text's walks alone
open Go.Proofs.Ytkfhdpnfcaghbaa.Sp
attribute [local go_sem] Go.Proofs.Ytkfhdpnfcaghbaa.Sp.u64_not
set_option linter.unusedVariables false
set_option linter.unusedSimpArgs false

/-! ### thrumref10_ValueP: function 50 -/
def thrumref10_ValueP.f (a0 : Int) (a1 : Int) (a2 : Int) : Option (Int × Int) := (thrumref10_Steps.f a2).bind fun bt209 => (if bt209.2 = 0 then (if a1 < 0 then (some (0, 1)) else (if a0 > bt209.1 then (some (0, 1)) else (if bt209.1 = 0 then (none) else (some (wrap64 (IntKind.u64.wrap ((IntKind.u64.wrap ((IntKind.u64.wrap (Int.tdiv (IntKind.u64.wrap (a1)) bt209.1)) * a0)) + (IntKind.u64.wrap (Int.tdiv (IntKind.u64.wrap ((Int.tmod (IntKind.u64.wrap (a1)) bt209.1) * a0)) bt209.1)))), 0))))) else (some (0, 1)))
set_option maxHeartbeats 8000000 in
set_option maxRecDepth 100000 in
theorem thrumref10_ValueP.calls (a0 : Int) (a1 : Int) (a2 : Int) (r1 : Int) (r2 : Int) (w : World) (h : thrumref10_ValueP.f a0 a1 a2 = some (r1, r2)) :
  Calls Try.prog 50 #[.int .u64 a0, .int .i64 a1, .int .i64 a2] w fun e w' => e = .returned (.tuple #[.int .i64 r1, .int .i64 r2]) ∧ Drawn0 w w' := by
 have H : ((thrumref10_Steps.f a2).bind fun bt209 => (if bt209.2 = 0 then (if a1 < 0 then (some (0, 1)) else (if a0 > bt209.1 then (some (0, 1)) else (if bt209.1 = 0 then (none) else (some (wrap64 (IntKind.u64.wrap ((IntKind.u64.wrap ((IntKind.u64.wrap (Int.tdiv (IntKind.u64.wrap (a1)) bt209.1)) * a0)) + (IntKind.u64.wrap (Int.tdiv (IntKind.u64.wrap ((Int.tmod (IntKind.u64.wrap (a1)) bt209.1) * a0)) bt209.1)))), 0))))) else (some (0, 1)))) = some (r1, r2) := h
 clear h
 replace H := Option.bind_eq_some_iff.mp H
 obtain ⟨⟨t209, t210⟩, A40, H⟩ := H
 replace H : (if t210 = 0 then (if a1 < 0 then (some (0, 1)) else (if a0 > t209 then (some (0, 1)) else (if t209 = 0 then (none) else (some (wrap64 (IntKind.u64.wrap ((IntKind.u64.wrap ((IntKind.u64.wrap (Int.tdiv (IntKind.u64.wrap (a1)) t209)) * a0)) + (IntKind.u64.wrap (Int.tdiv (IntKind.u64.wrap ((Int.tmod (IntKind.u64.wrap (a1)) t209) * a0)) t209)))), 0))))) else (some (0, 1))) = some (r1, r2) := H
 have A4 := Aside0.mk A40
 clear A40
 by_cases c5 : t210 = 0
 ·
  rw [if_pos c5] at H
  have c5b0 : (t210 == 0) = true := beq_iff_eq.mpr c5
  have c5b1 : (t210 != 0) = false := bne_eq_false_iff_eq.mpr c5
  clear c5
  by_cases c6 : a1 < 0
  ·
   rw [if_pos c6] at H
   have c6b0 : decide (a1 < 0) = true := decide_eq_true c6
   clear c6
   simp only [Option.some.injEq, Prod.mk.injEq] at H
   obtain ⟨rfl, rfl⟩ := H
   go_enter Try.func50, Try.ntmps50
   go_wp2_with (first | ((with_reducible refine gate_callee (f := 52) rfl ?_); refine goesL_ (some 14) rfl rfl Try.func52 (by kernel_rfl) rfl #[.int .i64 a2] rfl (by (try simp only [List.map_toArray, List.map_cons, List.map_nil]); first | done | rfl | (simp only [List.length_drop, List.length_take]; rfl)) ?_; (with_reducible refine (thrumref10_Steps.calls a2 t209 t210 _ A4.out).mono ?_); rintro e w' ⟨rfl, ⟨nd, rfl⟩⟩; refine ⟨_, rfl, ?_⟩))
   go_ret2
   exact ⟨by first | rfl | (simp; done) | (simp [*]; done), by repeat (first | exact Drawn0.refl _ | apply Drawn0.step)⟩
  ·
   rw [if_neg c6] at H
   have c6b0 : decide (a1 < 0) = false := decide_eq_false c6
   clear c6
   by_cases c7 : a0 > t209
   ·
    rw [if_pos c7] at H
    have c7b0 : decide (t209 < a0) = true := decide_eq_true c7
    clear c7
    simp only [Option.some.injEq, Prod.mk.injEq] at H
    obtain ⟨rfl, rfl⟩ := H
    go_enter Try.func50, Try.ntmps50
    go_wp2_with (first | ((with_reducible refine gate_callee (f := 52) rfl ?_); refine goesL_ (some 14) rfl rfl Try.func52 (by kernel_rfl) rfl #[.int .i64 a2] rfl (by (try simp only [List.map_toArray, List.map_cons, List.map_nil]); first | done | rfl | (simp only [List.length_drop, List.length_take]; rfl)) ?_; (with_reducible refine (thrumref10_Steps.calls a2 t209 t210 _ A4.out).mono ?_); rintro e w' ⟨rfl, ⟨nd, rfl⟩⟩; refine ⟨_, rfl, ?_⟩))
    go_ret2
    exact ⟨by first | rfl | (simp; done) | (simp [*]; done), by repeat (first | exact Drawn0.refl _ | apply Drawn0.step)⟩
   ·
    rw [if_neg c7] at H
    have c7b0 : decide (t209 < a0) = false := decide_eq_false c7
    clear c7
    by_cases c8 : t209 = 0
    ·
     rw [if_pos c8] at H
     exact absurd H (by simp)
    ·
     rw [if_neg c8] at H
     have c8b0 : (t209 == 0) = false := beq_eq_false_iff_ne.mpr c8
     have c8b1 : (t209 != 0) = true := bne_iff_ne.mpr c8
     simp only [Option.some.injEq, Prod.mk.injEq] at H
     obtain ⟨rfl, rfl⟩ := H
     go_enter Try.func50, Try.ntmps50
     go_wp2_with (first | ((with_reducible refine gate_callee (f := 52) rfl ?_); refine goesL_ (some 14) rfl rfl Try.func52 (by kernel_rfl) rfl #[.int .i64 a2] rfl (by (try simp only [List.map_toArray, List.map_cons, List.map_nil]); first | done | rfl | (simp only [List.length_drop, List.length_take]; rfl)) ?_; (with_reducible refine (thrumref10_Steps.calls a2 t209 t210 _ A4.out).mono ?_); rintro e w' ⟨rfl, ⟨nd, rfl⟩⟩; refine ⟨_, rfl, ?_⟩))
     go_ret2
     exact ⟨by first | rfl | (simp; done) | (simp [*]; done), by repeat (first | exact Drawn0.refl _ | apply Drawn0.step)⟩
 ·
  rw [if_neg c5] at H
  have c5b0 : (t210 == 0) = false := beq_eq_false_iff_ne.mpr c5
  have c5b1 : (t210 != 0) = true := bne_iff_ne.mpr c5
  simp only [Option.some.injEq, Prod.mk.injEq] at H
  obtain ⟨rfl, rfl⟩ := H
  go_enter Try.func50, Try.ntmps50
  go_wp2_with (first | ((with_reducible refine gate_callee (f := 52) rfl ?_); refine goesL_ (some 14) rfl rfl Try.func52 (by kernel_rfl) rfl #[.int .i64 a2] rfl (by (try simp only [List.map_toArray, List.map_cons, List.map_nil]); first | done | rfl | (simp only [List.length_drop, List.length_take]; rfl)) ?_; (with_reducible refine (thrumref10_Steps.calls a2 t209 t210 _ A4.out).mono ?_); rintro e w' ⟨rfl, ⟨nd, rfl⟩⟩; refine ⟨_, rfl, ?_⟩))
  go_ret2
  exact ⟨by first | rfl | (simp; done) | (simp [*]; done), by repeat (first | exact Drawn0.refl _ | apply Drawn0.step)⟩

def thrumref10_Value.f (a0 a1 a2 : Int) : Option (Int × Int) := if U64 a0 ∧ I64 a1 then some (valueF a0 a1 a2) else none
theorem thrumref10_Value.of (a0 a1 a2 : Int)  (h_ : U64 a0 ∧ I64 a1) : thrumref10_Value.f a0 a1 a2 = some (valueF a0 a1 a2) := if_pos h_
theorem thrumref10_Value.is (a0 a1 a2 : Int) (h0 : U64 a0) (h1 : I64 a1) : thrumref10_ValueP.f a0 a1 a2 = some (valueF a0 a1 a2) := by
  unfold thrumref10_ValueP.f valueF thrumref10_Steps.f stepsF
  simp only [Option.bind_some]
  by_cases cb : badW a2
  · rw [if_pos cb, if_neg (by decide), if_pos (.inl cb)]
  · obtain ⟨t0, t1⟩ := topF_pos cb
    rw [if_neg cb, if_pos rfl]
    by_cases c1 : a1 < 0
    · rw [if_pos c1, if_pos (.inr (.inl c1))]
    · rw [if_neg c1]
      by_cases c2 : a0 > topF a2
      · rw [if_pos c2, if_pos (.inr (.inr c2))]
      · rw [if_neg c2, if_neg (show ¬ (badW a2 ∨ a1 < 0 ∨ a0 > topF a2) from fun h => h.elim cb (fun h => h.elim c1 c2))]
        unfold I64 at h1
        unfold U64 at h0
        have hw : IntKind.u64.wrap a1 = a1 := by rw [wu]; omega
        obtain ⟨v0, v1⟩ := value_bd h0.1 (show a0 ≤ topF a2 by omega) (show 0 ≤ a1 by omega) (show 0 < topF a2 by omega)
        have hd0 : 0 ≤ a1 / topF a2 := Int.ediv_nonneg (by omega) (by omega)
        have hd1 : a1 / topF a2 ≤ a1 := Int.ediv_le_self _ (by omega)
        have hm0 := Int.emod_nonneg a1 (show topF a2 ≠ 0 by omega)
        have hm1 := Int.emod_lt_of_pos a1 (show 0 < topF a2 by omega)
        have hq0 : 0 ≤ a1 % topF a2 * a0 := Int.mul_nonneg hm0 h0.1
        have hq1 : a1 % topF a2 * a0 ≤ 255 * 255 := Int.mul_le_mul (by omega) (by omega) h0.1 (by omega)
        have hr0 : 0 ≤ a1 % topF a2 * a0 / topF a2 := Int.ediv_nonneg hq0 (by omega)
        have hr1 : a1 % topF a2 * a0 / topF a2 ≤ a1 % topF a2 * a0 := Int.ediv_le_self _ hq0
        have hs0 : 0 ≤ a1 / topF a2 * a0 := Int.mul_nonneg hd0 h0.1
        have hp := value_parts (s := a1) (l := a0) (t := topF a2) (by omega)
        rw [if_neg (show ¬ ((topF a2, (0 : Int)).1 = 0) from fun h => by have h' : topF a2 = 0 := h; omega), hw, Int.tdiv_eq_ediv_of_nonneg (show 0 ≤ a1 by omega), Int.tmod_eq_emod_of_nonneg (show 0 ≤ a1 by omega)]
        simp only [wu]
        rw [show a1 / topF a2 % 18446744073709551616 = a1 / topF a2 by omega, show a1 / topF a2 * a0 % 18446744073709551616 = a1 / topF a2 * a0 by omega, show a1 % topF a2 * a0 % 18446744073709551616 = a1 % topF a2 * a0 by omega, Int.tdiv_eq_ediv_of_nonneg hq0, show a1 % topF a2 * a0 / topF a2 % 18446744073709551616 = a1 % topF a2 * a0 / topF a2 by omega, hp, show a1 * a0 / topF a2 % 18446744073709551616 = a1 * a0 / topF a2 by omega, wrap64_of (by unfold I64; omega)]
theorem thrumref10_Value.calls (a0 : Int) (a1 : Int) (a2 : Int) (r1 : Int) (r2 : Int) (w : World) (h : thrumref10_Value.f a0 a1 a2 = some (r1, r2)) :
    Calls Try.prog 50 #[.int .u64 a0, .int .i64 a1, .int .i64 a2] w fun e w' => e = .returned (.tuple #[.int .i64 r1, .int .i64 r2]) ∧ Drawn0 w w' := by
  unfold thrumref10_Value.f at h
  split at h
  case isFalse => cases h
  rename_i hv
  exact thrumref10_ValueP.calls a0 a1 a2 r1 r2 w ((thrumref10_Value.is a0 a1 a2 hv.1 hv.2).trans h)




















































































































































































































































































































































































































































































































































end Go.Proofs.Ytkfhdpnfcaghbaa.HQ
