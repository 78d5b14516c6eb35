/- What Go functions do, each as a plain Lean function with the same answers, and the proof of it, in every world: printed by the session's driver over the kit's print, with texts by hand. -/
import Derived.Test.YtfbdalnjijdknaaHTx0
namespace Go.Proofs.Ytfbdalnjijdknaa.HT
open Go.RowKit Go.Proofs.YtfbdalnjijdknaaW.PrintWords Go.Proofs.YtfbdalnjijdknaaW.PrintLast Go.Proofs.YtfbdalnjijdknaaW.PrintMore
attribute [local go_sem] max2_int min2_int max_two min_two max_three min_three max_four min_four   -- for this text's walks alone
open Go.Proofs.Ytfbdalnjijdknaa.Sp
attribute [local go_sem] Go.Proofs.Ytfbdalnjijdknaa.Sp.u64_not
set_option linter.unusedVariables false
set_option linter.unusedSimpArgs false

/-! ### fix_SubP: function 107 -/
def fix_SubP.f (a0 : Int) (a1 : Int) : Option (Int × Int) := if (Go.bits .and .i64 (Go.bits .xor .i64 a0 a1) (Go.bits .xor .i64 a0 (wrap64 (a0 - a1)))) < 0 then (some (0, 2)) else (some (wrap64 (a0 - a1), 0))
set_option maxHeartbeats 8000000 in
set_option maxRecDepth 100000 in
theorem fix_SubP.calls (a0 : Int) (a1 : Int) (r1 : Int) (r2 : Int) (w : World) (h : fix_SubP.f a0 a1 = some (r1, r2)) :
    Calls Try.prog 107 #[.int .i64 a0, .int .i64 a1] w fun e w' => e = .returned (.tuple #[.int .i64 r1, .int .i64 r2]) ∧ Drawn0 w w' := by
  have H : (if (Go.bits .and .i64 (Go.bits .xor .i64 a0 a1) (Go.bits .xor .i64 a0 (wrap64 (a0 - a1)))) < 0 then (some (0, 2)) else (some (wrap64 (a0 - a1), 0))) = some (r1, r2) := h
  clear h
  by_cases c3 : (Go.bits .and .i64 (Go.bits .xor .i64 a0 a1) (Go.bits .xor .i64 a0 (wrap64 (a0 - a1)))) < 0
  · rw [if_pos c3] at H
    have c3b0 : decide ((Go.bits .and .i64 (Go.bits .xor .i64 a0 a1) (Go.bits .xor .i64 a0 (wrap64 (a0 - a1)))) < 0) = true := decide_eq_true c3
    clear c3
    simp only [Option.some.injEq, Prod.mk.injEq] at H
    obtain ⟨rfl, rfl⟩ := H
    go_enter Try.func107, Try.ntmps107
    go_wp2
    go_ret2
    exact ⟨by first | rfl | (simp; done) | (simp [*]; done), by repeat (first | exact Drawn0.refl _ | apply Drawn0.step)⟩
  · rw [if_neg c3] at H
    have c3b0 : decide ((Go.bits .and .i64 (Go.bits .xor .i64 a0 a1) (Go.bits .xor .i64 a0 (wrap64 (a0 - a1)))) < 0) = false := decide_eq_false c3
    clear c3
    simp only [Option.some.injEq, Prod.mk.injEq] at H
    obtain ⟨rfl, rfl⟩ := H
    go_enter Try.func107, Try.ntmps107
    go_wp2
    go_ret2
    exact ⟨by first | rfl | (simp; done) | (simp [*]; done), by repeat (first | exact Drawn0.refl _ | apply Drawn0.step)⟩

def fix_Sub.f (a0 a1 : Int) : Option (Int × Int) := if I64 a0 ∧ I64 a1 then some (res (a0 - a1)) else none
theorem fix_Sub.of (a0 a1 : Int)  (h_ : I64 a0 ∧ I64 a1) : fix_Sub.f a0 a1 = some (res (a0 - a1)) := if_pos h_
theorem fix_Sub.calls (a0 : Int) (a1 : Int) (r1 : Int) (r2 : Int) (w : World) (h : fix_Sub.f a0 a1 = some (r1, r2)) :
    Calls Try.prog 107 #[.int .i64 a0, .int .i64 a1] w fun e w' => e = .returned (.tuple #[.int .i64 r1, .int .i64 r2]) ∧ Drawn0 w w' := by
  unfold fix_Sub.f at h
  split at h
  · rename_i hu
    refine fix_SubP.calls a0 a1 r1 r2 w (Eq.trans ?_ h)
    unfold fix_SubP.f
    have hw := wrap64_i64 (a0 - a1)
    have t := and_neg (xor_i64_i64 a0 a1) (xor_i64_i64 a0 (wrap64 (a0 - a1)))
    rw [xor_neg hu.1 hu.2, xor_neg hu.1 hw] at t
    obtain ⟨h0, h1⟩ := hu
    by_cases c : I64 (a0 - a1)
    · rw [res_of c, wrap64_of c] at *
      rw [if_neg (by rw [t]; omega)]
    · rw [res_not c]
      unfold I64 at h0 h1 c
      rw [if_pos (by rw [t, wrap64_def]; omega)]
  · cases h


/-! ### fix_NegP: function 118 -/
def fix_NegP.f (a0 : Int) : Option (Int × Int) := (fix_Sub.f 0 a0).bind fun bt109 => (some (bt109.1, bt109.2))
set_option maxHeartbeats 8000000 in
set_option maxRecDepth 100000 in
theorem fix_NegP.calls (a0 : Int) (r1 : Int) (r2 : Int) (w : World) (h : fix_NegP.f a0 = some (r1, r2)) :
    Calls Try.prog 118 #[.int .i64 a0] w fun e w' => e = .returned (.tuple #[.int .i64 r1, .int .i64 r2]) ∧ Drawn0 w w' := by
  have H : ((fix_Sub.f 0 a0).bind fun bt109 => (some (bt109.1, bt109.2))) = some (r1, r2) := h
  clear h
  replace H := Option.bind_eq_some_iff.mp H
  obtain ⟨⟨t109, t110⟩, A20, H⟩ := H
  replace H : (some (t109, t110)) = some (r1, r2) := H
  have A2 := Aside0.mk A20
  clear A20
  simp only [Option.some.injEq, Prod.mk.injEq] at H
  obtain ⟨rfl, rfl⟩ := H
  go_enter Try.func118, Try.ntmps118
  go_wp2_with (first | ((with_reducible refine gate_callee (f := 107) rfl ?_); refine goesL_ (some 5) rfl rfl Try.func107 (by kernel_rfl) rfl #[.int .i64 0, .int .i64 a0] rfl (by (try simp only [List.map_toArray, List.map_cons, List.map_nil]); first | done | rfl | (simp only [List.length_drop, List.length_take]; rfl)) ?_; (with_reducible refine (fix_Sub.calls 0 a0 t109 t110 _ A2.out).mono ?_); rintro e w' ⟨rfl, ⟨nd, rfl⟩⟩; refine ⟨_, rfl, ?_⟩))
  go_ret2
  exact ⟨by first | rfl | (simp; done) | (simp [*]; done), by repeat (first | exact Drawn0.refl _ | apply Drawn0.step)⟩

def fix_Neg.f (a0 : Int) : Option (Int × Int) := if I64 a0 then some (res (-a0)) else none
theorem fix_Neg.of (a0 : Int)  (h_ : I64 a0) : fix_Neg.f a0 = some (res (-a0)) := if_pos h_
theorem fix_Neg.calls (a0 : Int) (r1 : Int) (r2 : Int) (w : World) (h : fix_Neg.f a0 = some (r1, r2)) :
    Calls Try.prog 118 #[.int .i64 a0] w fun e w' => e = .returned (.tuple #[.int .i64 r1, .int .i64 r2]) ∧ Drawn0 w w' := by
  unfold fix_Neg.f at h
  split at h
  · rename_i hu
    refine fix_NegP.calls a0 r1 r2 w (Eq.trans ?_ h)
    unfold fix_NegP.f fix_Sub.f
    rw [if_pos ⟨i64_zero, hu⟩]; simp
  · cases h


-- NOT PRINTED: function 161 (math_sqrt)

/-! ### math_Sqrt: function 117 -/
theorem sqrt_enters (x : Nat) (w : World) : ∃ (r m : Nat), (callFunc 161 #[.float .f64 x]).run Try.prog w = .ok (.value (.float .f64 r)) (w.drewN m) :=
  run_sqrt Try.func161 rfl rfl (by kernel_rfl) (by kernel_rfl) x w
set_option maxHeartbeats 2000000 in
set_option maxRecDepth 100000 in
theorem math_Sqrt.calls (x : Nat) (w : World) : Calls Try.prog 117 #[.float .f64 x] w fun e w' => (∃ r : Nat, e = .returned (.float .f64 r)) ∧ Drawn0 w w' := by
  obtain ⟨r, m, hs⟩ := sqrt_enters x w
  go_enter Try.func117, Try.ntmps117
  go_wp2
  go_ret
  exact ⟨⟨r, rfl⟩, ⟨_, rfl⟩⟩


/-! ### table_Root: function 54 -/
set_option maxHeartbeats 2000000 in
set_option maxRecDepth 100000 in
theorem table_Root.gen (n : Int) (hn : U64 n) (w : World) : Calls Try.prog 54 #[.int .u64 n] w fun e w' => e = .returned (.int .u64 (rootF n)) ∧ Drawn0 w w' := by
  have hu1 := Try.underlying49
  have hu2 := Try.underlying110
  have hcv := fun (b : Nat) (w : World) => run_float_u64 (P := Try.prog) 110 49 b (by rw [hu2]; rfl) hu1 w
  have HCV := Aside0.mk hcv
  have HN := Aside0.mk hn
  have HU := Aside0.mk hn
  unfold U64 at hn
  clear hcv
  go_enter Try.func54, Try.ntmps54
  go_wp2_with (go_at_call 117; (with_reducible refine (math_Sqrt.calls _ _).mono ?_); rintro ed W2 ⟨⟨r, rfl⟩, ⟨nd, rfl⟩⟩; obtain ⟨y, m, hy, hcv⟩ := HCV.out r (w.drewN nd))
  case inl =>
    go_loopw [3] (fun v W => ∃ (z : Int) (q : Nat), v = .int .u64 z ∧ W = w.drewN q ∧ Aside0 (0 ≤ z ∧ z ≤ 4294967295)) (fun v _ => (intOf v).toNat)
    case atStart => exact ⟨_, _, rfl, rfl, ⟨by omega⟩⟩
    case round =>
      clear hy hcv
      obtain ⟨z, q, rfl, rfl, ⟨hz⟩⟩ := hrel
      have hm0 : 0 ≤ z * z := Int.mul_nonneg hz.1 hz.1
      have hm1 : z * z ≤ 4294967295 * 4294967295 := Int.mul_le_mul hz.2 hz.2 hz.1 (by omega)
      have hw : IntKind.u64.wrap (z * z) = z * z := by rw [wu, Int.emod_eq_of_lt hm0 (by omega)]
      by_cases c : n < z * z
      · have c1 : decide (n < IntKind.u64.wrap (z * z)) = true := by rw [hw]; exact decide_eq_true c
        have hz1 : 1 ≤ z := by
          rcases Int.lt_or_le 0 z with h | h
          · omega
          · have : z = 0 := by omega
            subst this; omega
        have HZ := Aside0.mk hz
        have HZ1 := Aside0.mk hz1
        clear c hw hm0 hm1 hz hz1
        go_wp2
        have := HZ.out
        have := HZ1.out
        exact ⟨⟨z - 1, q, by rw [wu, Int.emod_eq_of_lt (by omega) (by omega)], rfl, ⟨by omega⟩⟩, by rw [wu, Int.emod_eq_of_lt (by omega) (by omega)]; simp [intOf]; omega⟩
      · have c1 : decide (n < IntKind.u64.wrap (z * z)) = false := by rw [hw]; exact decide_eq_false c
        have HZ := Aside0.mk hz
        have HM : Aside0 (z * z ≤ n) := ⟨by omega⟩
        clear c hw hm0 hm1 hz
        go_wp2_with fail
        go_loopw [3] (fun v W => ∃ (z : Int) (q : Nat), v = .int .u64 z ∧ W = w.drewN q ∧ Aside0 (0 ≤ z ∧ z ≤ 4294967295) ∧ Aside0 (z * z ≤ n)) (fun v _ => 4294967295 - (intOf v).toNat)
        case atStart => exact ⟨_, _, rfl, rfl, HZ, HM⟩
        case round =>
          clear c1 HZ HM
          obtain ⟨z, q, rfl, rfl, ⟨hz⟩, ⟨hm⟩⟩ := hrel
          by_cases c : z < 4294967295
          · have c1 : decide (z < 4294967295) = true := decide_eq_true c
            have hw0 : IntKind.u64.wrap (z + 1) = z + 1 := by rw [wu, Int.emod_eq_of_lt (by omega) (by omega)]
            have hm0 : 0 ≤ (z + 1) * (z + 1) := Int.mul_nonneg (by omega) (by omega)
            have hm1 : (z + 1) * (z + 1) ≤ 4294967295 * 4294967295 := Int.mul_le_mul (by omega) (by omega) (by omega) (by omega)
            have hw : IntKind.u64.wrap ((z + 1) * (z + 1)) = (z + 1) * (z + 1) := by rw [wu, Int.emod_eq_of_lt hm0 (by omega)]
            by_cases d : (z + 1) * (z + 1) ≤ n
            · have d1 : decide (IntKind.u64.wrap (IntKind.u64.wrap (z + 1) * IntKind.u64.wrap (z + 1)) ≤ n) = true := by rw [hw0, hw]; exact decide_eq_true d
              have HZ := Aside0.mk hz
              have HD := Aside0.mk d
              have HC := Aside0.mk c
              clear c d hw hw0 hm0 hm1 hz hm
              go_wp2
              have := HZ.out
              have := HC.out
              exact ⟨⟨z + 1, q, by rw [wu, Int.emod_eq_of_lt (by omega) (by omega)], rfl, ⟨by omega⟩, HD⟩, by rw [wu, Int.emod_eq_of_lt (by omega) (by omega)]; simp [intOf]; omega⟩
            · have d1 : decide (IntKind.u64.wrap (IntKind.u64.wrap (z + 1) * IntKind.u64.wrap (z + 1)) ≤ n) = false := by rw [hw0, hw]; exact decide_eq_false d
              have HR : Aside0 (rootF n = z) := ⟨(rootF_is HU.out).unique ⟨hz.1, hm, by omega⟩⟩
              clear c d hw hw0 hm0 hm1 hz hm
              go_wp2
              go_ret
              exact ⟨by rw [HR.out]; rfl, ⟨_, rfl⟩⟩
          · have c1 : decide (z < 4294967295) = false := decide_eq_false c
            have HR : Aside0 (rootF n = z) := ⟨(rootF_is HU.out).unique ⟨hz.1, hm, by (have e : z = 4294967295 := (by omega)); (subst e); omega⟩⟩
            clear c hz hm
            go_wp2
            go_ret
            exact ⟨by rw [HR.out]; rfl, ⟨_, rfl⟩⟩
  case inr =>
    go_loopw [3] (fun v W => ∃ (z : Int) (q : Nat), v = .int .u64 z ∧ W = w.drewN q ∧ Aside0 (0 ≤ z ∧ z ≤ 4294967295)) (fun v _ => (intOf v).toNat)
    case atStart => exact ⟨_, _, rfl, rfl, ⟨by omega⟩⟩
    case round =>
      clear hy hcv
      obtain ⟨z, q, rfl, rfl, ⟨hz⟩⟩ := hrel
      have hm0 : 0 ≤ z * z := Int.mul_nonneg hz.1 hz.1
      have hm1 : z * z ≤ 4294967295 * 4294967295 := Int.mul_le_mul hz.2 hz.2 hz.1 (by omega)
      have hw : IntKind.u64.wrap (z * z) = z * z := by rw [wu, Int.emod_eq_of_lt hm0 (by omega)]
      by_cases c : n < z * z
      · have c1 : decide (n < IntKind.u64.wrap (z * z)) = true := by rw [hw]; exact decide_eq_true c
        have hz1 : 1 ≤ z := by
          rcases Int.lt_or_le 0 z with h | h
          · omega
          · have : z = 0 := by omega
            subst this; omega
        have HZ := Aside0.mk hz
        have HZ1 := Aside0.mk hz1
        clear c hw hm0 hm1 hz hz1
        go_wp2
        have := HZ.out
        have := HZ1.out
        exact ⟨⟨z - 1, q, by rw [wu, Int.emod_eq_of_lt (by omega) (by omega)], rfl, ⟨by omega⟩⟩, by rw [wu, Int.emod_eq_of_lt (by omega) (by omega)]; simp [intOf]; omega⟩
      · have c1 : decide (n < IntKind.u64.wrap (z * z)) = false := by rw [hw]; exact decide_eq_false c
        have HZ := Aside0.mk hz
        have HM : Aside0 (z * z ≤ n) := ⟨by omega⟩
        clear c hw hm0 hm1 hz
        go_wp2_with fail
        go_loopw [3] (fun v W => ∃ (z : Int) (q : Nat), v = .int .u64 z ∧ W = w.drewN q ∧ Aside0 (0 ≤ z ∧ z ≤ 4294967295) ∧ Aside0 (z * z ≤ n)) (fun v _ => 4294967295 - (intOf v).toNat)
        case atStart => exact ⟨_, _, rfl, rfl, HZ, HM⟩
        case round =>
          clear c1 HZ HM
          obtain ⟨z, q, rfl, rfl, ⟨hz⟩, ⟨hm⟩⟩ := hrel
          by_cases c : z < 4294967295
          · have c1 : decide (z < 4294967295) = true := decide_eq_true c
            have hw0 : IntKind.u64.wrap (z + 1) = z + 1 := by rw [wu, Int.emod_eq_of_lt (by omega) (by omega)]
            have hm0 : 0 ≤ (z + 1) * (z + 1) := Int.mul_nonneg (by omega) (by omega)
            have hm1 : (z + 1) * (z + 1) ≤ 4294967295 * 4294967295 := Int.mul_le_mul (by omega) (by omega) (by omega) (by omega)
            have hw : IntKind.u64.wrap ((z + 1) * (z + 1)) = (z + 1) * (z + 1) := by rw [wu, Int.emod_eq_of_lt hm0 (by omega)]
            by_cases d : (z + 1) * (z + 1) ≤ n
            · have d1 : decide (IntKind.u64.wrap (IntKind.u64.wrap (z + 1) * IntKind.u64.wrap (z + 1)) ≤ n) = true := by rw [hw0, hw]; exact decide_eq_true d
              have HZ := Aside0.mk hz
              have HD := Aside0.mk d
              have HC := Aside0.mk c
              clear c d hw hw0 hm0 hm1 hz hm
              go_wp2
              have := HZ.out
              have := HC.out
              exact ⟨⟨z + 1, q, by rw [wu, Int.emod_eq_of_lt (by omega) (by omega)], rfl, ⟨by omega⟩, HD⟩, by rw [wu, Int.emod_eq_of_lt (by omega) (by omega)]; simp [intOf]; omega⟩
            · have d1 : decide (IntKind.u64.wrap (IntKind.u64.wrap (z + 1) * IntKind.u64.wrap (z + 1)) ≤ n) = false := by rw [hw0, hw]; exact decide_eq_false d
              have HR : Aside0 (rootF n = z) := ⟨(rootF_is HU.out).unique ⟨hz.1, hm, by omega⟩⟩
              clear c d hw hw0 hm0 hm1 hz hm
              go_wp2
              go_ret
              exact ⟨by rw [HR.out]; rfl, ⟨_, rfl⟩⟩
          · have c1 : decide (z < 4294967295) = false := decide_eq_false c
            have HR : Aside0 (rootF n = z) := ⟨(rootF_is HU.out).unique ⟨hz.1, hm, by (have e : z = 4294967295 := (by omega)); (subst e); omega⟩⟩
            clear c hz hm
            go_wp2
            go_ret
            exact ⟨by rw [HR.out]; rfl, ⟨_, rfl⟩⟩
def table_Root.f (a0 : Int) : Option Int := if U64 a0 then some (rootF a0) else none
theorem table_Root.of (a0 : Int)  (h_ : U64 a0) : table_Root.f a0 = some (rootF a0) := if_pos h_
theorem table_Root.calls (a0 : Int) (r : Int) (w : World) (h : table_Root.f a0 = some r) :
    Calls Try.prog 54 #[.int .u64 a0] w fun e w' => e = .returned (.int .u64 r) ∧ Drawn0 w w' := by
  unfold table_Root.f at h
  split at h
  case isFalse => cases h
  rename_i hu
  cases h
  exact table_Root.gen a0 hu w


end Go.Proofs.Ytfbdalnjijdknaa.HT
