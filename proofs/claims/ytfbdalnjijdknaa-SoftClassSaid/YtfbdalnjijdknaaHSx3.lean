/- What Go functions do, each as a plain Lean function with the same answers, and the proof of it, in every world: printed by the session's driver over the kit's print, with texts by hand. -/
import Derived.Test.YtfbdalnjijdknaaHSx0
import Derived.Test.YtfbdalnjijdknaaHSx2
namespace Go.Proofs.Ytfbdalnjijdknaa.HS
open Go.RowKit Go.Proofs.YtfbdalnjijdknaaW.PrintWords Go.Proofs.YtfbdalnjijdknaaW.PrintLast Go.Proofs.YtfbdalnjijdknaaW.PrintMore
attribute [local go_sem] max2_int min2_int max_two min_two max_three min_three max_four min_four   -- for this text's walks alone
open Go.Proofs.Ytfbdalnjijdknaa.Sp
attribute [local go_sem] Go.Proofs.Ytfbdalnjijdknaa.Sp.u64_not
set_option linter.unusedVariables false
set_option linter.unusedSimpArgs false

/-! ### table_Root: function 54 -/
set_option maxHeartbeats 2000000 in
set_option maxRecDepth 100000 in
theorem table_Root.gen (n : Int) (hn : U64 n) (w : World) : Calls Try.prog 54 #[.int .u64 n] w fun e w' => e = .returned (.int .u64 (rootF n)) ∧ Drawn0 w w' := by
  have hu1 := Try.underlying49
  have hu2 := Try.underlying110
  have hcv := fun (b : Nat) (w : World) => run_float_u64 (P := Try.prog) 110 49 b (by rw [hu2]; rfl) hu1 w
  have HCV := Aside0.mk hcv
  have HN := Aside0.mk hn
  have HU := Aside0.mk hn
  unfold U64 at hn
  clear hcv
  go_enter Try.func54, Try.ntmps54
  go_wp2_with (go_at_call 117; (with_reducible refine (math_Sqrt.calls _ _).mono ?_); rintro ed W2 ⟨⟨r, rfl⟩, ⟨nd, rfl⟩⟩; obtain ⟨y, m, hy, hcv⟩ := HCV.out r (w.drewN nd))
  case inl =>
    go_loopw [3] (fun v W => ∃ (z : Int) (q : Nat), v = .int .u64 z ∧ W = w.drewN q ∧ Aside0 (0 ≤ z ∧ z ≤ 4294967295)) (fun v _ => (intOf v).toNat)
    case atStart => exact ⟨_, _, rfl, rfl, ⟨by omega⟩⟩
    case round =>
      clear hy hcv
      obtain ⟨z, q, rfl, rfl, ⟨hz⟩⟩ := hrel
      have hm0 : 0 ≤ z * z := Int.mul_nonneg hz.1 hz.1
      have hm1 : z * z ≤ 4294967295 * 4294967295 := Int.mul_le_mul hz.2 hz.2 hz.1 (by omega)
      have hw : IntKind.u64.wrap (z * z) = z * z := by rw [wu, Int.emod_eq_of_lt hm0 (by omega)]
      by_cases c : n < z * z
      · have c1 : decide (n < IntKind.u64.wrap (z * z)) = true := by rw [hw]; exact decide_eq_true c
        have hz1 : 1 ≤ z := by
          rcases Int.lt_or_le 0 z with h | h
          · omega
          · have : z = 0 := by omega
            subst this; omega
        have HZ := Aside0.mk hz
        have HZ1 := Aside0.mk hz1
        clear c hw hm0 hm1 hz hz1
        go_wp2
        have := HZ.out
        have := HZ1.out
        exact ⟨⟨z - 1, q, by rw [wu, Int.emod_eq_of_lt (by omega) (by omega)], rfl, ⟨by omega⟩⟩, by rw [wu, Int.emod_eq_of_lt (by omega) (by omega)]; simp [intOf]; omega⟩
      · have c1 : decide (n < IntKind.u64.wrap (z * z)) = false := by rw [hw]; exact decide_eq_false c
        have HZ := Aside0.mk hz
        have HM : Aside0 (z * z ≤ n) := ⟨by omega⟩
        clear c hw hm0 hm1 hz
        go_wp2_with fail
        go_loopw [3] (fun v W => ∃ (z : Int) (q : Nat), v = .int .u64 z ∧ W = w.drewN q ∧ Aside0 (0 ≤ z ∧ z ≤ 4294967295) ∧ Aside0 (z * z ≤ n)) (fun v _ => 4294967295 - (intOf v).toNat)
        case atStart => exact ⟨_, _, rfl, rfl, HZ, HM⟩
        case round =>
          clear c1 HZ HM
          obtain ⟨z, q, rfl, rfl, ⟨hz⟩, ⟨hm⟩⟩ := hrel
          by_cases c : z < 4294967295
          · have c1 : decide (z < 4294967295) = true := decide_eq_true c
            have hw0 : IntKind.u64.wrap (z + 1) = z + 1 := by rw [wu, Int.emod_eq_of_lt (by omega) (by omega)]
            have hm0 : 0 ≤ (z + 1) * (z + 1) := Int.mul_nonneg (by omega) (by omega)
            have hm1 : (z + 1) * (z + 1) ≤ 4294967295 * 4294967295 := Int.mul_le_mul (by omega) (by omega) (by omega) (by omega)
            have hw : IntKind.u64.wrap ((z + 1) * (z + 1)) = (z + 1) * (z + 1) := by rw [wu, Int.emod_eq_of_lt hm0 (by omega)]
            by_cases d : (z + 1) * (z + 1) ≤ n
            · have d1 : decide (IntKind.u64.wrap (IntKind.u64.wrap (z + 1) * IntKind.u64.wrap (z + 1)) ≤ n) = true := by rw [hw0, hw]; exact decide_eq_true d
              have HZ := Aside0.mk hz
              have HD := Aside0.mk d
              have HC := Aside0.mk c
              clear c d hw hw0 hm0 hm1 hz hm
              go_wp2
              have := HZ.out
              have := HC.out
              exact ⟨⟨z + 1, q, by rw [wu, Int.emod_eq_of_lt (by omega) (by omega)], rfl, ⟨by omega⟩, HD⟩, by rw [wu, Int.emod_eq_of_lt (by omega) (by omega)]; simp [intOf]; omega⟩
            · have d1 : decide (IntKind.u64.wrap (IntKind.u64.wrap (z + 1) * IntKind.u64.wrap (z + 1)) ≤ n) = false := by rw [hw0, hw]; exact decide_eq_false d
              have HR : Aside0 (rootF n = z) := ⟨(rootF_is HU.out).unique ⟨hz.1, hm, by omega⟩⟩
              clear c d hw hw0 hm0 hm1 hz hm
              go_wp2
              go_ret
              exact ⟨by rw [HR.out]; rfl, ⟨_, rfl⟩⟩
          · have c1 : decide (z < 4294967295) = false := decide_eq_false c
            have HR : Aside0 (rootF n = z) := ⟨(rootF_is HU.out).unique ⟨hz.1, hm, by (have e : z = 4294967295 := (by omega)); (subst e); omega⟩⟩
            clear c hz hm
            go_wp2
            go_ret
            exact ⟨by rw [HR.out]; rfl, ⟨_, rfl⟩⟩
  case inr =>
    go_loopw [3] (fun v W => ∃ (z : Int) (q : Nat), v = .int .u64 z ∧ W = w.drewN q ∧ Aside0 (0 ≤ z ∧ z ≤ 4294967295)) (fun v _ => (intOf v).toNat)
    case atStart => exact ⟨_, _, rfl, rfl, ⟨by omega⟩⟩
    case round =>
      clear hy hcv
      obtain ⟨z, q, rfl, rfl, ⟨hz⟩⟩ := hrel
      have hm0 : 0 ≤ z * z := Int.mul_nonneg hz.1 hz.1
      have hm1 : z * z ≤ 4294967295 * 4294967295 := Int.mul_le_mul hz.2 hz.2 hz.1 (by omega)
      have hw : IntKind.u64.wrap (z * z) = z * z := by rw [wu, Int.emod_eq_of_lt hm0 (by omega)]
      by_cases c : n < z * z
      · have c1 : decide (n < IntKind.u64.wrap (z * z)) = true := by rw [hw]; exact decide_eq_true c
        have hz1 : 1 ≤ z := by
          rcases Int.lt_or_le 0 z with h | h
          · omega
          · have : z = 0 := by omega
            subst this; omega
        have HZ := Aside0.mk hz
        have HZ1 := Aside0.mk hz1
        clear c hw hm0 hm1 hz hz1
        go_wp2
        have := HZ.out
        have := HZ1.out
        exact ⟨⟨z - 1, q, by rw [wu, Int.emod_eq_of_lt (by omega) (by omega)], rfl, ⟨by omega⟩⟩, by rw [wu, Int.emod_eq_of_lt (by omega) (by omega)]; simp [intOf]; omega⟩
      · have c1 : decide (n < IntKind.u64.wrap (z * z)) = false := by rw [hw]; exact decide_eq_false c
        have HZ := Aside0.mk hz
        have HM : Aside0 (z * z ≤ n) := ⟨by omega⟩
        clear c hw hm0 hm1 hz
        go_wp2_with fail
        go_loopw [3] (fun v W => ∃ (z : Int) (q : Nat), v = .int .u64 z ∧ W = w.drewN q ∧ Aside0 (0 ≤ z ∧ z ≤ 4294967295) ∧ Aside0 (z * z ≤ n)) (fun v _ => 4294967295 - (intOf v).toNat)
        case atStart => exact ⟨_, _, rfl, rfl, HZ, HM⟩
        case round =>
          clear c1 HZ HM
          obtain ⟨z, q, rfl, rfl, ⟨hz⟩, ⟨hm⟩⟩ := hrel
          by_cases c : z < 4294967295
          · have c1 : decide (z < 4294967295) = true := decide_eq_true c
            have hw0 : IntKind.u64.wrap (z + 1) = z + 1 := by rw [wu, Int.emod_eq_of_lt (by omega) (by omega)]
            have hm0 : 0 ≤ (z + 1) * (z + 1) := Int.mul_nonneg (by omega) (by omega)
            have hm1 : (z + 1) * (z + 1) ≤ 4294967295 * 4294967295 := Int.mul_le_mul (by omega) (by omega) (by omega) (by omega)
            have hw : IntKind.u64.wrap ((z + 1) * (z + 1)) = (z + 1) * (z + 1) := by rw [wu, Int.emod_eq_of_lt hm0 (by omega)]
            by_cases d : (z + 1) * (z + 1) ≤ n
            · have d1 : decide (IntKind.u64.wrap (IntKind.u64.wrap (z + 1) * IntKind.u64.wrap (z + 1)) ≤ n) = true := by rw [hw0, hw]; exact decide_eq_true d
              have HZ := Aside0.mk hz
              have HD := Aside0.mk d
              have HC := Aside0.mk c
              clear c d hw hw0 hm0 hm1 hz hm
              go_wp2
              have := HZ.out
              have := HC.out
              exact ⟨⟨z + 1, q, by rw [wu, Int.emod_eq_of_lt (by omega) (by omega)], rfl, ⟨by omega⟩, HD⟩, by rw [wu, Int.emod_eq_of_lt (by omega) (by omega)]; simp [intOf]; omega⟩
            · have d1 : decide (IntKind.u64.wrap (IntKind.u64.wrap (z + 1) * IntKind.u64.wrap (z + 1)) ≤ n) = false := by rw [hw0, hw]; exact decide_eq_false d
              have HR : Aside0 (rootF n = z) := ⟨(rootF_is HU.out).unique ⟨hz.1, hm, by omega⟩⟩
              clear c d hw hw0 hm0 hm1 hz hm
              go_wp2
              go_ret
              exact ⟨by rw [HR.out]; rfl, ⟨_, rfl⟩⟩
          · have c1 : decide (z < 4294967295) = false := decide_eq_false c
            have HR : Aside0 (rootF n = z) := ⟨(rootF_is HU.out).unique ⟨hz.1, hm, by (have e : z = 4294967295 := (by omega)); (subst e); omega⟩⟩
            clear c hz hm
            go_wp2
            go_ret
            exact ⟨by rw [HR.out]; rfl, ⟨_, rfl⟩⟩
def table_Root.f (a0 : Int) : Option Int := if U64 a0 then some (rootF a0) else none
theorem table_Root.of (a0 : Int)  (h_ : U64 a0) : table_Root.f a0 = some (rootF a0) := if_pos h_
theorem table_Root.calls (a0 : Int) (r : Int) (w : World) (h : table_Root.f a0 = some r) :
    Calls Try.prog 54 #[.int .u64 a0] w fun e w' => e = .returned (.int .u64 r) ∧ Drawn0 w w' := by
  unfold table_Root.f at h
  split at h
  case isFalse => cases h
  rename_i hu
  cases h
  exact table_Root.gen a0 hu w


/-! ### table_rows: function 119 -/
theorem table_Root.at_314317453456834560 : table_Root.f (IntKind.u64.wrap 314317453456834560) = some 560640217 := by decide +kernel
theorem table_Root.at_342765613334134784 : table_Root.f (IntKind.u64.wrap 342765613334134784) = some 585461880 := by decide +kernel
theorem table_Root.at_373788551207549160 : table_Root.f (IntKind.u64.wrap 373788551207549160) = some 611382491 := by decide +kernel
theorem table_Root.at_407619306507993088 : table_Root.f (IntKind.u64.wrap 407619306507993088) = some 638450707 := by decide +kernel
theorem table_Root.at_444512004437301131 : table_Root.f (IntKind.u64.wrap 444512004437301131) = some 666717334 := by decide +kernel
theorem table_Root.at_484743778457637668 : table_Root.f (IntKind.u64.wrap 484743778457637668) = some 696235433 := by decide +kernel
theorem table_Root.at_528616838838443692 : table_Root.f (IntKind.u64.wrap 528616838838443692) = some 727060409 := by decide +kernel
theorem table_Root.at_576460752303423488 : table_Root.f (IntKind.u64.wrap 576460752303423488) = some 759250124 := by decide +kernel
theorem table_Root.at_628634906129798244 : table_Root.f (IntKind.u64.wrap 628634906129798244) = some 792864998 := by decide +kernel
theorem table_Root.at_685531226722800600 : table_Root.f (IntKind.u64.wrap 685531226722800600) = some 827968131 := by decide +kernel
theorem table_Root.at_747577103499840150 : table_Root.f (IntKind.u64.wrap 747577103499840150) = some 864625412 := by decide +kernel
theorem table_Root.at_815238613015986176 : table_Root.f (IntKind.u64.wrap 815238613015986176) = some 902905650 := by decide +kernel
theorem table_Root.at_889024011054300450 : table_Root.f (IntKind.u64.wrap 889024011054300450) = some 942880698 := by decide +kernel
theorem table_Root.at_969487559530905600 : table_Root.f (IntKind.u64.wrap 969487559530905600) = some 984625593 := by decide +kernel
theorem table_Root.at_1057233680184901632 : table_Root.f (IntKind.u64.wrap 1057233680184901632) = some 1028218692 := by decide +kernel
set_option maxHeartbeats 8000000 in
set_option maxRecDepth 100000 in
theorem table_rows.gen (w : World) : Calls Try.prog 119 #[] w fun e w' => e = .returned (.agg (encs (Value.int .u64) tabL).toArray) ∧ Below w.heap.size w w' := by
  have hu := Try.underlying114
  go_enter Try.func119, Try.ntmps119
  go_wp2_with fail
  go_loopw [1] (fun v W => ((v = .int .i64 8 ∧ Aside0 (Kd.R (Kd.int .u64) 114 W w.heap.size (fun _ => True) (.slice (some ⟨w.heap.size, 0, none⟩) 17 17) ([1073741824, 0, 0, 0, 0, 0, 0, 0, 0, 0, 0, 0, 0, 0, 0, 0, 536870912] : List Int))) ∨ (v = .int .i64 4 ∧ Aside0 (Kd.R (Kd.int .u64) 114 W w.heap.size (fun _ => True) (.slice (some ⟨w.heap.size, 0, none⟩) 17 17) ([1073741824, 0, 0, 0, 0, 0, 0, 0, 759250124, 0, 0, 0, 0, 0, 0, 0, 536870912] : List Int))) ∨ (v = .int .i64 2 ∧ Aside0 (Kd.R (Kd.int .u64) 114 W w.heap.size (fun _ => True) (.slice (some ⟨w.heap.size, 0, none⟩) 17 17) ([1073741824, 0, 0, 0, 902905650, 0, 0, 0, 759250124, 0, 0, 0, 638450707, 0, 0, 0, 536870912] : List Int))) ∨ (v = .int .i64 1 ∧ Aside0 (Kd.R (Kd.int .u64) 114 W w.heap.size (fun _ => True) (.slice (some ⟨w.heap.size, 0, none⟩) 17 17) ([1073741824, 0, 984625593, 0, 902905650, 0, 827968131, 0, 759250124, 0, 696235433, 0, 638450707, 0, 585461880, 0, 536870912] : List Int))) ∨ (v = .int .i64 0 ∧ Aside0 (Kd.R (Kd.int .u64) 114 W w.heap.size (fun _ => True) (.slice (some ⟨w.heap.size, 0, none⟩) 17 17) ([1073741824, 1028218692, 984625593, 942880698, 902905650, 864625412, 827968131, 792864998, 759250124, 727060409, 696235433, 666717334, 638450707, 611382491, 585461880, 560640217, 536870912] : List Int)))) ∧ Aside0 (Below w.heap.size w W)) (fun v _ => (intOf v).toNat)
  case atStart => exact ⟨(.inl ⟨rfl, ⟨arr_R w 114 _ [1073741824, 0, 0, 0, 0, 0, 0, 0, 0, 0, 0, 0, 0, 0, 0, 0, 536870912] rfl rfl⟩⟩), ⟨zzA (Below.refl _ _) _⟩⟩
  case round =>
    obtain ⟨h, HB⟩ := hrel
    rcases h with ⟨rfl, HO⟩ | ⟨rfl, HO⟩ | ⟨rfl, HO⟩ | ⟨rfl, HO⟩ | ⟨rfl, HO⟩
    · go_wp2_with fail
      go_loopw [2] (fun v W => ((v = .int .i64 8 ∧ Aside0 (Kd.R (Kd.int .u64) 114 W w.heap.size (fun _ => True) (.slice (some ⟨w.heap.size, 0, none⟩) 17 17) ([1073741824, 0, 0, 0, 0, 0, 0, 0, 0, 0, 0, 0, 0, 0, 0, 0, 536870912] : List Int))) ∨ (v = .int .i64 24 ∧ Aside0 (Kd.R (Kd.int .u64) 114 W w.heap.size (fun _ => True) (.slice (some ⟨w.heap.size, 0, none⟩) 17 17) ([1073741824, 0, 0, 0, 0, 0, 0, 0, 759250124, 0, 0, 0, 0, 0, 0, 0, 536870912] : List Int)))) ∧ Aside0 (Below w.heap.size w W)) (fun v _ => 64 - (intOf v).toNat)
      case atStart => exact ⟨(.inl ⟨rfl, HO⟩), HB⟩
      case round =>
        clear HO HB
        obtain ⟨h, HB⟩ := hrel
        rcases h with ⟨rfl, HO⟩ | ⟨rfl, HO⟩
        · go_wp2
          have hx0 : wr.cell? ⟨w.heap.size, 0, none⟩ = some (.int .u64 1073741824) := (Kd.R_celln 0 HO.out 0 (by decide) (by decide)).1
          have hx1 : wr.cell? ⟨w.heap.size, 16, none⟩ = some (.int .u64 536870912) := (Kd.R_celln 0 HO.out 16 (by decide) (by decide)).1
          have hx2 : wr.cell? ⟨w.heap.size, 8, none⟩ = some (.int .u64 0) := (Kd.R_celln 0 HO.out 8 (by decide) (by decide)).1
          have hf2 : wr.frozen? ⟨w.heap.size, 8, none⟩ = false := (Kd.R_celln 0 HO.out 8 (by decide) (by decide)).2
          have hw0 : IntKind.i64.wrap 0 = 0 := rfl
          have hw1 : IntKind.i64.wrap 16 = 16 := rfl
          go_region_held3 (fun w' => w'.cell? ⟨w.heap.size, 0, none⟩ = some (.int .u64 1073741824) ∧ w'.cell? ⟨w.heap.size, 16, none⟩ = some (.int .u64 536870912)) (first | go_keep | (exact ⟨cell_set_ne hx0 (by decide), cell_set_ne hx1 (by decide)⟩)) ((go_at_call 54; (with_reducible refine (table_Root.calls (IntKind.u64.wrap 576460752303423488) 759250124 _ table_Root.at_576460752303423488).mono ?_); rintro ed W2 ⟨rfl, ⟨nd, rfl⟩⟩))
          go_wp2
          have hb : Below wr.heap.size wr (wr.drewN (1 + nd)) := zzN (Below.refl _ _) _
          have hp := Kd.R_putg (Kd.R_below HO.out hb) 8 759250124
          exact ⟨⟨(.inr ⟨rfl, ⟨hp.1⟩⟩), ⟨below_set (below_then HB.out HB.out.size hb) (Nat.le_refl _)⟩⟩, by simp [intOf]⟩
        · go_wp2
          exact ⟨⟨(.inr (.inl ⟨rfl, HO⟩)), HB⟩, by simp [intOf]⟩
    · go_wp2_with fail
      go_loopw [2] (fun v W => ((v = .int .i64 4 ∧ Aside0 (Kd.R (Kd.int .u64) 114 W w.heap.size (fun _ => True) (.slice (some ⟨w.heap.size, 0, none⟩) 17 17) ([1073741824, 0, 0, 0, 0, 0, 0, 0, 759250124, 0, 0, 0, 0, 0, 0, 0, 536870912] : List Int))) ∨ (v = .int .i64 12 ∧ Aside0 (Kd.R (Kd.int .u64) 114 W w.heap.size (fun _ => True) (.slice (some ⟨w.heap.size, 0, none⟩) 17 17) ([1073741824, 0, 0, 0, 902905650, 0, 0, 0, 759250124, 0, 0, 0, 0, 0, 0, 0, 536870912] : List Int))) ∨ (v = .int .i64 20 ∧ Aside0 (Kd.R (Kd.int .u64) 114 W w.heap.size (fun _ => True) (.slice (some ⟨w.heap.size, 0, none⟩) 17 17) ([1073741824, 0, 0, 0, 902905650, 0, 0, 0, 759250124, 0, 0, 0, 638450707, 0, 0, 0, 536870912] : List Int)))) ∧ Aside0 (Below w.heap.size w W)) (fun v _ => 64 - (intOf v).toNat)
      case atStart => exact ⟨(.inl ⟨rfl, HO⟩), HB⟩
      case round =>
        clear HO HB
        obtain ⟨h, HB⟩ := hrel
        rcases h with ⟨rfl, HO⟩ | ⟨rfl, HO⟩ | ⟨rfl, HO⟩
        · go_wp2
          have hx0 : wr.cell? ⟨w.heap.size, 0, none⟩ = some (.int .u64 1073741824) := (Kd.R_celln 0 HO.out 0 (by decide) (by decide)).1
          have hx1 : wr.cell? ⟨w.heap.size, 8, none⟩ = some (.int .u64 759250124) := (Kd.R_celln 0 HO.out 8 (by decide) (by decide)).1
          have hx2 : wr.cell? ⟨w.heap.size, 4, none⟩ = some (.int .u64 0) := (Kd.R_celln 0 HO.out 4 (by decide) (by decide)).1
          have hf2 : wr.frozen? ⟨w.heap.size, 4, none⟩ = false := (Kd.R_celln 0 HO.out 4 (by decide) (by decide)).2
          have hw0 : IntKind.i64.wrap 0 = 0 := rfl
          have hw1 : IntKind.i64.wrap 8 = 8 := rfl
          go_region_held3 (fun w' => w'.cell? ⟨w.heap.size, 0, none⟩ = some (.int .u64 1073741824) ∧ w'.cell? ⟨w.heap.size, 8, none⟩ = some (.int .u64 759250124)) (first | go_keep | (exact ⟨cell_set_ne hx0 (by decide), cell_set_ne hx1 (by decide)⟩)) ((go_at_call 54; (with_reducible refine (table_Root.calls (IntKind.u64.wrap 815238613015986176) 902905650 _ table_Root.at_815238613015986176).mono ?_); rintro ed W2 ⟨rfl, ⟨nd, rfl⟩⟩))
          go_wp2
          have hb : Below wr.heap.size wr (wr.drewN (1 + nd)) := zzN (Below.refl _ _) _
          have hp := Kd.R_putg (Kd.R_below HO.out hb) 4 902905650
          exact ⟨⟨(.inr (.inl ⟨rfl, ⟨hp.1⟩⟩)), ⟨below_set (below_then HB.out HB.out.size hb) (Nat.le_refl _)⟩⟩, by simp [intOf]⟩
        · go_wp2
          have hx0 : wr.cell? ⟨w.heap.size, 8, none⟩ = some (.int .u64 759250124) := (Kd.R_celln 0 HO.out 8 (by decide) (by decide)).1
          have hx1 : wr.cell? ⟨w.heap.size, 16, none⟩ = some (.int .u64 536870912) := (Kd.R_celln 0 HO.out 16 (by decide) (by decide)).1
          have hx2 : wr.cell? ⟨w.heap.size, 12, none⟩ = some (.int .u64 0) := (Kd.R_celln 0 HO.out 12 (by decide) (by decide)).1
          have hf2 : wr.frozen? ⟨w.heap.size, 12, none⟩ = false := (Kd.R_celln 0 HO.out 12 (by decide) (by decide)).2
          have hw0 : IntKind.i64.wrap 8 = 8 := rfl
          have hw1 : IntKind.i64.wrap 16 = 16 := rfl
          go_region_held3 (fun w' => w'.cell? ⟨w.heap.size, 8, none⟩ = some (.int .u64 759250124) ∧ w'.cell? ⟨w.heap.size, 16, none⟩ = some (.int .u64 536870912)) (first | go_keep | (exact ⟨cell_set_ne hx0 (by decide), cell_set_ne hx1 (by decide)⟩)) ((go_at_call 54; (with_reducible refine (table_Root.calls (IntKind.u64.wrap 407619306507993088) 638450707 _ table_Root.at_407619306507993088).mono ?_); rintro ed W2 ⟨rfl, ⟨nd, rfl⟩⟩))
          go_wp2
          have hb : Below wr.heap.size wr (wr.drewN (1 + nd)) := zzN (Below.refl _ _) _
          have hp := Kd.R_putg (Kd.R_below HO.out hb) 12 638450707
          exact ⟨⟨(.inr (.inr ⟨rfl, ⟨hp.1⟩⟩)), ⟨below_set (below_then HB.out HB.out.size hb) (Nat.le_refl _)⟩⟩, by simp [intOf]⟩
        · go_wp2
          exact ⟨⟨(.inr (.inr (.inl ⟨rfl, HO⟩))), HB⟩, by simp [intOf]⟩
    · go_wp2_with fail
      go_loopw [2] (fun v W => ((v = .int .i64 2 ∧ Aside0 (Kd.R (Kd.int .u64) 114 W w.heap.size (fun _ => True) (.slice (some ⟨w.heap.size, 0, none⟩) 17 17) ([1073741824, 0, 0, 0, 902905650, 0, 0, 0, 759250124, 0, 0, 0, 638450707, 0, 0, 0, 536870912] : List Int))) ∨ (v = .int .i64 6 ∧ Aside0 (Kd.R (Kd.int .u64) 114 W w.heap.size (fun _ => True) (.slice (some ⟨w.heap.size, 0, none⟩) 17 17) ([1073741824, 0, 984625593, 0, 902905650, 0, 0, 0, 759250124, 0, 0, 0, 638450707, 0, 0, 0, 536870912] : List Int))) ∨ (v = .int .i64 10 ∧ Aside0 (Kd.R (Kd.int .u64) 114 W w.heap.size (fun _ => True) (.slice (some ⟨w.heap.size, 0, none⟩) 17 17) ([1073741824, 0, 984625593, 0, 902905650, 0, 827968131, 0, 759250124, 0, 0, 0, 638450707, 0, 0, 0, 536870912] : List Int))) ∨ (v = .int .i64 14 ∧ Aside0 (Kd.R (Kd.int .u64) 114 W w.heap.size (fun _ => True) (.slice (some ⟨w.heap.size, 0, none⟩) 17 17) ([1073741824, 0, 984625593, 0, 902905650, 0, 827968131, 0, 759250124, 0, 696235433, 0, 638450707, 0, 0, 0, 536870912] : List Int))) ∨ (v = .int .i64 18 ∧ Aside0 (Kd.R (Kd.int .u64) 114 W w.heap.size (fun _ => True) (.slice (some ⟨w.heap.size, 0, none⟩) 17 17) ([1073741824, 0, 984625593, 0, 902905650, 0, 827968131, 0, 759250124, 0, 696235433, 0, 638450707, 0, 585461880, 0, 536870912] : List Int)))) ∧ Aside0 (Below w.heap.size w W)) (fun v _ => 64 - (intOf v).toNat)
      case atStart => exact ⟨(.inl ⟨rfl, HO⟩), HB⟩
      case round =>
        clear HO HB
        obtain ⟨h, HB⟩ := hrel
        rcases h with ⟨rfl, HO⟩ | ⟨rfl, HO⟩ | ⟨rfl, HO⟩ | ⟨rfl, HO⟩ | ⟨rfl, HO⟩
        · go_wp2
          have hx0 : wr.cell? ⟨w.heap.size, 0, none⟩ = some (.int .u64 1073741824) := (Kd.R_celln 0 HO.out 0 (by decide) (by decide)).1
          have hx1 : wr.cell? ⟨w.heap.size, 4, none⟩ = some (.int .u64 902905650) := (Kd.R_celln 0 HO.out 4 (by decide) (by decide)).1
          have hx2 : wr.cell? ⟨w.heap.size, 2, none⟩ = some (.int .u64 0) := (Kd.R_celln 0 HO.out 2 (by decide) (by decide)).1
          have hf2 : wr.frozen? ⟨w.heap.size, 2, none⟩ = false := (Kd.R_celln 0 HO.out 2 (by decide) (by decide)).2
          have hw0 : IntKind.i64.wrap 0 = 0 := rfl
          have hw1 : IntKind.i64.wrap 4 = 4 := rfl
          go_region_held3 (fun w' => w'.cell? ⟨w.heap.size, 0, none⟩ = some (.int .u64 1073741824) ∧ w'.cell? ⟨w.heap.size, 4, none⟩ = some (.int .u64 902905650)) (first | go_keep | (exact ⟨cell_set_ne hx0 (by decide), cell_set_ne hx1 (by decide)⟩)) ((go_at_call 54; (with_reducible refine (table_Root.calls (IntKind.u64.wrap 969487559530905600) 984625593 _ table_Root.at_969487559530905600).mono ?_); rintro ed W2 ⟨rfl, ⟨nd, rfl⟩⟩))
          go_wp2
          have hb : Below wr.heap.size wr (wr.drewN (1 + nd)) := zzN (Below.refl _ _) _
          have hp := Kd.R_putg (Kd.R_below HO.out hb) 2 984625593
          exact ⟨⟨(.inr (.inl ⟨rfl, ⟨hp.1⟩⟩)), ⟨below_set (below_then HB.out HB.out.size hb) (Nat.le_refl _)⟩⟩, by simp [intOf]⟩
        · go_wp2
          have hx0 : wr.cell? ⟨w.heap.size, 4, none⟩ = some (.int .u64 902905650) := (Kd.R_celln 0 HO.out 4 (by decide) (by decide)).1
          have hx1 : wr.cell? ⟨w.heap.size, 8, none⟩ = some (.int .u64 759250124) := (Kd.R_celln 0 HO.out 8 (by decide) (by decide)).1
          have hx2 : wr.cell? ⟨w.heap.size, 6, none⟩ = some (.int .u64 0) := (Kd.R_celln 0 HO.out 6 (by decide) (by decide)).1
          have hf2 : wr.frozen? ⟨w.heap.size, 6, none⟩ = false := (Kd.R_celln 0 HO.out 6 (by decide) (by decide)).2
          have hw0 : IntKind.i64.wrap 4 = 4 := rfl
          have hw1 : IntKind.i64.wrap 8 = 8 := rfl
          go_region_held3 (fun w' => w'.cell? ⟨w.heap.size, 4, none⟩ = some (.int .u64 902905650) ∧ w'.cell? ⟨w.heap.size, 8, none⟩ = some (.int .u64 759250124)) (first | go_keep | (exact ⟨cell_set_ne hx0 (by decide), cell_set_ne hx1 (by decide)⟩)) ((go_at_call 54; (with_reducible refine (table_Root.calls (IntKind.u64.wrap 685531226722800600) 827968131 _ table_Root.at_685531226722800600).mono ?_); rintro ed W2 ⟨rfl, ⟨nd, rfl⟩⟩))
          go_wp2
          have hb : Below wr.heap.size wr (wr.drewN (1 + nd)) := zzN (Below.refl _ _) _
          have hp := Kd.R_putg (Kd.R_below HO.out hb) 6 827968131
          exact ⟨⟨(.inr (.inr (.inl ⟨rfl, ⟨hp.1⟩⟩))), ⟨below_set (below_then HB.out HB.out.size hb) (Nat.le_refl _)⟩⟩, by simp [intOf]⟩
        · go_wp2
          have hx0 : wr.cell? ⟨w.heap.size, 8, none⟩ = some (.int .u64 759250124) := (Kd.R_celln 0 HO.out 8 (by decide) (by decide)).1
          have hx1 : wr.cell? ⟨w.heap.size, 12, none⟩ = some (.int .u64 638450707) := (Kd.R_celln 0 HO.out 12 (by decide) (by decide)).1
          have hx2 : wr.cell? ⟨w.heap.size, 10, none⟩ = some (.int .u64 0) := (Kd.R_celln 0 HO.out 10 (by decide) (by decide)).1
          have hf2 : wr.frozen? ⟨w.heap.size, 10, none⟩ = false := (Kd.R_celln 0 HO.out 10 (by decide) (by decide)).2
          have hw0 : IntKind.i64.wrap 8 = 8 := rfl
          have hw1 : IntKind.i64.wrap 12 = 12 := rfl
          go_region_held3 (fun w' => w'.cell? ⟨w.heap.size, 8, none⟩ = some (.int .u64 759250124) ∧ w'.cell? ⟨w.heap.size, 12, none⟩ = some (.int .u64 638450707)) (first | go_keep | (exact ⟨cell_set_ne hx0 (by decide), cell_set_ne hx1 (by decide)⟩)) ((go_at_call 54; (with_reducible refine (table_Root.calls (IntKind.u64.wrap 484743778457637668) 696235433 _ table_Root.at_484743778457637668).mono ?_); rintro ed W2 ⟨rfl, ⟨nd, rfl⟩⟩))
          go_wp2
          have hb : Below wr.heap.size wr (wr.drewN (1 + nd)) := zzN (Below.refl _ _) _
          have hp := Kd.R_putg (Kd.R_below HO.out hb) 10 696235433
          exact ⟨⟨(.inr (.inr (.inr (.inl ⟨rfl, ⟨hp.1⟩⟩)))), ⟨below_set (below_then HB.out HB.out.size hb) (Nat.le_refl _)⟩⟩, by simp [intOf]⟩
        · go_wp2
          have hx0 : wr.cell? ⟨w.heap.size, 12, none⟩ = some (.int .u64 638450707) := (Kd.R_celln 0 HO.out 12 (by decide) (by decide)).1
          have hx1 : wr.cell? ⟨w.heap.size, 16, none⟩ = some (.int .u64 536870912) := (Kd.R_celln 0 HO.out 16 (by decide) (by decide)).1
          have hx2 : wr.cell? ⟨w.heap.size, 14, none⟩ = some (.int .u64 0) := (Kd.R_celln 0 HO.out 14 (by decide) (by decide)).1
          have hf2 : wr.frozen? ⟨w.heap.size, 14, none⟩ = false := (Kd.R_celln 0 HO.out 14 (by decide) (by decide)).2
          have hw0 : IntKind.i64.wrap 12 = 12 := rfl
          have hw1 : IntKind.i64.wrap 16 = 16 := rfl
          go_region_held3 (fun w' => w'.cell? ⟨w.heap.size, 12, none⟩ = some (.int .u64 638450707) ∧ w'.cell? ⟨w.heap.size, 16, none⟩ = some (.int .u64 536870912)) (first | go_keep | (exact ⟨cell_set_ne hx0 (by decide), cell_set_ne hx1 (by decide)⟩)) ((go_at_call 54; (with_reducible refine (table_Root.calls (IntKind.u64.wrap 342765613334134784) 585461880 _ table_Root.at_342765613334134784).mono ?_); rintro ed W2 ⟨rfl, ⟨nd, rfl⟩⟩))
          go_wp2
          have hb : Below wr.heap.size wr (wr.drewN (1 + nd)) := zzN (Below.refl _ _) _
          have hp := Kd.R_putg (Kd.R_below HO.out hb) 14 585461880
          exact ⟨⟨(.inr (.inr (.inr (.inr ⟨rfl, ⟨hp.1⟩⟩)))), ⟨below_set (below_then HB.out HB.out.size hb) (Nat.le_refl _)⟩⟩, by simp [intOf]⟩
        · go_wp2
          exact ⟨⟨(.inr (.inr (.inr (.inl ⟨rfl, HO⟩)))), HB⟩, by simp [intOf]⟩
    · go_wp2_with fail
      go_loopw [2] (fun v W => ((v = .int .i64 1 ∧ Aside0 (Kd.R (Kd.int .u64) 114 W w.heap.size (fun _ => True) (.slice (some ⟨w.heap.size, 0, none⟩) 17 17) ([1073741824, 0, 984625593, 0, 902905650, 0, 827968131, 0, 759250124, 0, 696235433, 0, 638450707, 0, 585461880, 0, 536870912] : List Int))) ∨ (v = .int .i64 3 ∧ Aside0 (Kd.R (Kd.int .u64) 114 W w.heap.size (fun _ => True) (.slice (some ⟨w.heap.size, 0, none⟩) 17 17) ([1073741824, 1028218692, 984625593, 0, 902905650, 0, 827968131, 0, 759250124, 0, 696235433, 0, 638450707, 0, 585461880, 0, 536870912] : List Int))) ∨ (v = .int .i64 5 ∧ Aside0 (Kd.R (Kd.int .u64) 114 W w.heap.size (fun _ => True) (.slice (some ⟨w.heap.size, 0, none⟩) 17 17) ([1073741824, 1028218692, 984625593, 942880698, 902905650, 0, 827968131, 0, 759250124, 0, 696235433, 0, 638450707, 0, 585461880, 0, 536870912] : List Int))) ∨ (v = .int .i64 7 ∧ Aside0 (Kd.R (Kd.int .u64) 114 W w.heap.size (fun _ => True) (.slice (some ⟨w.heap.size, 0, none⟩) 17 17) ([1073741824, 1028218692, 984625593, 942880698, 902905650, 864625412, 827968131, 0, 759250124, 0, 696235433, 0, 638450707, 0, 585461880, 0, 536870912] : List Int))) ∨ (v = .int .i64 9 ∧ Aside0 (Kd.R (Kd.int .u64) 114 W w.heap.size (fun _ => True) (.slice (some ⟨w.heap.size, 0, none⟩) 17 17) ([1073741824, 1028218692, 984625593, 942880698, 902905650, 864625412, 827968131, 792864998, 759250124, 0, 696235433, 0, 638450707, 0, 585461880, 0, 536870912] : List Int))) ∨ (v = .int .i64 11 ∧ Aside0 (Kd.R (Kd.int .u64) 114 W w.heap.size (fun _ => True) (.slice (some ⟨w.heap.size, 0, none⟩) 17 17) ([1073741824, 1028218692, 984625593, 942880698, 902905650, 864625412, 827968131, 792864998, 759250124, 727060409, 696235433, 0, 638450707, 0, 585461880, 0, 536870912] : List Int))) ∨ (v = .int .i64 13 ∧ Aside0 (Kd.R (Kd.int .u64) 114 W w.heap.size (fun _ => True) (.slice (some ⟨w.heap.size, 0, none⟩) 17 17) ([1073741824, 1028218692, 984625593, 942880698, 902905650, 864625412, 827968131, 792864998, 759250124, 727060409, 696235433, 666717334, 638450707, 0, 585461880, 0, 536870912] : List Int))) ∨ (v = .int .i64 15 ∧ Aside0 (Kd.R (Kd.int .u64) 114 W w.heap.size (fun _ => True) (.slice (some ⟨w.heap.size, 0, none⟩) 17 17) ([1073741824, 1028218692, 984625593, 942880698, 902905650, 864625412, 827968131, 792864998, 759250124, 727060409, 696235433, 666717334, 638450707, 611382491, 585461880, 0, 536870912] : List Int))) ∨ (v = .int .i64 17 ∧ Aside0 (Kd.R (Kd.int .u64) 114 W w.heap.size (fun _ => True) (.slice (some ⟨w.heap.size, 0, none⟩) 17 17) ([1073741824, 1028218692, 984625593, 942880698, 902905650, 864625412, 827968131, 792864998, 759250124, 727060409, 696235433, 666717334, 638450707, 611382491, 585461880, 560640217, 536870912] : List Int)))) ∧ Aside0 (Below w.heap.size w W)) (fun v _ => 64 - (intOf v).toNat)
      case atStart => exact ⟨(.inl ⟨rfl, HO⟩), HB⟩
      case round =>
        clear HO HB
        obtain ⟨h, HB⟩ := hrel
        rcases h with ⟨rfl, HO⟩ | ⟨rfl, HO⟩ | ⟨rfl, HO⟩ | ⟨rfl, HO⟩ | ⟨rfl, HO⟩ | ⟨rfl, HO⟩ | ⟨rfl, HO⟩ | ⟨rfl, HO⟩ | ⟨rfl, HO⟩
        · go_wp2
          have hx0 : wr.cell? ⟨w.heap.size, 0, none⟩ = some (.int .u64 1073741824) := (Kd.R_celln 0 HO.out 0 (by decide) (by decide)).1
          have hx1 : wr.cell? ⟨w.heap.size, 2, none⟩ = some (.int .u64 984625593) := (Kd.R_celln 0 HO.out 2 (by decide) (by decide)).1
          have hx2 : wr.cell? ⟨w.heap.size, 1, none⟩ = some (.int .u64 0) := (Kd.R_celln 0 HO.out 1 (by decide) (by decide)).1
          have hf2 : wr.frozen? ⟨w.heap.size, 1, none⟩ = false := (Kd.R_celln 0 HO.out 1 (by decide) (by decide)).2
          have hw0 : IntKind.i64.wrap 0 = 0 := rfl
          have hw1 : IntKind.i64.wrap 2 = 2 := rfl
          go_region_held3 (fun w' => w'.cell? ⟨w.heap.size, 0, none⟩ = some (.int .u64 1073741824) ∧ w'.cell? ⟨w.heap.size, 2, none⟩ = some (.int .u64 984625593)) (first | go_keep | (exact ⟨cell_set_ne hx0 (by decide), cell_set_ne hx1 (by decide)⟩)) ((go_at_call 54; (with_reducible refine (table_Root.calls (IntKind.u64.wrap 1057233680184901632) 1028218692 _ table_Root.at_1057233680184901632).mono ?_); rintro ed W2 ⟨rfl, ⟨nd, rfl⟩⟩))
          go_wp2
          have hb : Below wr.heap.size wr (wr.drewN (1 + nd)) := zzN (Below.refl _ _) _
          have hp := Kd.R_putg (Kd.R_below HO.out hb) 1 1028218692
          exact ⟨⟨(.inr (.inl ⟨rfl, ⟨hp.1⟩⟩)), ⟨below_set (below_then HB.out HB.out.size hb) (Nat.le_refl _)⟩⟩, by simp [intOf]⟩
        · go_wp2
          have hx0 : wr.cell? ⟨w.heap.size, 2, none⟩ = some (.int .u64 984625593) := (Kd.R_celln 0 HO.out 2 (by decide) (by decide)).1
          have hx1 : wr.cell? ⟨w.heap.size, 4, none⟩ = some (.int .u64 902905650) := (Kd.R_celln 0 HO.out 4 (by decide) (by decide)).1
          have hx2 : wr.cell? ⟨w.heap.size, 3, none⟩ = some (.int .u64 0) := (Kd.R_celln 0 HO.out 3 (by decide) (by decide)).1
          have hf2 : wr.frozen? ⟨w.heap.size, 3, none⟩ = false := (Kd.R_celln 0 HO.out 3 (by decide) (by decide)).2
          have hw0 : IntKind.i64.wrap 2 = 2 := rfl
          have hw1 : IntKind.i64.wrap 4 = 4 := rfl
          go_region_held3 (fun w' => w'.cell? ⟨w.heap.size, 2, none⟩ = some (.int .u64 984625593) ∧ w'.cell? ⟨w.heap.size, 4, none⟩ = some (.int .u64 902905650)) (first | go_keep | (exact ⟨cell_set_ne hx0 (by decide), cell_set_ne hx1 (by decide)⟩)) ((go_at_call 54; (with_reducible refine (table_Root.calls (IntKind.u64.wrap 889024011054300450) 942880698 _ table_Root.at_889024011054300450).mono ?_); rintro ed W2 ⟨rfl, ⟨nd, rfl⟩⟩))
          go_wp2
          have hb : Below wr.heap.size wr (wr.drewN (1 + nd)) := zzN (Below.refl _ _) _
          have hp := Kd.R_putg (Kd.R_below HO.out hb) 3 942880698
          exact ⟨⟨(.inr (.inr (.inl ⟨rfl, ⟨hp.1⟩⟩))), ⟨below_set (below_then HB.out HB.out.size hb) (Nat.le_refl _)⟩⟩, by simp [intOf]⟩
        · go_wp2
          have hx0 : wr.cell? ⟨w.heap.size, 4, none⟩ = some (.int .u64 902905650) := (Kd.R_celln 0 HO.out 4 (by decide) (by decide)).1
          have hx1 : wr.cell? ⟨w.heap.size, 6, none⟩ = some (.int .u64 827968131) := (Kd.R_celln 0 HO.out 6 (by decide) (by decide)).1
          have hx2 : wr.cell? ⟨w.heap.size, 5, none⟩ = some (.int .u64 0) := (Kd.R_celln 0 HO.out 5 (by decide) (by decide)).1
          have hf2 : wr.frozen? ⟨w.heap.size, 5, none⟩ = false := (Kd.R_celln 0 HO.out 5 (by decide) (by decide)).2
          have hw0 : IntKind.i64.wrap 4 = 4 := rfl
          have hw1 : IntKind.i64.wrap 6 = 6 := rfl
          go_region_held3 (fun w' => w'.cell? ⟨w.heap.size, 4, none⟩ = some (.int .u64 902905650) ∧ w'.cell? ⟨w.heap.size, 6, none⟩ = some (.int .u64 827968131)) (first | go_keep | (exact ⟨cell_set_ne hx0 (by decide), cell_set_ne hx1 (by decide)⟩)) ((go_at_call 54; (with_reducible refine (table_Root.calls (IntKind.u64.wrap 747577103499840150) 864625412 _ table_Root.at_747577103499840150).mono ?_); rintro ed W2 ⟨rfl, ⟨nd, rfl⟩⟩))
          go_wp2
          have hb : Below wr.heap.size wr (wr.drewN (1 + nd)) := zzN (Below.refl _ _) _
          have hp := Kd.R_putg (Kd.R_below HO.out hb) 5 864625412
          exact ⟨⟨(.inr (.inr (.inr (.inl ⟨rfl, ⟨hp.1⟩⟩)))), ⟨below_set (below_then HB.out HB.out.size hb) (Nat.le_refl _)⟩⟩, by simp [intOf]⟩
        · go_wp2
          have hx0 : wr.cell? ⟨w.heap.size, 6, none⟩ = some (.int .u64 827968131) := (Kd.R_celln 0 HO.out 6 (by decide) (by decide)).1
          have hx1 : wr.cell? ⟨w.heap.size, 8, none⟩ = some (.int .u64 759250124) := (Kd.R_celln 0 HO.out 8 (by decide) (by decide)).1
          have hx2 : wr.cell? ⟨w.heap.size, 7, none⟩ = some (.int .u64 0) := (Kd.R_celln 0 HO.out 7 (by decide) (by decide)).1
          have hf2 : wr.frozen? ⟨w.heap.size, 7, none⟩ = false := (Kd.R_celln 0 HO.out 7 (by decide) (by decide)).2
          have hw0 : IntKind.i64.wrap 6 = 6 := rfl
          have hw1 : IntKind.i64.wrap 8 = 8 := rfl
          go_region_held3 (fun w' => w'.cell? ⟨w.heap.size, 6, none⟩ = some (.int .u64 827968131) ∧ w'.cell? ⟨w.heap.size, 8, none⟩ = some (.int .u64 759250124)) (first | go_keep | (exact ⟨cell_set_ne hx0 (by decide), cell_set_ne hx1 (by decide)⟩)) ((go_at_call 54; (with_reducible refine (table_Root.calls (IntKind.u64.wrap 628634906129798244) 792864998 _ table_Root.at_628634906129798244).mono ?_); rintro ed W2 ⟨rfl, ⟨nd, rfl⟩⟩))
          go_wp2
          have hb : Below wr.heap.size wr (wr.drewN (1 + nd)) := zzN (Below.refl _ _) _
          have hp := Kd.R_putg (Kd.R_below HO.out hb) 7 792864998
          exact ⟨⟨(.inr (.inr (.inr (.inr (.inl ⟨rfl, ⟨hp.1⟩⟩))))), ⟨below_set (below_then HB.out HB.out.size hb) (Nat.le_refl _)⟩⟩, by simp [intOf]⟩
        · go_wp2
          have hx0 : wr.cell? ⟨w.heap.size, 8, none⟩ = some (.int .u64 759250124) := (Kd.R_celln 0 HO.out 8 (by decide) (by decide)).1
          have hx1 : wr.cell? ⟨w.heap.size, 10, none⟩ = some (.int .u64 696235433) := (Kd.R_celln 0 HO.out 10 (by decide) (by decide)).1
          have hx2 : wr.cell? ⟨w.heap.size, 9, none⟩ = some (.int .u64 0) := (Kd.R_celln 0 HO.out 9 (by decide) (by decide)).1
          have hf2 : wr.frozen? ⟨w.heap.size, 9, none⟩ = false := (Kd.R_celln 0 HO.out 9 (by decide) (by decide)).2
          have hw0 : IntKind.i64.wrap 8 = 8 := rfl
          have hw1 : IntKind.i64.wrap 10 = 10 := rfl
          go_region_held3 (fun w' => w'.cell? ⟨w.heap.size, 8, none⟩ = some (.int .u64 759250124) ∧ w'.cell? ⟨w.heap.size, 10, none⟩ = some (.int .u64 696235433)) (first | go_keep | (exact ⟨cell_set_ne hx0 (by decide), cell_set_ne hx1 (by decide)⟩)) ((go_at_call 54; (with_reducible refine (table_Root.calls (IntKind.u64.wrap 528616838838443692) 727060409 _ table_Root.at_528616838838443692).mono ?_); rintro ed W2 ⟨rfl, ⟨nd, rfl⟩⟩))
          go_wp2
          have hb : Below wr.heap.size wr (wr.drewN (1 + nd)) := zzN (Below.refl _ _) _
          have hp := Kd.R_putg (Kd.R_below HO.out hb) 9 727060409
          exact ⟨⟨(.inr (.inr (.inr (.inr (.inr (.inl ⟨rfl, ⟨hp.1⟩⟩)))))), ⟨below_set (below_then HB.out HB.out.size hb) (Nat.le_refl _)⟩⟩, by simp [intOf]⟩
        · go_wp2
          have hx0 : wr.cell? ⟨w.heap.size, 10, none⟩ = some (.int .u64 696235433) := (Kd.R_celln 0 HO.out 10 (by decide) (by decide)).1
          have hx1 : wr.cell? ⟨w.heap.size, 12, none⟩ = some (.int .u64 638450707) := (Kd.R_celln 0 HO.out 12 (by decide) (by decide)).1
          have hx2 : wr.cell? ⟨w.heap.size, 11, none⟩ = some (.int .u64 0) := (Kd.R_celln 0 HO.out 11 (by decide) (by decide)).1
          have hf2 : wr.frozen? ⟨w.heap.size, 11, none⟩ = false := (Kd.R_celln 0 HO.out 11 (by decide) (by decide)).2
          have hw0 : IntKind.i64.wrap 10 = 10 := rfl
          have hw1 : IntKind.i64.wrap 12 = 12 := rfl
          go_region_held3 (fun w' => w'.cell? ⟨w.heap.size, 10, none⟩ = some (.int .u64 696235433) ∧ w'.cell? ⟨w.heap.size, 12, none⟩ = some (.int .u64 638450707)) (first | go_keep | (exact ⟨cell_set_ne hx0 (by decide), cell_set_ne hx1 (by decide)⟩)) ((go_at_call 54; (with_reducible refine (table_Root.calls (IntKind.u64.wrap 444512004437301131) 666717334 _ table_Root.at_444512004437301131).mono ?_); rintro ed W2 ⟨rfl, ⟨nd, rfl⟩⟩))
          go_wp2
          have hb : Below wr.heap.size wr (wr.drewN (1 + nd)) := zzN (Below.refl _ _) _
          have hp := Kd.R_putg (Kd.R_below HO.out hb) 11 666717334
          exact ⟨⟨(.inr (.inr (.inr (.inr (.inr (.inr (.inl ⟨rfl, ⟨hp.1⟩⟩))))))), ⟨below_set (below_then HB.out HB.out.size hb) (Nat.le_refl _)⟩⟩, by simp [intOf]⟩
        · go_wp2
          have hx0 : wr.cell? ⟨w.heap.size, 12, none⟩ = some (.int .u64 638450707) := (Kd.R_celln 0 HO.out 12 (by decide) (by decide)).1
          have hx1 : wr.cell? ⟨w.heap.size, 14, none⟩ = some (.int .u64 585461880) := (Kd.R_celln 0 HO.out 14 (by decide) (by decide)).1
          have hx2 : wr.cell? ⟨w.heap.size, 13, none⟩ = some (.int .u64 0) := (Kd.R_celln 0 HO.out 13 (by decide) (by decide)).1
          have hf2 : wr.frozen? ⟨w.heap.size, 13, none⟩ = false := (Kd.R_celln 0 HO.out 13 (by decide) (by decide)).2
          have hw0 : IntKind.i64.wrap 12 = 12 := rfl
          have hw1 : IntKind.i64.wrap 14 = 14 := rfl
          go_region_held3 (fun w' => w'.cell? ⟨w.heap.size, 12, none⟩ = some (.int .u64 638450707) ∧ w'.cell? ⟨w.heap.size, 14, none⟩ = some (.int .u64 585461880)) (first | go_keep | (exact ⟨cell_set_ne hx0 (by decide), cell_set_ne hx1 (by decide)⟩)) ((go_at_call 54; (with_reducible refine (table_Root.calls (IntKind.u64.wrap 373788551207549160) 611382491 _ table_Root.at_373788551207549160).mono ?_); rintro ed W2 ⟨rfl, ⟨nd, rfl⟩⟩))
          go_wp2
          have hb : Below wr.heap.size wr (wr.drewN (1 + nd)) := zzN (Below.refl _ _) _
          have hp := Kd.R_putg (Kd.R_below HO.out hb) 13 611382491
          exact ⟨⟨(.inr (.inr (.inr (.inr (.inr (.inr (.inr (.inl ⟨rfl, ⟨hp.1⟩⟩)))))))), ⟨below_set (below_then HB.out HB.out.size hb) (Nat.le_refl _)⟩⟩, by simp [intOf]⟩
        · go_wp2
          have hx0 : wr.cell? ⟨w.heap.size, 14, none⟩ = some (.int .u64 585461880) := (Kd.R_celln 0 HO.out 14 (by decide) (by decide)).1
          have hx1 : wr.cell? ⟨w.heap.size, 16, none⟩ = some (.int .u64 536870912) := (Kd.R_celln 0 HO.out 16 (by decide) (by decide)).1
          have hx2 : wr.cell? ⟨w.heap.size, 15, none⟩ = some (.int .u64 0) := (Kd.R_celln 0 HO.out 15 (by decide) (by decide)).1
          have hf2 : wr.frozen? ⟨w.heap.size, 15, none⟩ = false := (Kd.R_celln 0 HO.out 15 (by decide) (by decide)).2
          have hw0 : IntKind.i64.wrap 14 = 14 := rfl
          have hw1 : IntKind.i64.wrap 16 = 16 := rfl
          go_region_held3 (fun w' => w'.cell? ⟨w.heap.size, 14, none⟩ = some (.int .u64 585461880) ∧ w'.cell? ⟨w.heap.size, 16, none⟩ = some (.int .u64 536870912)) (first | go_keep | (exact ⟨cell_set_ne hx0 (by decide), cell_set_ne hx1 (by decide)⟩)) ((go_at_call 54; (with_reducible refine (table_Root.calls (IntKind.u64.wrap 314317453456834560) 560640217 _ table_Root.at_314317453456834560).mono ?_); rintro ed W2 ⟨rfl, ⟨nd, rfl⟩⟩))
          go_wp2
          have hb : Below wr.heap.size wr (wr.drewN (1 + nd)) := zzN (Below.refl _ _) _
          have hp := Kd.R_putg (Kd.R_below HO.out hb) 15 560640217
          exact ⟨⟨(.inr (.inr (.inr (.inr (.inr (.inr (.inr (.inr ⟨rfl, ⟨hp.1⟩⟩)))))))), ⟨below_set (below_then HB.out HB.out.size hb) (Nat.le_refl _)⟩⟩, by simp [intOf]⟩
        · go_wp2
          exact ⟨⟨(.inr (.inr (.inr (.inr ⟨rfl, HO⟩)))), HB⟩, by simp [intOf]⟩
    · have hC := arr_heap HO.out
      clear hu
      have HC := Aside0.mk (setRow_heap wr w.heap.size _ (encs (Value.int .u64) ([1073741824, 1028218692, 984625593, 942880698, 902905650, 864625412, 827968131, 792864998, 759250124, 727060409, 696235433, 666717334, 638450707, 611382491, 585461880, 560640217, 536870912] : List Int)).toArray 114 (0, 0) hC)
      have hst := run_storeCells_same (P := Try.prog) wr w.heap.size 114 ([1073741824, 1028218692, 984625593, 942880698, 902905650, 864625412, 827968131, 792864998, 759250124, 727060409, 696235433, 666717334, 638450707, 611382491, 585461880, 560640217, 536870912] : List Int) hC
      go_wp2_with (refine wpList_load_row rfl 114 _ rfl w.heap.size rfl 114 _ (0, 0) _ hC Try.underlying114 rfl (by kernel_rfl) ?_)
      (try simp only [Exit.inBlock, Exit.then])
      refine bodyPost_ret (results_cell_row rfl _ _ w.heap.size 114 _ (0, 0) _ rfl HC.out Try.underlying114 rfl (by kernel_rfl)) rfl ?_
      exact ⟨rfl, below_setRow HB.out (Nat.le_refl _)⟩



/-! ### table_Exp: function 55 -/
def table_Exp.f (a0 a1 : Int) : Option (Int × Int) := if I64 a0 ∧ I64 a1 then some (expF a0 a1) else none
theorem table_Exp.of (a0 a1 : Int)  (h_ : I64 a0 ∧ I64 a1) : table_Exp.f a0 a1 = some (expF a0 a1) := if_pos h_
set_option maxHeartbeats 4000000 in
set_option maxRecDepth 100000 in
theorem table_Exp.ok (a0 a1 : Int) (w : World) (h00 : I64 a0) (h0 : 0 ≤ a1) (h1 : a1 ≤ 30) (h2 : a0 ≤ 0) (h3 : I64 (-a0)) :
    Calls Try.prog 55 #[.int .i64 a0, .int .i64 a1] w fun e w' => e = .returned (.tuple #[.int .i64 ((expF a0 a1).1), .int .i64 0]) ∧ Below w.heap.size w w' := by
  have k1 : decide (a1 < 0) = false := decide_eq_false (by omega)
  have k2 : decide (30 < a1) = false := decide_eq_false (by omega)
  have k3 : decide (0 < a0) = false := decide_eq_false (by omega)
  have HNEG : Aside0 (fix_Neg.f a0 = some (-a0, 0)) := ⟨by rw [fix_Neg.of a0 h00, res_of h3]⟩
  have HROW := Aside0.mk (row_spell (y := -a0) (f := a1) (by omega) h3 ⟨h0, h1⟩)
  have HCNT := Aside0.mk (cnt_spell (y := -a0) (f := a1) (by omega) h3 ⟨h0, h1⟩)
  have hrow := row_lt_ (-a0) (f := a1)
  have HE : Aside0 ((expF a0 a1).1 = rd tabL (-a0 % 2 ^ a1.toNat * 16 / 2 ^ a1.toNat) / 2 ^ (-a0 / 2 ^ a1.toNat + (30 - a1)).toNat) := ⟨by unfold expF; rw [if_neg (by omega), if_pos h3]⟩
  have hcnt0 : 0 ≤ -a0 / 2 ^ a1.toNat + (30 - a1) := by have := Int.ediv_nonneg (show 0 ≤ -a0 by omega) (Int.le_of_lt (pow_pos_ a1.toNat)); omega
  generalize hy : -a0 = y at *
  generalize hq : y % 2 ^ a1.toNat * 16 / 2 ^ a1.toNat = row at *
  generalize hc_ : y / 2 ^ a1.toNat + (30 - a1) = cnt at *
  have tb := tab_bd_ row hrow
  have hr0 : 0 ≤ row := hrow.1
  have hr1 : row < 17 := by omega
  have H := Aside0.mk (show 0 ≤ a1 ∧ a1 ≤ 30 from ⟨h0, h1⟩)
  clear h1 h2 h3 h00 hy hq hc_ hrow
  go_enter Try.func55, Try.ntmps55
  go_wp2_with (go_at_call 118; (with_reducible refine (fix_Neg.calls a0 y 0 _ HNEG.out).mono ?_); rintro ed W1 ⟨rfl, ⟨nd, rfl⟩⟩)
  simp only [HROW.out]
  go_wp2_with (go_at_call 119; (with_reducible refine (table_rows.gen _).mono ?_); rintro ed W1 ⟨rfl, hb⟩; have HB := Aside0.mk hb; clear hb; have hst := store_arr (P := Try.prog) W1 114 #[.int .u64 0, .int .u64 0, .int .u64 0, .int .u64 0, .int .u64 0, .int .u64 0, .int .u64 0, .int .u64 0, .int .u64 0, .int .u64 0, .int .u64 0, .int .u64 0, .int .u64 0, .int .u64 0, .int .u64 0, .int .u64 0, .int .u64 0] tabL rfl)
  have hx := arr_at W1 114 tabL row hr0 (by show row < 17; omega)
  obtain ⟨t0, ht0⟩ : ∃ t0, rd tabL row = t0 := ⟨_, rfl⟩
  rw [ht0] at hx tb
  have HE2 := HE.out
  rw [ht0] at HE2
  have HE3 := Aside0.mk HE2
  have hr2 : (row.toNat : Int) < 17 := by omega
  have hcnt := HCNT.out
  have TB := Aside0.mk tb
  clear HE HE2 tb ht0
  rcases Int.lt_or_le 63 cnt with hc | hc
  · have hd : decide (63 < cnt) = true := decide_eq_true hc
    go_region_held3 (fun w' => w'.cell? ⟨W1.heap.size, row.toNat, none⟩ = some (.int .u64 t0)) (go_keep) (fail)
    go_wp2
    go_ret2
    refine ⟨?_, below_drew (zzA (below_then (zzN (Below.refl _ _) nd) (Nat.le_refl _) HB.out) _)⟩
    rw [HE3.out, far_zero TB.out.1 TB.out.2 (by omega)]
    have := TB.out
    rw [show t0 / 9223372036854775808 = 0 by omega]; rfl
  · have hd : decide (63 < cnt) = false := decide_eq_false (by omega)
    go_region_held3 (fun w' => w'.cell? ⟨W1.heap.size, row.toNat, none⟩ = some (.int .u64 t0)) (go_keep) (fail)
    go_wp2
    go_ret2
    refine ⟨?_, below_drew (zzA (below_then (zzN (Below.refl _ _) nd) (Nat.le_refl _) HB.out) _)⟩
    have hpp := pow_pos_ cnt.toNat
    have q0 := Int.ediv_nonneg TB.out.1 (Int.le_of_lt hpp)
    have q1 := Int.ediv_le_self (2 ^ cnt.toNat) TB.out.1
    have := TB.out
    rw [HE3.out]
    have hw : IntKind.i64.wrap (t0 / 2 ^ cnt.toNat) = t0 / 2 ^ cnt.toNat := (iwrap _).trans (wrap64_of (by unfold I64; omega))
    simp only [show min cnt.toNat 64 = cnt.toNat by omega, hw]
    rfl
set_option maxHeartbeats 4000000 in
set_option maxRecDepth 100000 in
theorem table_Exp.calls (a0 : Int) (a1 : Int) (r1 : Int) (r2 : Int) (w : World) (h : table_Exp.f a0 a1 = some (r1, r2)) :
    Calls Try.prog 55 #[.int .i64 a0, .int .i64 a1] w fun e w' => e = .returned (.tuple #[.int .i64 r1, .int .i64 r2]) ∧ Below w.heap.size w w' := by
  unfold table_Exp.f at h
  split at h
  case isFalse => cases h
  rename_i hv
  have h := Option.some.inj h
  have hI := hv.1
  have bad : ∀ (w : World), a1 < 0 ∨ a1 > 30 ∨ a0 > 0 → Calls Try.prog 55 #[.int .i64 a0, .int .i64 a1] w fun e w' => e = .returned (.tuple #[.int .i64 0, .int .i64 1]) ∧ Below w.heap.size w w' := by
    intro w hh
    clear h hv hI
    rcases Bool.eq_false_or_eq_true (decide (a1 < 0)) with k1 | k1
    · clear hh
      go_enter Try.func55, Try.ntmps55
      go_wp2
      go_ret2
      exact ⟨rfl, Below.refl _ _⟩
    · rcases Bool.eq_false_or_eq_true (decide (30 < a1)) with k2 | k2
      · clear hh
        go_enter Try.func55, Try.ntmps55
        go_wp2
        go_ret2
        exact ⟨rfl, Below.refl _ _⟩
      · have k3 : decide (0 < a0) = true := decide_eq_true (by simp only [decide_eq_false_iff_not] at k1 k2; omega)
        clear hh
        go_enter Try.func55, Try.ntmps55
        go_wp2
        go_ret2
        exact ⟨rfl, Below.refl _ _⟩
  by_cases hb : a1 < 0 ∨ a1 > 30 ∨ a0 > 0
  · unfold expF at h
    rw [if_pos hb] at h
    cases h
    exact bad w hb
  · by_cases h3 : I64 (-a0)
    · have e := table_Exp.ok a0 a1 w hI (by omega) (by omega) (by omega) h3
      rw [h] at e
      have e2 : r2 = 0 := by unfold expF at h; rw [if_neg hb, if_pos h3] at h; exact (congrArg Prod.snd h).symm
      subst e2
      exact e
    · unfold expF at h
      rw [if_neg hb, if_neg h3] at h
      cases h
      have k1 : decide (a1 < 0) = false := decide_eq_false (by omega)
      have k2 : decide (30 < a1) = false := decide_eq_false (by omega)
      have k3 : decide (0 < a0) = false := decide_eq_false (by omega)
      have HNEG : Aside0 (fix_Neg.f a0 = some (0, 2)) := ⟨by rw [fix_Neg.of a0 hI, res_not h3]⟩
      clear bad hv hI hb h3
      go_enter Try.func55, Try.ntmps55
      go_wp2_with (go_at_call 118; (with_reducible refine (fix_Neg.calls a0 0 2 _ HNEG.out).mono ?_); rintro ed W1 ⟨rfl, ⟨nd, rfl⟩⟩)
      go_ret2
      exact ⟨rfl, zzN (Below.refl _ _) _⟩


end Go.Proofs.Ytfbdalnjijdknaa.HS
