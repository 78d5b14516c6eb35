/- What Go functions do, each as a plain Lean function with the same answers, and the proof of it, in every world: printed by the session's driver over the kit's print, with texts by hand. -/
import Derived.Test.YtihgcjagokippaaHSx0
import Derived.Test.YtihgcjagokippaaHSx2
import Derived.Test.YtihgcjagokippaaMini
namespace Go.Proofs.Ytihgcjagokippaa.HS
open Go.RowKit Go.Proofs.YtihgcjagokippaaW.PrintWords Go.Proofs.YtihgcjagokippaaW.PrintLast Go.Proofs.YtihgcjagokippaaW.PrintMore
attribute [local go_sem] max2_int min2_int max_two min_two max_three min_three max_four min_four   -- for this text's walks alone
open Go.Proofs.Ytihgcjagokippaa.Sp
attribute [local go_sem] Go.Proofs.Ytihgcjagokippaa.Sp.u64_not
set_option linter.unusedVariables false
set_option linter.unusedSimpArgs false

/-! ### table_Root: function 78 -/
set_option maxHeartbeats 2000000 in
set_option maxRecDepth 100000 in
theorem table_Root.gen (n : Int) (hn : U64 n) (w : World) : Calls Try.prog 78 #[.int .u64 n] w fun e w' => e = .returned (.int .u64 (rootF n)) ∧ Drawn0 w w' := by
  have hu1 := Try.underlying71
  have hu2 := Try.underlying98
  have hcv := fun (b : Nat) (w : World) => run_float_u64 (P := Try.prog) 98 71 b (by rw [hu2]; rfl) hu1 w
  have HCV := ZM hcv
  have HN := ZM hn
  have HU := ZM hn
  unfold U64 at hn
  clear hcv
  go_enter Try.func78, Try.ntmps78
  go_wp2_with (go_at_call 88; (with_reducible refine (math_Sqrt.calls _ _).mono ?_); rintro ed W2 ⟨⟨r, rfl⟩, ⟨nd, rfl⟩⟩; obtain ⟨y, m, hy, hcv⟩ := HCV.out r (w.drewN nd))
  case inl =>
    go_loopw [3] (fun v W => ∃ (z : Int) (q : Nat), v = .int .u64 z ∧ W = w.drewN q ∧ Aside0 (0 ≤ z ∧ z ≤ 4294967295)) (fun v _ => (intOf v).toNat)
    case atStart => exact ⟨_, _, rfl, rfl, ⟨by omega⟩⟩
    case round =>
      clear hy hcv
      obtain ⟨z, q, rfl, rfl, ⟨hz⟩⟩ := hrel
      have hm0 : 0 ≤ z * z := Int.mul_nonneg hz.1 hz.1
      have hm1 : z * z ≤ 4294967295 * 4294967295 := Int.mul_le_mul hz.2 hz.2 hz.1 (by omega)
      have hw : IntKind.u64.wrap (z * z) = z * z := by rw [wu, Int.emod_eq_of_lt hm0 (by omega)]
      by_cases c : n < z * z
      · have c1 : decide (n < IntKind.u64.wrap (z * z)) = true := by rw [hw]; exact decide_eq_true c
        have hz1 : 1 ≤ z := by
          rcases Int.lt_or_le 0 z with h | h
          · omega
          · have : z = 0 := by omega
            subst this; omega
        have HZ := ZM hz
        have HZ1 := ZM hz1
        clear c hw hm0 hm1 hz hz1
        go_wp2
        have := HZ.out
        have := HZ1.out
        exact ⟨⟨z - 1, q, by rw [wu, Int.emod_eq_of_lt (by omega) (by omega)], rfl, ⟨by omega⟩⟩, by rw [wu, Int.emod_eq_of_lt (by omega) (by omega)]; simp [intOf]; omega⟩
      · have c1 : decide (n < IntKind.u64.wrap (z * z)) = false := by rw [hw]; exact decide_eq_false c
        have HZ := ZM hz
        have HM : Aside0 (z * z ≤ n) := ⟨by omega⟩
        clear c hw hm0 hm1 hz
        go_wp2_with fail
        go_loopw [3] (fun v W => ∃ (z : Int) (q : Nat), v = .int .u64 z ∧ W = w.drewN q ∧ Aside0 (0 ≤ z ∧ z ≤ 4294967295) ∧ Aside0 (z * z ≤ n)) (fun v _ => 4294967295 - (intOf v).toNat)
        case atStart => exact ⟨_, _, rfl, rfl, HZ, HM⟩
        case round =>
          clear c1 HZ HM
          obtain ⟨z, q, rfl, rfl, ⟨hz⟩, ⟨hm⟩⟩ := hrel
          by_cases c : z < 4294967295
          · have c1 : decide (z < 4294967295) = true := decide_eq_true c
            have hw0 : IntKind.u64.wrap (z + 1) = z + 1 := by rw [wu, Int.emod_eq_of_lt (by omega) (by omega)]
            have hm0 : 0 ≤ (z + 1) * (z + 1) := Int.mul_nonneg (by omega) (by omega)
            have hm1 : (z + 1) * (z + 1) ≤ 4294967295 * 4294967295 := Int.mul_le_mul (by omega) (by omega) (by omega) (by omega)
            have hw : IntKind.u64.wrap ((z + 1) * (z + 1)) = (z + 1) * (z + 1) := by rw [wu, Int.emod_eq_of_lt hm0 (by omega)]
            by_cases d : (z + 1) * (z + 1) ≤ n
            · have d1 : decide (IntKind.u64.wrap (IntKind.u64.wrap (z + 1) * IntKind.u64.wrap (z + 1)) ≤ n) = true := by rw [hw0, hw]; exact decide_eq_true d
              have HZ := ZM hz
              have HD := ZM d
              have HC := ZM c
              clear c d hw hw0 hm0 hm1 hz hm
              go_wp2
              have := HZ.out
              have := HC.out
              exact ⟨⟨z + 1, q, by rw [wu, Int.emod_eq_of_lt (by omega) (by omega)], rfl, ⟨by omega⟩, HD⟩, by rw [wu, Int.emod_eq_of_lt (by omega) (by omega)]; simp [intOf]; omega⟩
            · have d1 : decide (IntKind.u64.wrap (IntKind.u64.wrap (z + 1) * IntKind.u64.wrap (z + 1)) ≤ n) = false := by rw [hw0, hw]; exact decide_eq_false d
              have HR : Aside0 (rootF n = z) := ⟨(rootF_is HU.out).unique ⟨hz.1, hm, by omega⟩⟩
              clear c d hw hw0 hm0 hm1 hz hm
              go_wp2
              go_ret
              exact ⟨by rw [HR.out]; rfl, ⟨_, rfl⟩⟩
          · have c1 : decide (z < 4294967295) = false := decide_eq_false c
            have HR : Aside0 (rootF n = z) := ⟨(rootF_is HU.out).unique ⟨hz.1, hm, by (have e : z = 4294967295 := (by omega)); (subst e); omega⟩⟩
            clear c hz hm
            go_wp2
            go_ret
            exact ⟨by rw [HR.out]; rfl, ⟨_, rfl⟩⟩
  case inr =>
    go_loopw [3] (fun v W => ∃ (z : Int) (q : Nat), v = .int .u64 z ∧ W = w.drewN q ∧ Aside0 (0 ≤ z ∧ z ≤ 4294967295)) (fun v _ => (intOf v).toNat)
    case atStart => exact ⟨_, _, rfl, rfl, ⟨by omega⟩⟩
    case round =>
      clear hy hcv
      obtain ⟨z, q, rfl, rfl, ⟨hz⟩⟩ := hrel
      have hm0 : 0 ≤ z * z := Int.mul_nonneg hz.1 hz.1
      have hm1 : z * z ≤ 4294967295 * 4294967295 := Int.mul_le_mul hz.2 hz.2 hz.1 (by omega)
      have hw : IntKind.u64.wrap (z * z) = z * z := by rw [wu, Int.emod_eq_of_lt hm0 (by omega)]
      by_cases c : n < z * z
      · have c1 : decide (n < IntKind.u64.wrap (z * z)) = true := by rw [hw]; exact decide_eq_true c
        have hz1 : 1 ≤ z := by
          rcases Int.lt_or_le 0 z with h | h
          · omega
          · have : z = 0 := by omega
            subst this; omega
        have HZ := ZM hz
        have HZ1 := ZM hz1
        clear c hw hm0 hm1 hz hz1
        go_wp2
        have := HZ.out
        have := HZ1.out
        exact ⟨⟨z - 1, q, by rw [wu, Int.emod_eq_of_lt (by omega) (by omega)], rfl, ⟨by omega⟩⟩, by rw [wu, Int.emod_eq_of_lt (by omega) (by omega)]; simp [intOf]; omega⟩
      · have c1 : decide (n < IntKind.u64.wrap (z * z)) = false := by rw [hw]; exact decide_eq_false c
        have HZ := ZM hz
        have HM : Aside0 (z * z ≤ n) := ⟨by omega⟩
        clear c hw hm0 hm1 hz
        go_wp2_with fail
        go_loopw [3] (fun v W => ∃ (z : Int) (q : Nat), v = .int .u64 z ∧ W = w.drewN q ∧ Aside0 (0 ≤ z ∧ z ≤ 4294967295) ∧ Aside0 (z * z ≤ n)) (fun v _ => 4294967295 - (intOf v).toNat)
        case atStart => exact ⟨_, _, rfl, rfl, HZ, HM⟩
        case round =>
          clear c1 HZ HM
          obtain ⟨z, q, rfl, rfl, ⟨hz⟩, ⟨hm⟩⟩ := hrel
          by_cases c : z < 4294967295
          · have c1 : decide (z < 4294967295) = true := decide_eq_true c
            have hw0 : IntKind.u64.wrap (z + 1) = z + 1 := by rw [wu, Int.emod_eq_of_lt (by omega) (by omega)]
            have hm0 : 0 ≤ (z + 1) * (z + 1) := Int.mul_nonneg (by omega) (by omega)
            have hm1 : (z + 1) * (z + 1) ≤ 4294967295 * 4294967295 := Int.mul_le_mul (by omega) (by omega) (by omega) (by omega)
            have hw : IntKind.u64.wrap ((z + 1) * (z + 1)) = (z + 1) * (z + 1) := by rw [wu, Int.emod_eq_of_lt hm0 (by omega)]
            by_cases d : (z + 1) * (z + 1) ≤ n
            · have d1 : decide (IntKind.u64.wrap (IntKind.u64.wrap (z + 1) * IntKind.u64.wrap (z + 1)) ≤ n) = true := by rw [hw0, hw]; exact decide_eq_true d
              have HZ := ZM hz
              have HD := ZM d
              have HC := ZM c
              clear c d hw hw0 hm0 hm1 hz hm
              go_wp2
              have := HZ.out
              have := HC.out
              exact ⟨⟨z + 1, q, by rw [wu, Int.emod_eq_of_lt (by omega) (by omega)], rfl, ⟨by omega⟩, HD⟩, by rw [wu, Int.emod_eq_of_lt (by omega) (by omega)]; simp [intOf]; omega⟩
            · have d1 : decide (IntKind.u64.wrap (IntKind.u64.wrap (z + 1) * IntKind.u64.wrap (z + 1)) ≤ n) = false := by rw [hw0, hw]; exact decide_eq_false d
              have HR : Aside0 (rootF n = z) := ⟨(rootF_is HU.out).unique ⟨hz.1, hm, by omega⟩⟩
              clear c d hw hw0 hm0 hm1 hz hm
              go_wp2
              go_ret
              exact ⟨by rw [HR.out]; rfl, ⟨_, rfl⟩⟩
          · have c1 : decide (z < 4294967295) = false := decide_eq_false c
            have HR : Aside0 (rootF n = z) := ⟨(rootF_is HU.out).unique ⟨hz.1, hm, by (have e : z = 4294967295 := (by omega)); (subst e); omega⟩⟩
            clear c hz hm
            go_wp2
            go_ret
            exact ⟨by rw [HR.out]; rfl, ⟨_, rfl⟩⟩
def table_Root.f (a0 : Int) : Option Int := if U64 a0 then some (rootF a0) else none
theorem table_Root.of (a0 : Int)  (h_ : U64 a0) : table_Root.f a0 = some (rootF a0) := if_pos h_
theorem table_Root.calls (a0 : Int) (r : Int) (w : World) (h : table_Root.f a0 = some r) :
    Calls Try.prog 78 #[.int .u64 a0] w fun e w' => e = .returned (.int .u64 r) ∧ Drawn0 w w' := by
  unfold table_Root.f at h
  split at h
  case isFalse => cases h
  rename_i hu
  cases h
  exact table_Root.gen a0 hu w


/-! ### table_rows: function 57 -/
theorem table_Root.at_314317453456834560 : table_Root.f (IntKind.u64.wrap 314317453456834560) = some 560640217 := by decide +kernel
theorem table_Root.at_342765613334134784 : table_Root.f (IntKind.u64.wrap 342765613334134784) = some 585461880 := by decide +kernel
theorem table_Root.at_373788551207549160 : table_Root.f (IntKind.u64.wrap 373788551207549160) = some 611382491 := by decide +kernel
theorem table_Root.at_407619306507993088 : table_Root.f (IntKind.u64.wrap 407619306507993088) = some 638450707 := by decide +kernel
theorem table_Root.at_444512004437301131 : table_Root.f (IntKind.u64.wrap 444512004437301131) = some 666717334 := by decide +kernel
theorem table_Root.at_484743778457637668 : table_Root.f (IntKind.u64.wrap 484743778457637668) = some 696235433 := by decide +kernel
theorem table_Root.at_528616838838443692 : table_Root.f (IntKind.u64.wrap 528616838838443692) = some 727060409 := by decide +kernel
theorem table_Root.at_576460752303423488 : table_Root.f (IntKind.u64.wrap 576460752303423488) = some 759250124 := by decide +kernel
theorem table_Root.at_628634906129798244 : table_Root.f (IntKind.u64.wrap 628634906129798244) = some 792864998 := by decide +kernel
theorem table_Root.at_685531226722800600 : table_Root.f (IntKind.u64.wrap 685531226722800600) = some 827968131 := by decide +kernel
theorem table_Root.at_747577103499840150 : table_Root.f (IntKind.u64.wrap 747577103499840150) = some 864625412 := by decide +kernel
theorem table_Root.at_815238613015986176 : table_Root.f (IntKind.u64.wrap 815238613015986176) = some 902905650 := by decide +kernel
theorem table_Root.at_889024011054300450 : table_Root.f (IntKind.u64.wrap 889024011054300450) = some 942880698 := by decide +kernel
theorem table_Root.at_969487559530905600 : table_Root.f (IntKind.u64.wrap 969487559530905600) = some 984625593 := by decide +kernel
theorem table_Root.at_1057233680184901632 : table_Root.f (IntKind.u64.wrap 1057233680184901632) = some 1028218692 := by decide +kernel
set_option maxHeartbeats 8000000 in
set_option maxRecDepth 100000 in
theorem table_rows.gen (w : World) : Calls Try.prog 57 #[] w fun e w' => e = .returned (.agg (encs (Value.int .u64) tabL).toArray) ∧ Below w.heap.size w w' := by
  have hu := Try.underlying72
  go_enter Try.func57, Try.ntmps57
  go_wp2_with fail
  go_loopw [1] (fun v W => ((v = .int .i64 8 ∧ Aside0 (Kd.R (Kd.int .u64) 72 W w.heap.size (fun _ => True) (.slice (some ⟨w.heap.size, 0, none⟩) 17 17) ([1073741824, 0, 0, 0, 0, 0, 0, 0, 0, 0, 0, 0, 0, 0, 0, 0, 536870912] : List Int))) ∨ (v = .int .i64 4 ∧ Aside0 (Kd.R (Kd.int .u64) 72 W w.heap.size (fun _ => True) (.slice (some ⟨w.heap.size, 0, none⟩) 17 17) ([1073741824, 0, 0, 0, 0, 0, 0, 0, 759250124, 0, 0, 0, 0, 0, 0, 0, 536870912] : List Int))) ∨ (v = .int .i64 2 ∧ Aside0 (Kd.R (Kd.int .u64) 72 W w.heap.size (fun _ => True) (.slice (some ⟨w.heap.size, 0, none⟩) 17 17) ([1073741824, 0, 0, 0, 902905650, 0, 0, 0, 759250124, 0, 0, 0, 638450707, 0, 0, 0, 536870912] : List Int))) ∨ (v = .int .i64 1 ∧ Aside0 (Kd.R (Kd.int .u64) 72 W w.heap.size (fun _ => True) (.slice (some ⟨w.heap.size, 0, none⟩) 17 17) ([1073741824, 0, 984625593, 0, 902905650, 0, 827968131, 0, 759250124, 0, 696235433, 0, 638450707, 0, 585461880, 0, 536870912] : List Int))) ∨ (v = .int .i64 0 ∧ Aside0 (Kd.R (Kd.int .u64) 72 W w.heap.size (fun _ => True) (.slice (some ⟨w.heap.size, 0, none⟩) 17 17) ([1073741824, 1028218692, 984625593, 942880698, 902905650, 864625412, 827968131, 792864998, 759250124, 727060409, 696235433, 666717334, 638450707, 611382491, 585461880, 560640217, 536870912] : List Int)))) ∧ Aside0 (Below w.heap.size w W)) (fun v _ => (intOf v).toNat)
  case atStart => exact ⟨(.inl ⟨rfl, ⟨arr_R w 72 _ [1073741824, 0, 0, 0, 0, 0, 0, 0, 0, 0, 0, 0, 0, 0, 0, 0, 536870912] rfl rfl⟩⟩), ⟨zzA (Below.refl _ _) _⟩⟩
  case round =>
    obtain ⟨h, HB⟩ := hrel
    rcases h with ⟨rfl, HO⟩ | ⟨rfl, HO⟩ | ⟨rfl, HO⟩ | ⟨rfl, HO⟩ | ⟨rfl, HO⟩
    · go_wp2_with fail
      go_loopw [2] (fun v W => ((v = .int .i64 8 ∧ Aside0 (Kd.R (Kd.int .u64) 72 W w.heap.size (fun _ => True) (.slice (some ⟨w.heap.size, 0, none⟩) 17 17) ([1073741824, 0, 0, 0, 0, 0, 0, 0, 0, 0, 0, 0, 0, 0, 0, 0, 536870912] : List Int))) ∨ (v = .int .i64 24 ∧ Aside0 (Kd.R (Kd.int .u64) 72 W w.heap.size (fun _ => True) (.slice (some ⟨w.heap.size, 0, none⟩) 17 17) ([1073741824, 0, 0, 0, 0, 0, 0, 0, 759250124, 0, 0, 0, 0, 0, 0, 0, 536870912] : List Int)))) ∧ Aside0 (Below w.heap.size w W)) (fun v _ => 64 - (intOf v).toNat)
      case atStart => exact ⟨(.inl ⟨rfl, HO⟩), HB⟩
      case round =>
        clear HO HB
        obtain ⟨h, HB⟩ := hrel
        rcases h with ⟨rfl, HO⟩ | ⟨rfl, HO⟩
        · go_wp2
          have hx0 : wr.cell? ⟨w.heap.size, 0, none⟩ = some (.int .u64 1073741824) := (Kd.R_celln 0 HO.out 0 (by decide) (by decide)).1
          have hx1 : wr.cell? ⟨w.heap.size, 16, none⟩ = some (.int .u64 536870912) := (Kd.R_celln 0 HO.out 16 (by decide) (by decide)).1
          have hx2 : wr.cell? ⟨w.heap.size, 8, none⟩ = some (.int .u64 0) := (Kd.R_celln 0 HO.out 8 (by decide) (by decide)).1
          have hf2 : wr.frozen? ⟨w.heap.size, 8, none⟩ = false := (Kd.R_celln 0 HO.out 8 (by decide) (by decide)).2
          have hw0 : IntKind.i64.wrap 0 = 0 := rfl
          have hw1 : IntKind.i64.wrap 16 = 16 := rfl
          go_region_held3 (fun w' => w'.cell? ⟨w.heap.size, 0, none⟩ = some (.int .u64 1073741824) ∧ w'.cell? ⟨w.heap.size, 16, none⟩ = some (.int .u64 536870912)) (first | go_keep | (exact ⟨cell_set_ne hx0 (by decide), cell_set_ne hx1 (by decide)⟩)) ((go_at_call 78; (with_reducible refine (table_Root.calls (IntKind.u64.wrap 576460752303423488) 759250124 _ table_Root.at_576460752303423488).mono ?_); rintro ed W2 ⟨rfl, ⟨nd, rfl⟩⟩))
          go_wp2
          have hb : Below wr.heap.size wr (wr.drewN (1 + nd)) := zzN (Below.refl _ _) _
          have hp := Kd.R_putg (Kd.R_below HO.out hb) 8 759250124
          exact ⟨⟨(.inr ⟨rfl, ⟨hp.1⟩⟩), ⟨below_set (below_then HB.out HB.out.size hb) (Nat.le_refl _)⟩⟩, by simp [intOf]⟩
        · go_wp2
          exact ⟨⟨(.inr (.inl ⟨rfl, HO⟩)), HB⟩, by simp [intOf]⟩
    · go_wp2_with fail
      go_loopw [2] (fun v W => ((v = .int .i64 4 ∧ Aside0 (Kd.R (Kd.int .u64) 72 W w.heap.size (fun _ => True) (.slice (some ⟨w.heap.size, 0, none⟩) 17 17) ([1073741824, 0, 0, 0, 0, 0, 0, 0, 759250124, 0, 0, 0, 0, 0, 0, 0, 536870912] : List Int))) ∨ (v = .int .i64 12 ∧ Aside0 (Kd.R (Kd.int .u64) 72 W w.heap.size (fun _ => True) (.slice (some ⟨w.heap.size, 0, none⟩) 17 17) ([1073741824, 0, 0, 0, 902905650, 0, 0, 0, 759250124, 0, 0, 0, 0, 0, 0, 0, 536870912] : List Int))) ∨ (v = .int .i64 20 ∧ Aside0 (Kd.R (Kd.int .u64) 72 W w.heap.size (fun _ => True) (.slice (some ⟨w.heap.size, 0, none⟩) 17 17) ([1073741824, 0, 0, 0, 902905650, 0, 0, 0, 759250124, 0, 0, 0, 638450707, 0, 0, 0, 536870912] : List Int)))) ∧ Aside0 (Below w.heap.size w W)) (fun v _ => 64 - (intOf v).toNat)
      case atStart => exact ⟨(.inl ⟨rfl, HO⟩), HB⟩
      case round =>
        clear HO HB
        obtain ⟨h, HB⟩ := hrel
        rcases h with ⟨rfl, HO⟩ | ⟨rfl, HO⟩ | ⟨rfl, HO⟩
        · go_wp2
          have hx0 : wr.cell? ⟨w.heap.size, 0, none⟩ = some (.int .u64 1073741824) := (Kd.R_celln 0 HO.out 0 (by decide) (by decide)).1
          have hx1 : wr.cell? ⟨w.heap.size, 8, none⟩ = some (.int .u64 759250124) := (Kd.R_celln 0 HO.out 8 (by decide) (by decide)).1
          have hx2 : wr.cell? ⟨w.heap.size, 4, none⟩ = some (.int .u64 0) := (Kd.R_celln 0 HO.out 4 (by decide) (by decide)).1
          have hf2 : wr.frozen? ⟨w.heap.size, 4, none⟩ = false := (Kd.R_celln 0 HO.out 4 (by decide) (by decide)).2
          have hw0 : IntKind.i64.wrap 0 = 0 := rfl
          have hw1 : IntKind.i64.wrap 8 = 8 := rfl
          go_region_held3 (fun w' => w'.cell? ⟨w.heap.size, 0, none⟩ = some (.int .u64 1073741824) ∧ w'.cell? ⟨w.heap.size, 8, none⟩ = some (.int .u64 759250124)) (first | go_keep | (exact ⟨cell_set_ne hx0 (by decide), cell_set_ne hx1 (by decide)⟩)) ((go_at_call 78; (with_reducible refine (table_Root.calls (IntKind.u64.wrap 815238613015986176) 902905650 _ table_Root.at_815238613015986176).mono ?_); rintro ed W2 ⟨rfl, ⟨nd, rfl⟩⟩))
          go_wp2
          have hb : Below wr.heap.size wr (wr.drewN (1 + nd)) := zzN (Below.refl _ _) _
          have hp := Kd.R_putg (Kd.R_below HO.out hb) 4 902905650
          exact ⟨⟨(.inr (.inl ⟨rfl, ⟨hp.1⟩⟩)), ⟨below_set (below_then HB.out HB.out.size hb) (Nat.le_refl _)⟩⟩, by simp [intOf]⟩
        · go_wp2
          have hx0 : wr.cell? ⟨w.heap.size, 8, none⟩ = some (.int .u64 759250124) := (Kd.R_celln 0 HO.out 8 (by decide) (by decide)).1
          have hx1 : wr.cell? ⟨w.heap.size, 16, none⟩ = some (.int .u64 536870912) := (Kd.R_celln 0 HO.out 16 (by decide) (by decide)).1
          have hx2 : wr.cell? ⟨w.heap.size, 12, none⟩ = some (.int .u64 0) := (Kd.R_celln 0 HO.out 12 (by decide) (by decide)).1
          have hf2 : wr.frozen? ⟨w.heap.size, 12, none⟩ = false := (Kd.R_celln 0 HO.out 12 (by decide) (by decide)).2
          have hw0 : IntKind.i64.wrap 8 = 8 := rfl
          have hw1 : IntKind.i64.wrap 16 = 16 := rfl
          go_region_held3 (fun w' => w'.cell? ⟨w.heap.size, 8, none⟩ = some (.int .u64 759250124) ∧ w'.cell? ⟨w.heap.size, 16, none⟩ = some (.int .u64 536870912)) (first | go_keep | (exact ⟨cell_set_ne hx0 (by decide), cell_set_ne hx1 (by decide)⟩)) ((go_at_call 78; (with_reducible refine (table_Root.calls (IntKind.u64.wrap 407619306507993088) 638450707 _ table_Root.at_407619306507993088).mono ?_); rintro ed W2 ⟨rfl, ⟨nd, rfl⟩⟩))
          go_wp2
          have hb : Below wr.heap.size wr (wr.drewN (1 + nd)) := zzN (Below.refl _ _) _
          have hp := Kd.R_putg (Kd.R_below HO.out hb) 12 638450707
          exact ⟨⟨(.inr (.inr ⟨rfl, ⟨hp.1⟩⟩)), ⟨below_set (below_then HB.out HB.out.size hb) (Nat.le_refl _)⟩⟩, by simp [intOf]⟩
        · go_wp2
          exact ⟨⟨(.inr (.inr (.inl ⟨rfl, HO⟩))), HB⟩, by simp [intOf]⟩
    · go_wp2_with fail
      go_loopw [2] (fun v W => ((v = .int .i64 2 ∧ Aside0 (Kd.R (Kd.int .u64) 72 W w.heap.size (fun _ => True) (.slice (some ⟨w.heap.size, 0, none⟩) 17 17) ([1073741824, 0, 0, 0, 902905650, 0, 0, 0, 759250124, 0, 0, 0, 638450707, 0, 0, 0, 536870912] : List Int))) ∨ (v = .int .i64 6 ∧ Aside0 (Kd.R (Kd.int .u64) 72 W w.heap.size (fun _ => True) (.slice (some ⟨w.heap.size, 0, none⟩) 17 17) ([1073741824, 0, 984625593, 0, 902905650, 0, 0, 0, 759250124, 0, 0, 0, 638450707, 0, 0, 0, 536870912] : List Int))) ∨ (v = .int .i64 10 ∧ Aside0 (Kd.R (Kd.int .u64) 72 W w.heap.size (fun _ => True) (.slice (some ⟨w.heap.size, 0, none⟩) 17 17) ([1073741824, 0, 984625593, 0, 902905650, 0, 827968131, 0, 759250124, 0, 0, 0, 638450707, 0, 0, 0, 536870912] : List Int))) ∨ (v = .int .i64 14 ∧ Aside0 (Kd.R (Kd.int .u64) 72 W w.heap.size (fun _ => True) (.slice (some ⟨w.heap.size, 0, none⟩) 17 17) ([1073741824, 0, 984625593, 0, 902905650, 0, 827968131, 0, 759250124, 0, 696235433, 0, 638450707, 0, 0, 0, 536870912] : List Int))) ∨ (v = .int .i64 18 ∧ Aside0 (Kd.R (Kd.int .u64) 72 W w.heap.size (fun _ => True) (.slice (some ⟨w.heap.size, 0, none⟩) 17 17) ([1073741824, 0, 984625593, 0, 902905650, 0, 827968131, 0, 759250124, 0, 696235433, 0, 638450707, 0, 585461880, 0, 536870912] : List Int)))) ∧ Aside0 (Below w.heap.size w W)) (fun v _ => 64 - (intOf v).toNat)
      case atStart => exact ⟨(.inl ⟨rfl, HO⟩), HB⟩
      case round =>
        clear HO HB
        obtain ⟨h, HB⟩ := hrel
        rcases h with ⟨rfl, HO⟩ | ⟨rfl, HO⟩ | ⟨rfl, HO⟩ | ⟨rfl, HO⟩ | ⟨rfl, HO⟩
        · go_wp2
          have hx0 : wr.cell? ⟨w.heap.size, 0, none⟩ = some (.int .u64 1073741824) := (Kd.R_celln 0 HO.out 0 (by decide) (by decide)).1
          have hx1 : wr.cell? ⟨w.heap.size, 4, none⟩ = some (.int .u64 902905650) := (Kd.R_celln 0 HO.out 4 (by decide) (by decide)).1
          have hx2 : wr.cell? ⟨w.heap.size, 2, none⟩ = some (.int .u64 0) := (Kd.R_celln 0 HO.out 2 (by decide) (by decide)).1
          have hf2 : wr.frozen? ⟨w.heap.size, 2, none⟩ = false := (Kd.R_celln 0 HO.out 2 (by decide) (by decide)).2
          have hw0 : IntKind.i64.wrap 0 = 0 := rfl
          have hw1 : IntKind.i64.wrap 4 = 4 := rfl
          go_region_held3 (fun w' => w'.cell? ⟨w.heap.size, 0, none⟩ = some (.int .u64 1073741824) ∧ w'.cell? ⟨w.heap.size, 4, none⟩ = some (.int .u64 902905650)) (first | go_keep | (exact ⟨cell_set_ne hx0 (by decide), cell_set_ne hx1 (by decide)⟩)) ((go_at_call 78; (with_reducible refine (table_Root.calls (IntKind.u64.wrap 969487559530905600) 984625593 _ table_Root.at_969487559530905600).mono ?_); rintro ed W2 ⟨rfl, ⟨nd, rfl⟩⟩))
          go_wp2
          have hb : Below wr.heap.size wr (wr.drewN (1 + nd)) := zzN (Below.refl _ _) _
          have hp := Kd.R_putg (Kd.R_below HO.out hb) 2 984625593
          exact ⟨⟨(.inr (.inl ⟨rfl, ⟨hp.1⟩⟩)), ⟨below_set (below_then HB.out HB.out.size hb) (Nat.le_refl _)⟩⟩, by simp [intOf]⟩
        · go_wp2
          have hx0 : wr.cell? ⟨w.heap.size, 4, none⟩ = some (.int .u64 902905650) := (Kd.R_celln 0 HO.out 4 (by decide) (by decide)).1
          have hx1 : wr.cell? ⟨w.heap.size, 8, none⟩ = some (.int .u64 759250124) := (Kd.R_celln 0 HO.out 8 (by decide) (by decide)).1
          have hx2 : wr.cell? ⟨w.heap.size, 6, none⟩ = some (.int .u64 0) := (Kd.R_celln 0 HO.out 6 (by decide) (by decide)).1
          have hf2 : wr.frozen? ⟨w.heap.size, 6, none⟩ = false := (Kd.R_celln 0 HO.out 6 (by decide) (by decide)).2
          have hw0 : IntKind.i64.wrap 4 = 4 := rfl
          have hw1 : IntKind.i64.wrap 8 = 8 := rfl
          go_region_held3 (fun w' => w'.cell? ⟨w.heap.size, 4, none⟩ = some (.int .u64 902905650) ∧ w'.cell? ⟨w.heap.size, 8, none⟩ = some (.int .u64 759250124)) (first | go_keep | (exact ⟨cell_set_ne hx0 (by decide), cell_set_ne hx1 (by decide)⟩)) ((go_at_call 78; (with_reducible refine (table_Root.calls (IntKind.u64.wrap 685531226722800600) 827968131 _ table_Root.at_685531226722800600).mono ?_); rintro ed W2 ⟨rfl, ⟨nd, rfl⟩⟩))
          go_wp2
          have hb : Below wr.heap.size wr (wr.drewN (1 + nd)) := zzN (Below.refl _ _) _
          have hp := Kd.R_putg (Kd.R_below HO.out hb) 6 827968131
          exact ⟨⟨(.inr (.inr (.inl ⟨rfl, ⟨hp.1⟩⟩))), ⟨below_set (below_then HB.out HB.out.size hb) (Nat.le_refl _)⟩⟩, by simp [intOf]⟩
        · go_wp2
          have hx0 : wr.cell? ⟨w.heap.size, 8, none⟩ = some (.int .u64 759250124) := (Kd.R_celln 0 HO.out 8 (by decide) (by decide)).1
          have hx1 : wr.cell? ⟨w.heap.size, 12, none⟩ = some (.int .u64 638450707) := (Kd.R_celln 0 HO.out 12 (by decide) (by decide)).1
          have hx2 : wr.cell? ⟨w.heap.size, 10, none⟩ = some (.int .u64 0) := (Kd.R_celln 0 HO.out 10 (by decide) (by decide)).1
          have hf2 : wr.frozen? ⟨w.heap.size, 10, none⟩ = false := (Kd.R_celln 0 HO.out 10 (by decide) (by decide)).2
          have hw0 : IntKind.i64.wrap 8 = 8 := rfl
          have hw1 : IntKind.i64.wrap 12 = 12 := rfl
          go_region_held3 (fun w' => w'.cell? ⟨w.heap.size, 8, none⟩ = some (.int .u64 759250124) ∧ w'.cell? ⟨w.heap.size, 12, none⟩ = some (.int .u64 638450707)) (first | go_keep | (exact ⟨cell_set_ne hx0 (by decide), cell_set_ne hx1 (by decide)⟩)) ((go_at_call 78; (with_reducible refine (table_Root.calls (IntKind.u64.wrap 484743778457637668) 696235433 _ table_Root.at_484743778457637668).mono ?_); rintro ed W2 ⟨rfl, ⟨nd, rfl⟩⟩))
          go_wp2
          have hb : Below wr.heap.size wr (wr.drewN (1 + nd)) := zzN (Below.refl _ _) _
          have hp := Kd.R_putg (Kd.R_below HO.out hb) 10 696235433
          exact ⟨⟨(.inr (.inr (.inr (.inl ⟨rfl, ⟨hp.1⟩⟩)))), ⟨below_set (below_then HB.out HB.out.size hb) (Nat.le_refl _)⟩⟩, by simp [intOf]⟩
        · go_wp2
          have hx0 : wr.cell? ⟨w.heap.size, 12, none⟩ = some (.int .u64 638450707) := (Kd.R_celln 0 HO.out 12 (by decide) (by decide)).1
          have hx1 : wr.cell? ⟨w.heap.size, 16, none⟩ = some (.int .u64 536870912) := (Kd.R_celln 0 HO.out 16 (by decide) (by decide)).1
          have hx2 : wr.cell? ⟨w.heap.size, 14, none⟩ = some (.int .u64 0) := (Kd.R_celln 0 HO.out 14 (by decide) (by decide)).1
          have hf2 : wr.frozen? ⟨w.heap.size, 14, none⟩ = false := (Kd.R_celln 0 HO.out 14 (by decide) (by decide)).2
          have hw0 : IntKind.i64.wrap 12 = 12 := rfl
          have hw1 : IntKind.i64.wrap 16 = 16 := rfl
          go_region_held3 (fun w' => w'.cell? ⟨w.heap.size, 12, none⟩ = some (.int .u64 638450707) ∧ w'.cell? ⟨w.heap.size, 16, none⟩ = some (.int .u64 536870912)) (first | go_keep | (exact ⟨cell_set_ne hx0 (by decide), cell_set_ne hx1 (by decide)⟩)) ((go_at_call 78; (with_reducible refine (table_Root.calls (IntKind.u64.wrap 342765613334134784) 585461880 _ table_Root.at_342765613334134784).mono ?_); rintro ed W2 ⟨rfl, ⟨nd, rfl⟩⟩))
          go_wp2
          have hb : Below wr.heap.size wr (wr.drewN (1 + nd)) := zzN (Below.refl _ _) _
          have hp := Kd.R_putg (Kd.R_below HO.out hb) 14 585461880
          exact ⟨⟨(.inr (.inr (.inr (.inr ⟨rfl, ⟨hp.1⟩⟩)))), ⟨below_set (below_then HB.out HB.out.size hb) (Nat.le_refl _)⟩⟩, by simp [intOf]⟩
        · go_wp2
          exact ⟨⟨(.inr (.inr (.inr (.inl ⟨rfl, HO⟩)))), HB⟩, by simp [intOf]⟩
    · go_wp2_with fail
      go_loopw [2] (fun v W => ((v = .int .i64 1 ∧ Aside0 (Kd.R (Kd.int .u64) 72 W w.heap.size (fun _ => True) (.slice (some ⟨w.heap.size, 0, none⟩) 17 17) ([1073741824, 0, 984625593, 0, 902905650, 0, 827968131, 0, 759250124, 0, 696235433, 0, 638450707, 0, 585461880, 0, 536870912] : List Int))) ∨ (v = .int .i64 3 ∧ Aside0 (Kd.R (Kd.int .u64) 72 W w.heap.size (fun _ => True) (.slice (some ⟨w.heap.size, 0, none⟩) 17 17) ([1073741824, 1028218692, 984625593, 0, 902905650, 0, 827968131, 0, 759250124, 0, 696235433, 0, 638450707, 0, 585461880, 0, 536870912] : List Int))) ∨ (v = .int .i64 5 ∧ Aside0 (Kd.R (Kd.int .u64) 72 W w.heap.size (fun _ => True) (.slice (some ⟨w.heap.size, 0, none⟩) 17 17) ([1073741824, 1028218692, 984625593, 942880698, 902905650, 0, 827968131, 0, 759250124, 0, 696235433, 0, 638450707, 0, 585461880, 0, 536870912] : List Int))) ∨ (v = .int .i64 7 ∧ Aside0 (Kd.R (Kd.int .u64) 72 W w.heap.size (fun _ => True) (.slice (some ⟨w.heap.size, 0, none⟩) 17 17) ([1073741824, 1028218692, 984625593, 942880698, 902905650, 864625412, 827968131, 0, 759250124, 0, 696235433, 0, 638450707, 0, 585461880, 0, 536870912] : List Int))) ∨ (v = .int .i64 9 ∧ Aside0 (Kd.R (Kd.int .u64) 72 W w.heap.size (fun _ => True) (.slice (some ⟨w.heap.size, 0, none⟩) 17 17) ([1073741824, 1028218692, 984625593, 942880698, 902905650, 864625412, 827968131, 792864998, 759250124, 0, 696235433, 0, 638450707, 0, 585461880, 0, 536870912] : List Int))) ∨ (v = .int .i64 11 ∧ Aside0 (Kd.R (Kd.int .u64) 72 W w.heap.size (fun _ => True) (.slice (some ⟨w.heap.size, 0, none⟩) 17 17) ([1073741824, 1028218692, 984625593, 942880698, 902905650, 864625412, 827968131, 792864998, 759250124, 727060409, 696235433, 0, 638450707, 0, 585461880, 0, 536870912] : List Int))) ∨ (v = .int .i64 13 ∧ Aside0 (Kd.R (Kd.int .u64) 72 W w.heap.size (fun _ => True) (.slice (some ⟨w.heap.size, 0, none⟩) 17 17) ([1073741824, 1028218692, 984625593, 942880698, 902905650, 864625412, 827968131, 792864998, 759250124, 727060409, 696235433, 666717334, 638450707, 0, 585461880, 0, 536870912] : List Int))) ∨ (v = .int .i64 15 ∧ Aside0 (Kd.R (Kd.int .u64) 72 W w.heap.size (fun _ => True) (.slice (some ⟨w.heap.size, 0, none⟩) 17 17) ([1073741824, 1028218692, 984625593, 942880698, 902905650, 864625412, 827968131, 792864998, 759250124, 727060409, 696235433, 666717334, 638450707, 611382491, 585461880, 0, 536870912] : List Int))) ∨ (v = .int .i64 17 ∧ Aside0 (Kd.R (Kd.int .u64) 72 W w.heap.size (fun _ => True) (.slice (some ⟨w.heap.size, 0, none⟩) 17 17) ([1073741824, 1028218692, 984625593, 942880698, 902905650, 864625412, 827968131, 792864998, 759250124, 727060409, 696235433, 666717334, 638450707, 611382491, 585461880, 560640217, 536870912] : List Int)))) ∧ Aside0 (Below w.heap.size w W)) (fun v _ => 64 - (intOf v).toNat)
      case atStart => exact ⟨(.inl ⟨rfl, HO⟩), HB⟩
      case round =>
        clear HO HB
        obtain ⟨h, HB⟩ := hrel
        rcases h with ⟨rfl, HO⟩ | ⟨rfl, HO⟩ | ⟨rfl, HO⟩ | ⟨rfl, HO⟩ | ⟨rfl, HO⟩ | ⟨rfl, HO⟩ | ⟨rfl, HO⟩ | ⟨rfl, HO⟩ | ⟨rfl, HO⟩
        · go_wp2
          have hx0 : wr.cell? ⟨w.heap.size, 0, none⟩ = some (.int .u64 1073741824) := (Kd.R_celln 0 HO.out 0 (by decide) (by decide)).1
          have hx1 : wr.cell? ⟨w.heap.size, 2, none⟩ = some (.int .u64 984625593) := (Kd.R_celln 0 HO.out 2 (by decide) (by decide)).1
          have hx2 : wr.cell? ⟨w.heap.size, 1, none⟩ = some (.int .u64 0) := (Kd.R_celln 0 HO.out 1 (by decide) (by decide)).1
          have hf2 : wr.frozen? ⟨w.heap.size, 1, none⟩ = false := (Kd.R_celln 0 HO.out 1 (by decide) (by decide)).2
          have hw0 : IntKind.i64.wrap 0 = 0 := rfl
          have hw1 : IntKind.i64.wrap 2 = 2 := rfl
          go_region_held3 (fun w' => w'.cell? ⟨w.heap.size, 0, none⟩ = some (.int .u64 1073741824) ∧ w'.cell? ⟨w.heap.size, 2, none⟩ = some (.int .u64 984625593)) (first | go_keep | (exact ⟨cell_set_ne hx0 (by decide), cell_set_ne hx1 (by decide)⟩)) ((go_at_call 78; (with_reducible refine (table_Root.calls (IntKind.u64.wrap 1057233680184901632) 1028218692 _ table_Root.at_1057233680184901632).mono ?_); rintro ed W2 ⟨rfl, ⟨nd, rfl⟩⟩))
          go_wp2
          have hb : Below wr.heap.size wr (wr.drewN (1 + nd)) := zzN (Below.refl _ _) _
          have hp := Kd.R_putg (Kd.R_below HO.out hb) 1 1028218692
          exact ⟨⟨(.inr (.inl ⟨rfl, ⟨hp.1⟩⟩)), ⟨below_set (below_then HB.out HB.out.size hb) (Nat.le_refl _)⟩⟩, by simp [intOf]⟩
        · go_wp2
          have hx0 : wr.cell? ⟨w.heap.size, 2, none⟩ = some (.int .u64 984625593) := (Kd.R_celln 0 HO.out 2 (by decide) (by decide)).1
          have hx1 : wr.cell? ⟨w.heap.size, 4, none⟩ = some (.int .u64 902905650) := (Kd.R_celln 0 HO.out 4 (by decide) (by decide)).1
          have hx2 : wr.cell? ⟨w.heap.size, 3, none⟩ = some (.int .u64 0) := (Kd.R_celln 0 HO.out 3 (by decide) (by decide)).1
          have hf2 : wr.frozen? ⟨w.heap.size, 3, none⟩ = false := (Kd.R_celln 0 HO.out 3 (by decide) (by decide)).2
          have hw0 : IntKind.i64.wrap 2 = 2 := rfl
          have hw1 : IntKind.i64.wrap 4 = 4 := rfl
          go_region_held3 (fun w' => w'.cell? ⟨w.heap.size, 2, none⟩ = some (.int .u64 984625593) ∧ w'.cell? ⟨w.heap.size, 4, none⟩ = some (.int .u64 902905650)) (first | go_keep | (exact ⟨cell_set_ne hx0 (by decide), cell_set_ne hx1 (by decide)⟩)) ((go_at_call 78; (with_reducible refine (table_Root.calls (IntKind.u64.wrap 889024011054300450) 942880698 _ table_Root.at_889024011054300450).mono ?_); rintro ed W2 ⟨rfl, ⟨nd, rfl⟩⟩))
          go_wp2
          have hb : Below wr.heap.size wr (wr.drewN (1 + nd)) := zzN (Below.refl _ _) _
          have hp := Kd.R_putg (Kd.R_below HO.out hb) 3 942880698
          exact ⟨⟨(.inr (.inr (.inl ⟨rfl, ⟨hp.1⟩⟩))), ⟨below_set (below_then HB.out HB.out.size hb) (Nat.le_refl _)⟩⟩, by simp [intOf]⟩
        · go_wp2
          have hx0 : wr.cell? ⟨w.heap.size, 4, none⟩ = some (.int .u64 902905650) := (Kd.R_celln 0 HO.out 4 (by decide) (by decide)).1
          have hx1 : wr.cell? ⟨w.heap.size, 6, none⟩ = some (.int .u64 827968131) := (Kd.R_celln 0 HO.out 6 (by decide) (by decide)).1
          have hx2 : wr.cell? ⟨w.heap.size, 5, none⟩ = some (.int .u64 0) := (Kd.R_celln 0 HO.out 5 (by decide) (by decide)).1
          have hf2 : wr.frozen? ⟨w.heap.size, 5, none⟩ = false := (Kd.R_celln 0 HO.out 5 (by decide) (by decide)).2
          have hw0 : IntKind.i64.wrap 4 = 4 := rfl
          have hw1 : IntKind.i64.wrap 6 = 6 := rfl
          go_region_held3 (fun w' => w'.cell? ⟨w.heap.size, 4, none⟩ = some (.int .u64 902905650) ∧ w'.cell? ⟨w.heap.size, 6, none⟩ = some (.int .u64 827968131)) (first | go_keep | (exact ⟨cell_set_ne hx0 (by decide), cell_set_ne hx1 (by decide)⟩)) ((go_at_call 78; (with_reducible refine (table_Root.calls (IntKind.u64.wrap 747577103499840150) 864625412 _ table_Root.at_747577103499840150).mono ?_); rintro ed W2 ⟨rfl, ⟨nd, rfl⟩⟩))
          go_wp2
          have hb : Below wr.heap.size wr (wr.drewN (1 + nd)) := zzN (Below.refl _ _) _
          have hp := Kd.R_putg (Kd.R_below HO.out hb) 5 864625412
          exact ⟨⟨(.inr (.inr (.inr (.inl ⟨rfl, ⟨hp.1⟩⟩)))), ⟨below_set (below_then HB.out HB.out.size hb) (Nat.le_refl _)⟩⟩, by simp [intOf]⟩
        · go_wp2
          have hx0 : wr.cell? ⟨w.heap.size, 6, none⟩ = some (.int .u64 827968131) := (Kd.R_celln 0 HO.out 6 (by decide) (by decide)).1
          have hx1 : wr.cell? ⟨w.heap.size, 8, none⟩ = some (.int .u64 759250124) := (Kd.R_celln 0 HO.out 8 (by decide) (by decide)).1
          have hx2 : wr.cell? ⟨w.heap.size, 7, none⟩ = some (.int .u64 0) := (Kd.R_celln 0 HO.out 7 (by decide) (by decide)).1
          have hf2 : wr.frozen? ⟨w.heap.size, 7, none⟩ = false := (Kd.R_celln 0 HO.out 7 (by decide) (by decide)).2
          have hw0 : IntKind.i64.wrap 6 = 6 := rfl
          have hw1 : IntKind.i64.wrap 8 = 8 := rfl
          go_region_held3 (fun w' => w'.cell? ⟨w.heap.size, 6, none⟩ = some (.int .u64 827968131) ∧ w'.cell? ⟨w.heap.size, 8, none⟩ = some (.int .u64 759250124)) (first | go_keep | (exact ⟨cell_set_ne hx0 (by decide), cell_set_ne hx1 (by decide)⟩)) ((go_at_call 78; (with_reducible refine (table_Root.calls (IntKind.u64.wrap 628634906129798244) 792864998 _ table_Root.at_628634906129798244).mono ?_); rintro ed W2 ⟨rfl, ⟨nd, rfl⟩⟩))
          go_wp2
          have hb : Below wr.heap.size wr (wr.drewN (1 + nd)) := zzN (Below.refl _ _) _
          have hp := Kd.R_putg (Kd.R_below HO.out hb) 7 792864998
          exact ⟨⟨(.inr (.inr (.inr (.inr (.inl ⟨rfl, ⟨hp.1⟩⟩))))), ⟨below_set (below_then HB.out HB.out.size hb) (Nat.le_refl _)⟩⟩, by simp [intOf]⟩
        · go_wp2
          have hx0 : wr.cell? ⟨w.heap.size, 8, none⟩ = some (.int .u64 759250124) := (Kd.R_celln 0 HO.out 8 (by decide) (by decide)).1
          have hx1 : wr.cell? ⟨w.heap.size, 10, none⟩ = some (.int .u64 696235433) := (Kd.R_celln 0 HO.out 10 (by decide) (by decide)).1
          have hx2 : wr.cell? ⟨w.heap.size, 9, none⟩ = some (.int .u64 0) := (Kd.R_celln 0 HO.out 9 (by decide) (by decide)).1
          have hf2 : wr.frozen? ⟨w.heap.size, 9, none⟩ = false := (Kd.R_celln 0 HO.out 9 (by decide) (by decide)).2
          have hw0 : IntKind.i64.wrap 8 = 8 := rfl
          have hw1 : IntKind.i64.wrap 10 = 10 := rfl
          go_region_held3 (fun w' => w'.cell? ⟨w.heap.size, 8, none⟩ = some (.int .u64 759250124) ∧ w'.cell? ⟨w.heap.size, 10, none⟩ = some (.int .u64 696235433)) (first | go_keep | (exact ⟨cell_set_ne hx0 (by decide), cell_set_ne hx1 (by decide)⟩)) ((go_at_call 78; (with_reducible refine (table_Root.calls (IntKind.u64.wrap 528616838838443692) 727060409 _ table_Root.at_528616838838443692).mono ?_); rintro ed W2 ⟨rfl, ⟨nd, rfl⟩⟩))
          go_wp2
          have hb : Below wr.heap.size wr (wr.drewN (1 + nd)) := zzN (Below.refl _ _) _
          have hp := Kd.R_putg (Kd.R_below HO.out hb) 9 727060409
          exact ⟨⟨(.inr (.inr (.inr (.inr (.inr (.inl ⟨rfl, ⟨hp.1⟩⟩)))))), ⟨below_set (below_then HB.out HB.out.size hb) (Nat.le_refl _)⟩⟩, by simp [intOf]⟩
        · go_wp2
          have hx0 : wr.cell? ⟨w.heap.size, 10, none⟩ = some (.int .u64 696235433) := (Kd.R_celln 0 HO.out 10 (by decide) (by decide)).1
          have hx1 : wr.cell? ⟨w.heap.size, 12, none⟩ = some (.int .u64 638450707) := (Kd.R_celln 0 HO.out 12 (by decide) (by decide)).1
          have hx2 : wr.cell? ⟨w.heap.size, 11, none⟩ = some (.int .u64 0) := (Kd.R_celln 0 HO.out 11 (by decide) (by decide)).1
          have hf2 : wr.frozen? ⟨w.heap.size, 11, none⟩ = false := (Kd.R_celln 0 HO.out 11 (by decide) (by decide)).2
          have hw0 : IntKind.i64.wrap 10 = 10 := rfl
          have hw1 : IntKind.i64.wrap 12 = 12 := rfl
          go_region_held3 (fun w' => w'.cell? ⟨w.heap.size, 10, none⟩ = some (.int .u64 696235433) ∧ w'.cell? ⟨w.heap.size, 12, none⟩ = some (.int .u64 638450707)) (first | go_keep | (exact ⟨cell_set_ne hx0 (by decide), cell_set_ne hx1 (by decide)⟩)) ((go_at_call 78; (with_reducible refine (table_Root.calls (IntKind.u64.wrap 444512004437301131) 666717334 _ table_Root.at_444512004437301131).mono ?_); rintro ed W2 ⟨rfl, ⟨nd, rfl⟩⟩))
          go_wp2
          have hb : Below wr.heap.size wr (wr.drewN (1 + nd)) := zzN (Below.refl _ _) _
          have hp := Kd.R_putg (Kd.R_below HO.out hb) 11 666717334
          exact ⟨⟨(.inr (.inr (.inr (.inr (.inr (.inr (.inl ⟨rfl, ⟨hp.1⟩⟩))))))), ⟨below_set (below_then HB.out HB.out.size hb) (Nat.le_refl _)⟩⟩, by simp [intOf]⟩
        · go_wp2
          have hx0 : wr.cell? ⟨w.heap.size, 12, none⟩ = some (.int .u64 638450707) := (Kd.R_celln 0 HO.out 12 (by decide) (by decide)).1
          have hx1 : wr.cell? ⟨w.heap.size, 14, none⟩ = some (.int .u64 585461880) := (Kd.R_celln 0 HO.out 14 (by decide) (by decide)).1
          have hx2 : wr.cell? ⟨w.heap.size, 13, none⟩ = some (.int .u64 0) := (Kd.R_celln 0 HO.out 13 (by decide) (by decide)).1
          have hf2 : wr.frozen? ⟨w.heap.size, 13, none⟩ = false := (Kd.R_celln 0 HO.out 13 (by decide) (by decide)).2
          have hw0 : IntKind.i64.wrap 12 = 12 := rfl
          have hw1 : IntKind.i64.wrap 14 = 14 := rfl
          go_region_held3 (fun w' => w'.cell? ⟨w.heap.size, 12, none⟩ = some (.int .u64 638450707) ∧ w'.cell? ⟨w.heap.size, 14, none⟩ = some (.int .u64 585461880)) (first | go_keep | (exact ⟨cell_set_ne hx0 (by decide), cell_set_ne hx1 (by decide)⟩)) ((go_at_call 78; (with_reducible refine (table_Root.calls (IntKind.u64.wrap 373788551207549160) 611382491 _ table_Root.at_373788551207549160).mono ?_); rintro ed W2 ⟨rfl, ⟨nd, rfl⟩⟩))
          go_wp2
          have hb : Below wr.heap.size wr (wr.drewN (1 + nd)) := zzN (Below.refl _ _) _
          have hp := Kd.R_putg (Kd.R_below HO.out hb) 13 611382491
          exact ⟨⟨(.inr (.inr (.inr (.inr (.inr (.inr (.inr (.inl ⟨rfl, ⟨hp.1⟩⟩)))))))), ⟨below_set (below_then HB.out HB.out.size hb) (Nat.le_refl _)⟩⟩, by simp [intOf]⟩
        · go_wp2
          have hx0 : wr.cell? ⟨w.heap.size, 14, none⟩ = some (.int .u64 585461880) := (Kd.R_celln 0 HO.out 14 (by decide) (by decide)).1
          have hx1 : wr.cell? ⟨w.heap.size, 16, none⟩ = some (.int .u64 536870912) := (Kd.R_celln 0 HO.out 16 (by decide) (by decide)).1
          have hx2 : wr.cell? ⟨w.heap.size, 15, none⟩ = some (.int .u64 0) := (Kd.R_celln 0 HO.out 15 (by decide) (by decide)).1
          have hf2 : wr.frozen? ⟨w.heap.size, 15, none⟩ = false := (Kd.R_celln 0 HO.out 15 (by decide) (by decide)).2
          have hw0 : IntKind.i64.wrap 14 = 14 := rfl
          have hw1 : IntKind.i64.wrap 16 = 16 := rfl
          go_region_held3 (fun w' => w'.cell? ⟨w.heap.size, 14, none⟩ = some (.int .u64 585461880) ∧ w'.cell? ⟨w.heap.size, 16, none⟩ = some (.int .u64 536870912)) (first | go_keep | (exact ⟨cell_set_ne hx0 (by decide), cell_set_ne hx1 (by decide)⟩)) ((go_at_call 78; (with_reducible refine (table_Root.calls (IntKind.u64.wrap 314317453456834560) 560640217 _ table_Root.at_314317453456834560).mono ?_); rintro ed W2 ⟨rfl, ⟨nd, rfl⟩⟩))
          go_wp2
          have hb : Below wr.heap.size wr (wr.drewN (1 + nd)) := zzN (Below.refl _ _) _
          have hp := Kd.R_putg (Kd.R_below HO.out hb) 15 560640217
          exact ⟨⟨(.inr (.inr (.inr (.inr (.inr (.inr (.inr (.inr ⟨rfl, ⟨hp.1⟩⟩)))))))), ⟨below_set (below_then HB.out HB.out.size hb) (Nat.le_refl _)⟩⟩, by simp [intOf]⟩
        · go_wp2
          exact ⟨⟨(.inr (.inr (.inr (.inr ⟨rfl, HO⟩)))), HB⟩, by simp [intOf]⟩
    · have hC := arr_heap HO.out
      clear hu
      have HC := ZM (setRow_heap wr w.heap.size _ (encs (Value.int .u64) ([1073741824, 1028218692, 984625593, 942880698, 902905650, 864625412, 827968131, 792864998, 759250124, 727060409, 696235433, 666717334, 638450707, 611382491, 585461880, 560640217, 536870912] : List Int)).toArray 72 (0, 0) hC)
      have hst := run_storeCells_same (P := Try.prog) wr w.heap.size 72 ([1073741824, 1028218692, 984625593, 942880698, 902905650, 864625412, 827968131, 792864998, 759250124, 727060409, 696235433, 666717334, 638450707, 611382491, 585461880, 560640217, 536870912] : List Int) hC
      go_wp2_with (refine wpList_load_row rfl 72 _ rfl w.heap.size rfl 72 _ (0, 0) _ hC Try.underlying72 rfl (by kernel_rfl) ?_)
      (try simp only [Exit.inBlock, Exit.then])
      refine bodyPost_ret (results_cell_row rfl _ _ w.heap.size 72 _ (0, 0) _ rfl HC.out Try.underlying72 rfl (by kernel_rfl)) rfl ?_
      exact ⟨rfl, below_setRow HB.out (Nat.le_refl _)⟩



/-! ### table_Exp: function 39 -/
def table_Exp.f (a0 a1 : Int) : Option (Int × Int) := if I64 a0 ∧ I64 a1 then some (expF a0 a1) else none
theorem table_Exp.of (a0 a1 : Int)  (h_ : I64 a0 ∧ I64 a1) : table_Exp.f a0 a1 = some (expF a0 a1) := if_pos h_
set_option maxHeartbeats 4000000 in
set_option maxRecDepth 100000 in
theorem table_Exp.ok (a0 a1 : Int) (w : World) (h00 : I64 a0) (h0 : 0 ≤ a1) (h1 : a1 ≤ 30) (h2 : a0 ≤ 0) (h3 : I64 (-a0)) :
    Calls Try.prog 39 #[.int .i64 a0, .int .i64 a1] w fun e w' => e = .returned (.tuple #[.int .i64 ((expF a0 a1).1), .int .i64 0]) ∧ Below w.heap.size w w' := by
  have k1 : decide (a1 < 0) = false := decide_eq_false (by omega)
  have k2 : decide (30 < a1) = false := decide_eq_false (by omega)
  have k3 : decide (0 < a0) = false := decide_eq_false (by omega)
  have HNEG : Aside0 (fix_Neg.f a0 = some (-a0, 0)) := ⟨by rw [fix_Neg.of a0 h00, res_of h3]⟩
  have HROW := ZM (row_spell (y := -a0) (f := a1) (by omega) h3 ⟨h0, h1⟩)
  have HCNT := ZM (cnt_spell (y := -a0) (f := a1) (by omega) h3 ⟨h0, h1⟩)
  have hrow := row_lt_ (-a0) (f := a1)
  have HE : Aside0 ((expF a0 a1).1 = rd tabL (-a0 % 2 ^ a1.toNat * 16 / 2 ^ a1.toNat) / 2 ^ (-a0 / 2 ^ a1.toNat + (30 - a1)).toNat) := ⟨by unfold expF; rw [if_neg (by omega), if_pos h3]⟩
  have hcnt0 : 0 ≤ -a0 / 2 ^ a1.toNat + (30 - a1) := by have := Int.ediv_nonneg (show 0 ≤ -a0 by omega) (Int.le_of_lt (pow_pos_ a1.toNat)); omega
  generalize hy : -a0 = y at *
  generalize hq : y % 2 ^ a1.toNat * 16 / 2 ^ a1.toNat = row at *
  generalize hc_ : y / 2 ^ a1.toNat + (30 - a1) = cnt at *
  have tb := tab_bd_ row hrow
  have hr0 : 0 ≤ row := hrow.1
  have hr1 : row < 17 := by omega
  have H := ZM (show 0 ≤ a1 ∧ a1 ≤ 30 from ⟨h0, h1⟩)
  clear h1 h2 h3 h00 hy hq hc_ hrow
  go_enter Try.func39, Try.ntmps39
  go_wp2_with (go_at_call 56; (with_reducible refine (fix_Neg.calls a0 y 0 _ HNEG.out).mono ?_); rintro ed W1 ⟨rfl, ⟨nd, rfl⟩⟩)
  simp only [HROW.out]
  go_wp2_with (go_at_call 57; (with_reducible refine (table_rows.gen _).mono ?_); rintro ed W1 ⟨rfl, hb⟩; have HB := ZM hb; clear hb; have hst := store_arr (P := Try.prog) W1 72 #[.int .u64 0, .int .u64 0, .int .u64 0, .int .u64 0, .int .u64 0, .int .u64 0, .int .u64 0, .int .u64 0, .int .u64 0, .int .u64 0, .int .u64 0, .int .u64 0, .int .u64 0, .int .u64 0, .int .u64 0, .int .u64 0, .int .u64 0] tabL rfl)
  have hx := arr_at W1 72 tabL row hr0 (by show row < 17; omega)
  obtain ⟨t0, ht0⟩ : ∃ t0, rd tabL row = t0 := ⟨_, rfl⟩
  rw [ht0] at hx tb
  have HE2 := HE.out
  rw [ht0] at HE2
  have HE3 := ZM HE2
  have hr2 : (row.toNat : Int) < 17 := by omega
  have hcnt := HCNT.out
  have TB := ZM tb
  clear HE HE2 tb ht0
  rcases Int.lt_or_le 63 cnt with hc | hc
  · have hd : decide (63 < cnt) = true := decide_eq_true hc
    go_region_held3 (fun w' => w'.cell? ⟨W1.heap.size, row.toNat, none⟩ = some (.int .u64 t0)) (go_keep) (fail)
    go_wp2
    go_ret2
    refine ⟨?_, below_drew (zzA (below_then (zzN (Below.refl _ _) nd) (Nat.le_refl _) HB.out) _)⟩
    rw [HE3.out, far_zero TB.out.1 TB.out.2 (by omega)]
    have := TB.out
    rw [show t0 / 9223372036854775808 = 0 by omega]; rfl
  · have hd : decide (63 < cnt) = false := decide_eq_false (by omega)
    go_region_held3 (fun w' => w'.cell? ⟨W1.heap.size, row.toNat, none⟩ = some (.int .u64 t0)) (go_keep) (fail)
    go_wp2
    go_ret2
    refine ⟨?_, below_drew (zzA (below_then (zzN (Below.refl _ _) nd) (Nat.le_refl _) HB.out) _)⟩
    have hpp := pow_pos_ cnt.toNat
    have q0 := Int.ediv_nonneg TB.out.1 (Int.le_of_lt hpp)
    have q1 := Int.ediv_le_self (2 ^ cnt.toNat) TB.out.1
    have := TB.out
    rw [HE3.out]
    have hw : IntKind.i64.wrap (t0 / 2 ^ cnt.toNat) = t0 / 2 ^ cnt.toNat := (iwrap _).trans (wrap64_of (by unfold I64; omega))
    simp only [show min cnt.toNat 64 = cnt.toNat by omega, hw]
    rfl
set_option maxHeartbeats 4000000 in
set_option maxRecDepth 100000 in
theorem table_Exp.calls (a0 : Int) (a1 : Int) (r1 : Int) (r2 : Int) (w : World) (h : table_Exp.f a0 a1 = some (r1, r2)) :
    Calls Try.prog 39 #[.int .i64 a0, .int .i64 a1] w fun e w' => e = .returned (.tuple #[.int .i64 r1, .int .i64 r2]) ∧ Below w.heap.size w w' := by
 unfold table_Exp.f at h
 split at h
 case isFalse => cases h
 rename_i hv
 have h := Option.some.inj h
 have hI := hv.1
 have bad : ∀ (w : World), a1 < 0 ∨ a1 > 30 ∨ a0 > 0 → Calls Try.prog 39 #[.int .i64 a0, .int .i64 a1] w fun e w' => e = .returned (.tuple #[.int .i64 0, .int .i64 1]) ∧ Below w.heap.size w w' := by
  intro w hh
  clear h hv hI
  rcases Bool.eq_false_or_eq_true (decide (a1 < 0)) with k1 | k1
  · clear hh
    go_enter Try.func39, Try.ntmps39
    go_wp2
    go_ret2
    exact ⟨rfl, Below.refl _ _⟩
  · rcases Bool.eq_false_or_eq_true (decide (30 < a1)) with k2 | k2
    · clear hh
      go_enter Try.func39, Try.ntmps39
      go_wp2
      go_ret2
      exact ⟨rfl, Below.refl _ _⟩
    · have k3 : decide (0 < a0) = true := decide_eq_true (by simp only [decide_eq_false_iff_not] at k1 k2; omega)
      clear hh
      go_enter Try.func39, Try.ntmps39
      go_wp2
      go_ret2
      exact ⟨rfl, Below.refl _ _⟩
 by_cases hb : a1 < 0 ∨ a1 > 30 ∨ a0 > 0
 · unfold expF at h
   rw [if_pos hb] at h
   cases h
   exact bad w hb
 · by_cases h3 : I64 (-a0)
   · have e := table_Exp.ok a0 a1 w hI (by omega) (by omega) (by omega) h3
     rw [h] at e
     have e2 : r2 = 0 := by unfold expF at h; rw [if_neg hb, if_pos h3] at h; exact (congrArg Prod.snd h).symm
     subst e2
     exact e
   · unfold expF at h
     rw [if_neg hb, if_neg h3] at h
     cases h
     have k1 : decide (a1 < 0) = false := decide_eq_false (by omega)
     have k2 : decide (30 < a1) = false := decide_eq_false (by omega)
     have k3 : decide (0 < a0) = false := decide_eq_false (by omega)
     have HNEG : Aside0 (fix_Neg.f a0 = some (0, 2)) := ⟨by rw [fix_Neg.of a0 hI, res_not h3]⟩
     clear bad hv hI hb h3
     go_enter Try.func39, Try.ntmps39
     go_wp2_with (go_at_call 56; (with_reducible refine (fix_Neg.calls a0 0 2 _ HNEG.out).mono ?_); rintro ed W1 ⟨rfl, ⟨nd, rfl⟩⟩)
     go_ret2
     exact ⟨rfl, zzN (Below.refl _ _) _⟩
/-! ### fix_sizeP: function 60 -/
def fix_sizeP.f (a0 : Int) : Option (Int) := if a0 < 0 then (some (IntKind.u64.wrap (-(IntKind.u64.wrap (a0))))) else (some (IntKind.u64.wrap (a0)))
set_option maxHeartbeats 8000000 in
set_option maxRecDepth 100000 in
theorem fix_sizeP.calls (a0 : Int) (r : Int) (w : World) (h : fix_sizeP.f a0 = some r) :
  Calls Try.prog 60 #[.int .i64 a0] w fun e w' => e = .returned (.int .u64 r) ∧ Drawn0 w w' := by
 have H : (if a0 < 0 then (some (IntKind.u64.wrap (-(IntKind.u64.wrap (a0))))) else (some (IntKind.u64.wrap (a0)))) = some r := h
 clear h
 by_cases c2 : a0 < 0
 case neg =>
  rw [if_neg c2] at H
  have c2b0 : decide (a0 < 0) = false := decide_eq_false c2
  clear c2
  obtain rfl := Option.some.inj H
  go_enter Try.func60, Try.ntmps60
  go_wp2
  go_ret
  exact ⟨by first | rfl | (simp; done) | (simp [*]; done), by repeat (first | exact ddR _ | apply ddS)⟩
 rw [if_pos c2] at H
 have c2b0 : decide (a0 < 0) = true := decide_eq_true c2
 clear c2
 obtain rfl := Option.some.inj H
 go_enter Try.func60, Try.ntmps60
 go_wp2
 go_ret
 exact ⟨by first | rfl | (simp; done) | (simp [*]; done), by repeat (first | exact ddR _ | apply ddS)⟩
def fix_size.f (a0 : Int) : Option Int := if I64 a0 then some (a0.natAbs : Int) else none
theorem fix_size.of (a0 : Int)  (h_ : I64 a0) : fix_size.f a0 = some (a0.natAbs : Int) := if_pos h_
theorem fix_size.calls (a0 : Int) (r : Int) (w : World) (h : fix_size.f a0 = some r) :
    Calls Try.prog 60 #[.int .i64 a0] w fun e w' => e = .returned (.int .u64 r) ∧ Drawn0 w w' := by
  unfold fix_size.f at h
  split at h
  · rename_i hu
    refine fix_sizeP.calls a0 r w (Eq.trans ?_ h)
    unfold fix_sizeP.f; unfold I64 at hu; simp only [wu]
    split <;> simp only [Option.some.injEq] <;> omega
  · cases h


/-! ### bits_Len64P: function 89 -/
def bits_Len64P.j0 : Nat → Int → Int → Option (Int)
 | 0, _, _ => none
 | k + 1, x0, x2 => if x0 ≥ 65536 then (if (x0 / 65536) ≥ 256 then (if 0 ≤ (((x0 / 65536) / 256) % 256) then (if (((x0 / 65536) / 256) % 256) < 256 then (some (wrap64 ((wrap64 ((wrap64 (x2 + 16)) + 8)) + (wrap64 (bt (⟨#[0, 1, 2, 2, 3, 3, 3, 3, 4, 4, 4, 4, 4, 4, 4, 4, 5, 5, 5, 5, 5, 5, 5, 5, 5, 5, 5, 5, 5, 5, 5, 5, 6, 6, 6, 6, 6, 6, 6, 6, 6, 6, 6, 6, 6, 6, 6, 6, 6, 6, 6, 6, 6, 6, 6, 6, 6, 6, 6, 6, 6, 6, 6, 6, 7, 7, 7, 7, 7, 7, 7, 7, 7, 7, 7, 7, 7, 7, 7, 7, 7, 7, 7, 7, 7, 7, 7, 7, 7, 7, 7, 7, 7, 7, 7, 7, 7, 7, 7, 7, 7, 7, 7, 7, 7, 7, 7, 7, 7, 7, 7, 7, 7, 7, 7, 7, 7, 7, 7, 7, 7, 7, 7, 7, 7, 7, 7, 7, 8, 8, 8, 8, 8, 8, 8, 8, 8, 8, 8, 8, 8, 8, 8, 8, 8, 8, 8, 8, 8, 8, 8, 8, 8, 8, 8, 8, 8, 8, 8, 8, 8, 8, 8, 8, 8, 8, 8, 8, 8, 8, 8, 8, 8, 8, 8, 8, 8, 8, 8, 8, 8, 8, 8, 8, 8, 8, 8, 8, 8, 8, 8, 8, 8, 8, 8, 8, 8, 8, 8, 8, 8, 8, 8, 8, 8, 8, 8, 8, 8, 8, 8, 8, 8, 8, 8, 8, 8, 8, 8, 8, 8, 8, 8, 8, 8, 8, 8, 8, 8, 8, 8, 8, 8, 8, 8, 8, 8, 8, 8, 8, 8, 8, 8, 8, 8, 8, 8, 8, 8, 8, 8, 8, 8, 8, 8, 8]⟩ : ByteArray) (((x0 / 65536) / 256) % 256)))))) else (none)) else (none)) else (if 0 ≤ ((x0 / 65536) % 256) then (if ((x0 / 65536) % 256) < 256 then (some (wrap64 ((wrap64 (x2 + 16)) + (wrap64 (bt (⟨#[0, 1, 2, 2, 3, 3, 3, 3, 4, 4, 4, 4, 4, 4, 4, 4, 5, 5, 5, 5, 5, 5, 5, 5, 5, 5, 5, 5, 5, 5, 5, 5, 6, 6, 6, 6, 6, 6, 6, 6, 6, 6, 6, 6, 6, 6, 6, 6, 6, 6, 6, 6, 6, 6, 6, 6, 6, 6, 6, 6, 6, 6, 6, 6, 7, 7, 7, 7, 7, 7, 7, 7, 7, 7, 7, 7, 7, 7, 7, 7, 7, 7, 7, 7, 7, 7, 7, 7, 7, 7, 7, 7, 7, 7, 7, 7, 7, 7, 7, 7, 7, 7, 7, 7, 7, 7, 7, 7, 7, 7, 7, 7, 7, 7, 7, 7, 7, 7, 7, 7, 7, 7, 7, 7, 7, 7, 7, 7, 8, 8, 8, 8, 8, 8, 8, 8, 8, 8, 8, 8, 8, 8, 8, 8, 8, 8, 8, 8, 8, 8, 8, 8, 8, 8, 8, 8, 8, 8, 8, 8, 8, 8, 8, 8, 8, 8, 8, 8, 8, 8, 8, 8, 8, 8, 8, 8, 8, 8, 8, 8, 8, 8, 8, 8, 8, 8, 8, 8, 8, 8, 8, 8, 8, 8, 8, 8, 8, 8, 8, 8, 8, 8, 8, 8, 8, 8, 8, 8, 8, 8, 8, 8, 8, 8, 8, 8, 8, 8, 8, 8, 8, 8, 8, 8, 8, 8, 8, 8, 8, 8, 8, 8, 8, 8, 8, 8, 8, 8, 8, 8, 8, 8, 8, 8, 8, 8, 8, 8, 8, 8, 8, 8, 8, 8, 8, 8]⟩ : ByteArray) ((x0 / 65536) % 256)))))) else (none)) else (none))) else (if x0 ≥ 256 then (if 0 ≤ ((x0 / 256) % 256) then (if ((x0 / 256) % 256) < 256 then (some (wrap64 ((wrap64 (x2 + 8)) + (wrap64 (bt (⟨#[0, 1, 2, 2, 3, 3, 3, 3, 4, 4, 4, 4, 4, 4, 4, 4, 5, 5, 5, 5, 5, 5, 5, 5, 5, 5, 5, 5, 5, 5, 5, 5, 6, 6, 6, 6, 6, 6, 6, 6, 6, 6, 6, 6, 6, 6, 6, 6, 6, 6, 6, 6, 6, 6, 6, 6, 6, 6, 6, 6, 6, 6, 6, 6, 7, 7, 7, 7, 7, 7, 7, 7, 7, 7, 7, 7, 7, 7, 7, 7, 7, 7, 7, 7, 7, 7, 7, 7, 7, 7, 7, 7, 7, 7, 7, 7, 7, 7, 7, 7, 7, 7, 7, 7, 7, 7, 7, 7, 7, 7, 7, 7, 7, 7, 7, 7, 7, 7, 7, 7, 7, 7, 7, 7, 7, 7, 7, 7, 8, 8, 8, 8, 8, 8, 8, 8, 8, 8, 8, 8, 8, 8, 8, 8, 8, 8, 8, 8, 8, 8, 8, 8, 8, 8, 8, 8, 8, 8, 8, 8, 8, 8, 8, 8, 8, 8, 8, 8, 8, 8, 8, 8, 8, 8, 8, 8, 8, 8, 8, 8, 8, 8, 8, 8, 8, 8, 8, 8, 8, 8, 8, 8, 8, 8, 8, 8, 8, 8, 8, 8, 8, 8, 8, 8, 8, 8, 8, 8, 8, 8, 8, 8, 8, 8, 8, 8, 8, 8, 8, 8, 8, 8, 8, 8, 8, 8, 8, 8, 8, 8, 8, 8, 8, 8, 8, 8, 8, 8, 8, 8, 8, 8, 8, 8, 8, 8, 8, 8, 8, 8, 8, 8, 8, 8, 8, 8]⟩ : ByteArray) ((x0 / 256) % 256)))))) else (none)) else (none)) else (if 0 ≤ ((x0) % 256) then (if ((x0) % 256) < 256 then (some (wrap64 (x2 + (wrap64 (bt (⟨#[0, 1, 2, 2, 3, 3, 3, 3, 4, 4, 4, 4, 4, 4, 4, 4, 5, 5, 5, 5, 5, 5, 5, 5, 5, 5, 5, 5, 5, 5, 5, 5, 6, 6, 6, 6, 6, 6, 6, 6, 6, 6, 6, 6, 6, 6, 6, 6, 6, 6, 6, 6, 6, 6, 6, 6, 6, 6, 6, 6, 6, 6, 6, 6, 7, 7, 7, 7, 7, 7, 7, 7, 7, 7, 7, 7, 7, 7, 7, 7, 7, 7, 7, 7, 7, 7, 7, 7, 7, 7, 7, 7, 7, 7, 7, 7, 7, 7, 7, 7, 7, 7, 7, 7, 7, 7, 7, 7, 7, 7, 7, 7, 7, 7, 7, 7, 7, 7, 7, 7, 7, 7, 7, 7, 7, 7, 7, 7, 8, 8, 8, 8, 8, 8, 8, 8, 8, 8, 8, 8, 8, 8, 8, 8, 8, 8, 8, 8, 8, 8, 8, 8, 8, 8, 8, 8, 8, 8, 8, 8, 8, 8, 8, 8, 8, 8, 8, 8, 8, 8, 8, 8, 8, 8, 8, 8, 8, 8, 8, 8, 8, 8, 8, 8, 8, 8, 8, 8, 8, 8, 8, 8, 8, 8, 8, 8, 8, 8, 8, 8, 8, 8, 8, 8, 8, 8, 8, 8, 8, 8, 8, 8, 8, 8, 8, 8, 8, 8, 8, 8, 8, 8, 8, 8, 8, 8, 8, 8, 8, 8, 8, 8, 8, 8, 8, 8, 8, 8, 8, 8, 8, 8, 8, 8, 8, 8, 8, 8, 8, 8, 8, 8, 8, 8, 8, 8]⟩ : ByteArray) ((x0) % 256)))))) else (none)) else (none)))
def bits_Len64P.f (k : Nat) (a0 : Int) : Option (Int) := if a0 ≥ 4294967296 then (bits_Len64P.j0 k (a0 / 4294967296) 32) else (bits_Len64P.j0 k a0 0)
theorem bits_Len64P.mono_l : ∀ k, (∀ y0 y1, LeO (bits_Len64P.j0 k y0 y1) (bits_Len64P.j0 (k + 1) y0 y1))
 | 0 => fun _ _ r h => by simp [bits_Len64P.j0] at h
 | k + 1 => by
  have ih0 := bits_Len64P.mono_l k
  ·
   intro y0 y1
   unfold bits_Len64P.j0
   repeat' first
   | (with_reducible exact ih0 _ _)
   | (with_reducible exact LeO.refl _)
   | (with_reducible exact LeO.none _)
   | (with_reducible refine LeO.ite ?_ ?_)
   | (with_reducible refine LeO.bind ?_ (fun _ => ?_))
theorem bits_Len64P.mono : ∀ a0 k, LeO (bits_Len64P.f k a0) (bits_Len64P.f (k + 1) a0) := by
 intro a0 k
 have ih0 := bits_Len64P.mono_l k
 unfold bits_Len64P.f
 repeat' first
   | (with_reducible exact ih0 _ _)
   | (with_reducible exact LeO.refl _)
   | (with_reducible exact LeO.none _)
   | (with_reducible refine LeO.ite ?_ ?_)
   | (with_reducible refine LeO.bind ?_ (fun _ => ?_))
set_option maxHeartbeats 8000000 in
set_option maxRecDepth 100000 in
theorem bits_Len64P.calls (k : Nat) (a0 : Int) (r : Int) (w : World) (h : bits_Len64P.f k a0 = some r) :
  Calls Try.prog 89 #[.int .u64 a0] w fun e w' => e = .returned (.int .i64 r) ∧ Drawn0 w w' := by
 have H : (if a0 ≥ 4294967296 then (bits_Len64P.j0 k (a0 / 4294967296) 32) else (bits_Len64P.j0 k a0 0)) = some r := h
 clear h
 have HC2 := ZM H
 clear H
 go_enter Try.func89, Try.ntmps89
 go_upto_if 4 with (fail)
 go_cut [0, 2] (fun v0 v2 wc => ∃ (kq : Nat) (x0_1 : Int) (x2_1 : Int), v0 = .int .u64 x0_1 ∧ v2 = .int .i64 x2_1 ∧ Aside0 (bits_Len64P.j0 kq x0_1 x2_1 = some r) ∧ Aside0 (kq ≤ k) ∧ Drawn0 w wc)
 case first =>
  have H := HC2.out
  clear HC2
  by_cases c3 : a0 ≥ 4294967296
  case neg =>
   rw [if_neg c3] at H
   have c3b0 : decide (4294967296 ≤ a0) = false := decide_eq_false c3
   clear c3
   (first | rw [c3b0] | (simp only [i64_w, i32_w]; rw [c3b0]) | skip)
   have H' := ZM H
   clear H
   go_wp2
   go_meet
   case rel => exact ⟨_, (a0), (0), Z5, Z5, H', ⟨by first | omega | exact Nat.le_refl _⟩, by repeat (first | exact ddR _ | apply ddS)⟩
  rw [if_pos c3] at H
  have c3b0 : decide (4294967296 ≤ a0) = true := decide_eq_true c3
  clear c3
  (first | rw [c3b0] | (simp only [i64_w, i32_w]; rw [c3b0]) | skip)
  have H' := ZM H
  clear H
  go_wp2
  go_meet
  case rel => exact ⟨_, (a0 / 4294967296), (32), Z5, Z5, H', ⟨by first | omega | exact Nat.le_refl _⟩, by repeat (first | exact ddR _ | apply ddS)⟩
 clear HC2
 obtain ⟨kq, x0_1, x2_1, rfl, rfl, HA, HJ1, ⟨mc1, rfl⟩⟩ := hcut
 cases kq with
 | zero => exact absurd HA.out (by simp [bits_Len64P.j0])
 | succ kj1 =>
  have H := HA.out
  clear HA
  simp only [bits_Len64P.j0] at H
  by_cases c4 : x0_1 ≥ 65536
  case neg =>
   rw [if_neg c4] at H
   have c4b0 : decide (65536 ≤ x0_1) = false := decide_eq_false c4
   clear c4
   by_cases c14 : x0_1 ≥ 256
   case neg =>
    rw [if_neg c14] at H
    have c14b0 : decide (256 ≤ x0_1) = false := decide_eq_false c14
    clear c14
    obtain ⟨ji19, hji19⟩ : ∃ j_ : Int, ((x0_1) % 256) = j_ := ⟨_, rfl⟩
    replace H : (if 0 ≤ (ji19) then (if (ji19) < 256 then (some (wrap64 (x2_1 + (wrap64 (bt (⟨#[0, 1, 2, 2, 3, 3, 3, 3, 4, 4, 4, 4, 4, 4, 4, 4, 5, 5, 5, 5, 5, 5, 5, 5, 5, 5, 5, 5, 5, 5, 5, 5, 6, 6, 6, 6, 6, 6, 6, 6, 6, 6, 6, 6, 6, 6, 6, 6, 6, 6, 6, 6, 6, 6, 6, 6, 6, 6, 6, 6, 6, 6, 6, 6, 7, 7, 7, 7, 7, 7, 7, 7, 7, 7, 7, 7, 7, 7, 7, 7, 7, 7, 7, 7, 7, 7, 7, 7, 7, 7, 7, 7, 7, 7, 7, 7, 7, 7, 7, 7, 7, 7, 7, 7, 7, 7, 7, 7, 7, 7, 7, 7, 7, 7, 7, 7, 7, 7, 7, 7, 7, 7, 7, 7, 7, 7, 7, 7, 8, 8, 8, 8, 8, 8, 8, 8, 8, 8, 8, 8, 8, 8, 8, 8, 8, 8, 8, 8, 8, 8, 8, 8, 8, 8, 8, 8, 8, 8, 8, 8, 8, 8, 8, 8, 8, 8, 8, 8, 8, 8, 8, 8, 8, 8, 8, 8, 8, 8, 8, 8, 8, 8, 8, 8, 8, 8, 8, 8, 8, 8, 8, 8, 8, 8, 8, 8, 8, 8, 8, 8, 8, 8, 8, 8, 8, 8, 8, 8, 8, 8, 8, 8, 8, 8, 8, 8, 8, 8, 8, 8, 8, 8, 8, 8, 8, 8, 8, 8, 8, 8, 8, 8, 8, 8, 8, 8, 8, 8, 8, 8, 8, 8, 8, 8, 8, 8, 8, 8, 8, 8, 8, 8, 8, 8, 8, 8]⟩ : ByteArray) (ji19)))))) else (none)) else (none)) = some r := by first | (rw [hji19] at H; exact H) | (simp only [hji19] at H ⊢; exact H)
    by_cases c20 : 0 ≤ (ji19)
    case neg =>
     rw [if_neg c20] at H
     exact absurd H (by simp)
    rw [if_pos c20] at H
    have c20b0 : decide (0 ≤ (ji19)) = true := decide_eq_true c20
    clear c20
    by_cases c21 : (ji19) < 256
    case neg =>
     rw [if_neg c21] at H
     exact absurd H (by simp)
    rw [if_pos c21] at H
    have c21b0 : decide ((ji19) < 256) = true := decide_eq_true c21
    clear c21
    obtain rfl := Option.some.inj H
    have p22 : 0 ≤ ((ji19) : Int) := of_decide_eq_true Z3
    have q22 : (ji19) < (256 : Int) := of_decide_eq_true Z3
    have hx22 := bt_at (⟨#[0, 1, 2, 2, 3, 3, 3, 3, 4, 4, 4, 4, 4, 4, 4, 4, 5, 5, 5, 5, 5, 5, 5, 5, 5, 5, 5, 5, 5, 5, 5, 5, 6, 6, 6, 6, 6, 6, 6, 6, 6, 6, 6, 6, 6, 6, 6, 6, 6, 6, 6, 6, 6, 6, 6, 6, 6, 6, 6, 6, 6, 6, 6, 6, 7, 7, 7, 7, 7, 7, 7, 7, 7, 7, 7, 7, 7, 7, 7, 7, 7, 7, 7, 7, 7, 7, 7, 7, 7, 7, 7, 7, 7, 7, 7, 7, 7, 7, 7, 7, 7, 7, 7, 7, 7, 7, 7, 7, 7, 7, 7, 7, 7, 7, 7, 7, 7, 7, 7, 7, 7, 7, 7, 7, 7, 7, 7, 7, 8, 8, 8, 8, 8, 8, 8, 8, 8, 8, 8, 8, 8, 8, 8, 8, 8, 8, 8, 8, 8, 8, 8, 8, 8, 8, 8, 8, 8, 8, 8, 8, 8, 8, 8, 8, 8, 8, 8, 8, 8, 8, 8, 8, 8, 8, 8, 8, 8, 8, 8, 8, 8, 8, 8, 8, 8, 8, 8, 8, 8, 8, 8, 8, 8, 8, 8, 8, 8, 8, 8, 8, 8, 8, 8, 8, 8, 8, 8, 8, 8, 8, 8, 8, 8, 8, 8, 8, 8, 8, 8, 8, 8, 8, 8, 8, 8, 8, 8, 8, 8, 8, 8, 8, 8, 8, 8, 8, 8, 8, 8, 8, 8, 8, 8, 8, 8, 8, 8, 8, 8, 8, 8, 8, 8, 8, 8, 8]⟩ : ByteArray) (ji19)
    replace p22 := eq_true p22
    replace q22 := eq_true q22
    go_wp2
    go_ret
    exact ⟨by first | rfl | (simp; done) | (simp only [← hji19] <;> (first | rfl | simp)) | (simp [*]; done), by repeat (first | exact ddR _ | apply ddS)⟩
   rw [if_pos c14] at H
   have c14b0 : decide (256 ≤ x0_1) = true := decide_eq_true c14
   clear c14
   obtain ⟨ji15, hji15⟩ : ∃ j_ : Int, ((x0_1 / 256) % 256) = j_ := ⟨_, rfl⟩
   replace H : (if 0 ≤ (ji15) then (if (ji15) < 256 then (some (wrap64 ((wrap64 (x2_1 + 8)) + (wrap64 (bt (⟨#[0, 1, 2, 2, 3, 3, 3, 3, 4, 4, 4, 4, 4, 4, 4, 4, 5, 5, 5, 5, 5, 5, 5, 5, 5, 5, 5, 5, 5, 5, 5, 5, 6, 6, 6, 6, 6, 6, 6, 6, 6, 6, 6, 6, 6, 6, 6, 6, 6, 6, 6, 6, 6, 6, 6, 6, 6, 6, 6, 6, 6, 6, 6, 6, 7, 7, 7, 7, 7, 7, 7, 7, 7, 7, 7, 7, 7, 7, 7, 7, 7, 7, 7, 7, 7, 7, 7, 7, 7, 7, 7, 7, 7, 7, 7, 7, 7, 7, 7, 7, 7, 7, 7, 7, 7, 7, 7, 7, 7, 7, 7, 7, 7, 7, 7, 7, 7, 7, 7, 7, 7, 7, 7, 7, 7, 7, 7, 7, 8, 8, 8, 8, 8, 8, 8, 8, 8, 8, 8, 8, 8, 8, 8, 8, 8, 8, 8, 8, 8, 8, 8, 8, 8, 8, 8, 8, 8, 8, 8, 8, 8, 8, 8, 8, 8, 8, 8, 8, 8, 8, 8, 8, 8, 8, 8, 8, 8, 8, 8, 8, 8, 8, 8, 8, 8, 8, 8, 8, 8, 8, 8, 8, 8, 8, 8, 8, 8, 8, 8, 8, 8, 8, 8, 8, 8, 8, 8, 8, 8, 8, 8, 8, 8, 8, 8, 8, 8, 8, 8, 8, 8, 8, 8, 8, 8, 8, 8, 8, 8, 8, 8, 8, 8, 8, 8, 8, 8, 8, 8, 8, 8, 8, 8, 8, 8, 8, 8, 8, 8, 8, 8, 8, 8, 8, 8, 8]⟩ : ByteArray) (ji15)))))) else (none)) else (none)) = some r := by first | (rw [hji15] at H; exact H) | (simp only [hji15] at H ⊢; exact H)
   by_cases c16 : 0 ≤ (ji15)
   case neg =>
    rw [if_neg c16] at H
    exact absurd H (by simp)
   rw [if_pos c16] at H
   have c16b0 : decide (0 ≤ (ji15)) = true := decide_eq_true c16
   clear c16
   by_cases c17 : (ji15) < 256
   case neg =>
    rw [if_neg c17] at H
    exact absurd H (by simp)
   rw [if_pos c17] at H
   have c17b0 : decide ((ji15) < 256) = true := decide_eq_true c17
   clear c17
   obtain rfl := Option.some.inj H
   have p18 : 0 ≤ ((ji15) : Int) := of_decide_eq_true Z3
   have q18 : (ji15) < (256 : Int) := of_decide_eq_true Z3
   have hx18 := bt_at (⟨#[0, 1, 2, 2, 3, 3, 3, 3, 4, 4, 4, 4, 4, 4, 4, 4, 5, 5, 5, 5, 5, 5, 5, 5, 5, 5, 5, 5, 5, 5, 5, 5, 6, 6, 6, 6, 6, 6, 6, 6, 6, 6, 6, 6, 6, 6, 6, 6, 6, 6, 6, 6, 6, 6, 6, 6, 6, 6, 6, 6, 6, 6, 6, 6, 7, 7, 7, 7, 7, 7, 7, 7, 7, 7, 7, 7, 7, 7, 7, 7, 7, 7, 7, 7, 7, 7, 7, 7, 7, 7, 7, 7, 7, 7, 7, 7, 7, 7, 7, 7, 7, 7, 7, 7, 7, 7, 7, 7, 7, 7, 7, 7, 7, 7, 7, 7, 7, 7, 7, 7, 7, 7, 7, 7, 7, 7, 7, 7, 8, 8, 8, 8, 8, 8, 8, 8, 8, 8, 8, 8, 8, 8, 8, 8, 8, 8, 8, 8, 8, 8, 8, 8, 8, 8, 8, 8, 8, 8, 8, 8, 8, 8, 8, 8, 8, 8, 8, 8, 8, 8, 8, 8, 8, 8, 8, 8, 8, 8, 8, 8, 8, 8, 8, 8, 8, 8, 8, 8, 8, 8, 8, 8, 8, 8, 8, 8, 8, 8, 8, 8, 8, 8, 8, 8, 8, 8, 8, 8, 8, 8, 8, 8, 8, 8, 8, 8, 8, 8, 8, 8, 8, 8, 8, 8, 8, 8, 8, 8, 8, 8, 8, 8, 8, 8, 8, 8, 8, 8, 8, 8, 8, 8, 8, 8, 8, 8, 8, 8, 8, 8, 8, 8, 8, 8, 8, 8]⟩ : ByteArray) (ji15)
   replace p18 := eq_true p18
   replace q18 := eq_true q18
   go_wp2
   go_ret
   exact ⟨by first | rfl | (simp; done) | (simp only [← hji15] <;> (first | rfl | simp)) | (simp [*]; done), by repeat (first | exact ddR _ | apply ddS)⟩
  rw [if_pos c4] at H
  have c4b0 : decide (65536 ≤ x0_1) = true := decide_eq_true c4
  clear c4
  by_cases c5 : (x0_1 / 65536) ≥ 256
  case neg =>
   rw [if_neg c5] at H
   have c5b0 : decide (256 ≤ (x0_1 / 65536)) = false := decide_eq_false c5
   clear c5
   obtain ⟨ji10, hji10⟩ : ∃ j_ : Int, ((x0_1 / 65536) % 256) = j_ := ⟨_, rfl⟩
   replace H : (if 0 ≤ (ji10) then (if (ji10) < 256 then (some (wrap64 ((wrap64 (x2_1 + 16)) + (wrap64 (bt (⟨#[0, 1, 2, 2, 3, 3, 3, 3, 4, 4, 4, 4, 4, 4, 4, 4, 5, 5, 5, 5, 5, 5, 5, 5, 5, 5, 5, 5, 5, 5, 5, 5, 6, 6, 6, 6, 6, 6, 6, 6, 6, 6, 6, 6, 6, 6, 6, 6, 6, 6, 6, 6, 6, 6, 6, 6, 6, 6, 6, 6, 6, 6, 6, 6, 7, 7, 7, 7, 7, 7, 7, 7, 7, 7, 7, 7, 7, 7, 7, 7, 7, 7, 7, 7, 7, 7, 7, 7, 7, 7, 7, 7, 7, 7, 7, 7, 7, 7, 7, 7, 7, 7, 7, 7, 7, 7, 7, 7, 7, 7, 7, 7, 7, 7, 7, 7, 7, 7, 7, 7, 7, 7, 7, 7, 7, 7, 7, 7, 8, 8, 8, 8, 8, 8, 8, 8, 8, 8, 8, 8, 8, 8, 8, 8, 8, 8, 8, 8, 8, 8, 8, 8, 8, 8, 8, 8, 8, 8, 8, 8, 8, 8, 8, 8, 8, 8, 8, 8, 8, 8, 8, 8, 8, 8, 8, 8, 8, 8, 8, 8, 8, 8, 8, 8, 8, 8, 8, 8, 8, 8, 8, 8, 8, 8, 8, 8, 8, 8, 8, 8, 8, 8, 8, 8, 8, 8, 8, 8, 8, 8, 8, 8, 8, 8, 8, 8, 8, 8, 8, 8, 8, 8, 8, 8, 8, 8, 8, 8, 8, 8, 8, 8, 8, 8, 8, 8, 8, 8, 8, 8, 8, 8, 8, 8, 8, 8, 8, 8, 8, 8, 8, 8, 8, 8, 8, 8]⟩ : ByteArray) (ji10)))))) else (none)) else (none)) = some r := by first | (rw [hji10] at H; exact H) | (simp only [hji10] at H ⊢; exact H)
   by_cases c11 : 0 ≤ (ji10)
   case neg =>
    rw [if_neg c11] at H
    exact absurd H (by simp)
   rw [if_pos c11] at H
   have c11b0 : decide (0 ≤ (ji10)) = true := decide_eq_true c11
   clear c11
   by_cases c12 : (ji10) < 256
   case neg =>
    rw [if_neg c12] at H
    exact absurd H (by simp)
   rw [if_pos c12] at H
   have c12b0 : decide ((ji10) < 256) = true := decide_eq_true c12
   clear c12
   obtain rfl := Option.some.inj H
   have p13 : 0 ≤ ((ji10) : Int) := of_decide_eq_true Z3
   have q13 : (ji10) < (256 : Int) := of_decide_eq_true Z3
   have hx13 := bt_at (⟨#[0, 1, 2, 2, 3, 3, 3, 3, 4, 4, 4, 4, 4, 4, 4, 4, 5, 5, 5, 5, 5, 5, 5, 5, 5, 5, 5, 5, 5, 5, 5, 5, 6, 6, 6, 6, 6, 6, 6, 6, 6, 6, 6, 6, 6, 6, 6, 6, 6, 6, 6, 6, 6, 6, 6, 6, 6, 6, 6, 6, 6, 6, 6, 6, 7, 7, 7, 7, 7, 7, 7, 7, 7, 7, 7, 7, 7, 7, 7, 7, 7, 7, 7, 7, 7, 7, 7, 7, 7, 7, 7, 7, 7, 7, 7, 7, 7, 7, 7, 7, 7, 7, 7, 7, 7, 7, 7, 7, 7, 7, 7, 7, 7, 7, 7, 7, 7, 7, 7, 7, 7, 7, 7, 7, 7, 7, 7, 7, 8, 8, 8, 8, 8, 8, 8, 8, 8, 8, 8, 8, 8, 8, 8, 8, 8, 8, 8, 8, 8, 8, 8, 8, 8, 8, 8, 8, 8, 8, 8, 8, 8, 8, 8, 8, 8, 8, 8, 8, 8, 8, 8, 8, 8, 8, 8, 8, 8, 8, 8, 8, 8, 8, 8, 8, 8, 8, 8, 8, 8, 8, 8, 8, 8, 8, 8, 8, 8, 8, 8, 8, 8, 8, 8, 8, 8, 8, 8, 8, 8, 8, 8, 8, 8, 8, 8, 8, 8, 8, 8, 8, 8, 8, 8, 8, 8, 8, 8, 8, 8, 8, 8, 8, 8, 8, 8, 8, 8, 8, 8, 8, 8, 8, 8, 8, 8, 8, 8, 8, 8, 8, 8, 8, 8, 8, 8, 8]⟩ : ByteArray) (ji10)
   replace p13 := eq_true p13
   replace q13 := eq_true q13
   go_wp2
   go_ret
   exact ⟨by first | rfl | (simp; done) | (simp only [← hji10] <;> (first | rfl | simp)) | (simp [*]; done), by repeat (first | exact ddR _ | apply ddS)⟩
  rw [if_pos c5] at H
  have c5b0 : decide (256 ≤ (x0_1 / 65536)) = true := decide_eq_true c5
  clear c5
  obtain ⟨ji6, hji6⟩ : ∃ j_ : Int, (((x0_1 / 65536) / 256) % 256) = j_ := ⟨_, rfl⟩
  replace H : (if 0 ≤ (ji6) then (if (ji6) < 256 then (some (wrap64 ((wrap64 ((wrap64 (x2_1 + 16)) + 8)) + (wrap64 (bt (⟨#[0, 1, 2, 2, 3, 3, 3, 3, 4, 4, 4, 4, 4, 4, 4, 4, 5, 5, 5, 5, 5, 5, 5, 5, 5, 5, 5, 5, 5, 5, 5, 5, 6, 6, 6, 6, 6, 6, 6, 6, 6, 6, 6, 6, 6, 6, 6, 6, 6, 6, 6, 6, 6, 6, 6, 6, 6, 6, 6, 6, 6, 6, 6, 6, 7, 7, 7, 7, 7, 7, 7, 7, 7, 7, 7, 7, 7, 7, 7, 7, 7, 7, 7, 7, 7, 7, 7, 7, 7, 7, 7, 7, 7, 7, 7, 7, 7, 7, 7, 7, 7, 7, 7, 7, 7, 7, 7, 7, 7, 7, 7, 7, 7, 7, 7, 7, 7, 7, 7, 7, 7, 7, 7, 7, 7, 7, 7, 7, 8, 8, 8, 8, 8, 8, 8, 8, 8, 8, 8, 8, 8, 8, 8, 8, 8, 8, 8, 8, 8, 8, 8, 8, 8, 8, 8, 8, 8, 8, 8, 8, 8, 8, 8, 8, 8, 8, 8, 8, 8, 8, 8, 8, 8, 8, 8, 8, 8, 8, 8, 8, 8, 8, 8, 8, 8, 8, 8, 8, 8, 8, 8, 8, 8, 8, 8, 8, 8, 8, 8, 8, 8, 8, 8, 8, 8, 8, 8, 8, 8, 8, 8, 8, 8, 8, 8, 8, 8, 8, 8, 8, 8, 8, 8, 8, 8, 8, 8, 8, 8, 8, 8, 8, 8, 8, 8, 8, 8, 8, 8, 8, 8, 8, 8, 8, 8, 8, 8, 8, 8, 8, 8, 8, 8, 8, 8, 8]⟩ : ByteArray) (ji6)))))) else (none)) else (none)) = some r := by first | (rw [hji6] at H; exact H) | (simp only [hji6] at H ⊢; exact H)
  by_cases c7 : 0 ≤ (ji6)
  case neg =>
   rw [if_neg c7] at H
   exact absurd H (by simp)
  rw [if_pos c7] at H
  have c7b0 : decide (0 ≤ (ji6)) = true := decide_eq_true c7
  clear c7
  by_cases c8 : (ji6) < 256
  case neg =>
   rw [if_neg c8] at H
   exact absurd H (by simp)
  rw [if_pos c8] at H
  have c8b0 : decide ((ji6) < 256) = true := decide_eq_true c8
  clear c8
  obtain rfl := Option.some.inj H
  have p9 : 0 ≤ ((ji6) : Int) := of_decide_eq_true Z3
  have q9 : (ji6) < (256 : Int) := of_decide_eq_true Z3
  have hx9 := bt_at (⟨#[0, 1, 2, 2, 3, 3, 3, 3, 4, 4, 4, 4, 4, 4, 4, 4, 5, 5, 5, 5, 5, 5, 5, 5, 5, 5, 5, 5, 5, 5, 5, 5, 6, 6, 6, 6, 6, 6, 6, 6, 6, 6, 6, 6, 6, 6, 6, 6, 6, 6, 6, 6, 6, 6, 6, 6, 6, 6, 6, 6, 6, 6, 6, 6, 7, 7, 7, 7, 7, 7, 7, 7, 7, 7, 7, 7, 7, 7, 7, 7, 7, 7, 7, 7, 7, 7, 7, 7, 7, 7, 7, 7, 7, 7, 7, 7, 7, 7, 7, 7, 7, 7, 7, 7, 7, 7, 7, 7, 7, 7, 7, 7, 7, 7, 7, 7, 7, 7, 7, 7, 7, 7, 7, 7, 7, 7, 7, 7, 8, 8, 8, 8, 8, 8, 8, 8, 8, 8, 8, 8, 8, 8, 8, 8, 8, 8, 8, 8, 8, 8, 8, 8, 8, 8, 8, 8, 8, 8, 8, 8, 8, 8, 8, 8, 8, 8, 8, 8, 8, 8, 8, 8, 8, 8, 8, 8, 8, 8, 8, 8, 8, 8, 8, 8, 8, 8, 8, 8, 8, 8, 8, 8, 8, 8, 8, 8, 8, 8, 8, 8, 8, 8, 8, 8, 8, 8, 8, 8, 8, 8, 8, 8, 8, 8, 8, 8, 8, 8, 8, 8, 8, 8, 8, 8, 8, 8, 8, 8, 8, 8, 8, 8, 8, 8, 8, 8, 8, 8, 8, 8, 8, 8, 8, 8, 8, 8, 8, 8, 8, 8, 8, 8, 8, 8, 8, 8]⟩ : ByteArray) (ji6)
  replace p9 := eq_true p9
  replace q9 := eq_true q9
  go_wp2
  go_ret
  exact ⟨by first | rfl | (simp; done) | (simp only [← hji6] <;> (first | rfl | simp)) | (simp [*]; done), by repeat (first | exact ddR _ | apply ddS)⟩
def bits_Len64.f (a0 : Int) : Option Int := if U64 a0 then some (bl a0.toNat : Int) else none
theorem bits_Len64.of (a0 : Int)  (h_ : U64 a0) : bits_Len64.f a0 = some (bl a0.toNat : Int) := if_pos h_
set_option maxRecDepth 1000000 in
theorem bits_Len64P.tab : ∀ n : Fin 256, bt (⟨#[0, 1, 2, 2, 3, 3, 3, 3, 4, 4, 4, 4, 4, 4, 4, 4, 5, 5, 5, 5, 5, 5, 5, 5, 5, 5, 5, 5, 5, 5, 5, 5, 6, 6, 6, 6, 6, 6, 6, 6, 6, 6, 6, 6, 6, 6, 6, 6, 6, 6, 6, 6, 6, 6, 6, 6, 6, 6, 6, 6, 6, 6, 6, 6, 7, 7, 7, 7, 7, 7, 7, 7, 7, 7, 7, 7, 7, 7, 7, 7, 7, 7, 7, 7, 7, 7, 7, 7, 7, 7, 7, 7, 7, 7, 7, 7, 7, 7, 7, 7, 7, 7, 7, 7, 7, 7, 7, 7, 7, 7, 7, 7, 7, 7, 7, 7, 7, 7, 7, 7, 7, 7, 7, 7, 7, 7, 7, 7, 8, 8, 8, 8, 8, 8, 8, 8, 8, 8, 8, 8, 8, 8, 8, 8, 8, 8, 8, 8, 8, 8, 8, 8, 8, 8, 8, 8, 8, 8, 8, 8, 8, 8, 8, 8, 8, 8, 8, 8, 8, 8, 8, 8, 8, 8, 8, 8, 8, 8, 8, 8, 8, 8, 8, 8, 8, 8, 8, 8, 8, 8, 8, 8, 8, 8, 8, 8, 8, 8, 8, 8, 8, 8, 8, 8, 8, 8, 8, 8, 8, 8, 8, 8, 8, 8, 8, 8, 8, 8, 8, 8, 8, 8, 8, 8, 8, 8, 8, 8, 8, 8, 8, 8, 8, 8, 8, 8, 8, 8, 8, 8, 8, 8, 8, 8, 8, 8, 8, 8, 8, 8, 8, 8, 8, 8, 8, 8]⟩ : ByteArray) (n.val : Int) = (bl n.val : Int) := by decide +kernel
theorem bits_Len64P.at_ (x : Int) (h0 : 0 ≤ x) (h1 : x < 256) : bt (⟨#[0, 1, 2, 2, 3, 3, 3, 3, 4, 4, 4, 4, 4, 4, 4, 4, 5, 5, 5, 5, 5, 5, 5, 5, 5, 5, 5, 5, 5, 5, 5, 5, 6, 6, 6, 6, 6, 6, 6, 6, 6, 6, 6, 6, 6, 6, 6, 6, 6, 6, 6, 6, 6, 6, 6, 6, 6, 6, 6, 6, 6, 6, 6, 6, 7, 7, 7, 7, 7, 7, 7, 7, 7, 7, 7, 7, 7, 7, 7, 7, 7, 7, 7, 7, 7, 7, 7, 7, 7, 7, 7, 7, 7, 7, 7, 7, 7, 7, 7, 7, 7, 7, 7, 7, 7, 7, 7, 7, 7, 7, 7, 7, 7, 7, 7, 7, 7, 7, 7, 7, 7, 7, 7, 7, 7, 7, 7, 7, 8, 8, 8, 8, 8, 8, 8, 8, 8, 8, 8, 8, 8, 8, 8, 8, 8, 8, 8, 8, 8, 8, 8, 8, 8, 8, 8, 8, 8, 8, 8, 8, 8, 8, 8, 8, 8, 8, 8, 8, 8, 8, 8, 8, 8, 8, 8, 8, 8, 8, 8, 8, 8, 8, 8, 8, 8, 8, 8, 8, 8, 8, 8, 8, 8, 8, 8, 8, 8, 8, 8, 8, 8, 8, 8, 8, 8, 8, 8, 8, 8, 8, 8, 8, 8, 8, 8, 8, 8, 8, 8, 8, 8, 8, 8, 8, 8, 8, 8, 8, 8, 8, 8, 8, 8, 8, 8, 8, 8, 8, 8, 8, 8, 8, 8, 8, 8, 8, 8, 8, 8, 8, 8, 8, 8, 8, 8, 8]⟩ : ByteArray) x = (bl x.toNat : Int) := by
  obtain ⟨n, rfl⟩ := Int.eq_ofNat_of_zero_le h0
  exact bits_Len64P.tab ⟨n, by omega⟩
theorem bits_Len64P.low (x : Int) (n : Int) (h0 : 0 ≤ x) (h1 : x < 4294967296) (hn0 : 0 ≤ n) (hn : n ≤ 64) : bits_Len64P.j0 1 x n = some (n + (bl x.toNat : Int)) := by
  have b8 : ∀ y : Int, 0 ≤ y → y < 256 → (bl y.toNat : Int) ≤ 8 := fun y k0 k1 => by
    have := bl_le (x := y.toNat) (k := 8) (by omega); omega
  rw [show (1 : Nat) = 0 + 1 from rfl, bits_Len64P.j0]
  have sh : ∀ (j : Nat), 2 ^ j ≤ x.toNat → (bl x.toNat : Int) = j + (bl (x.toNat / 2 ^ j) : Int) := fun j hj => by
    have := bl_shift hj; omega
  have dv : ∀ (y : Int) (j : Nat), 0 ≤ y → (y / j).toNat = y.toNat / j := fun y j hy => by
    obtain ⟨m, rfl⟩ := Int.eq_ofNat_of_zero_le hy
    rw [← Int.natCast_ediv]; rfl
  by_cases c1 : x ≥ 65536
  · rw [if_pos c1]
    by_cases c2 : x / 65536 ≥ 256
    · have e : x / 65536 / 256 % 256 = x / 16777216 := by omega
      have s := sh 24 (by omega)
      have d := dv x 16777216 h0
      rw [if_pos c2, e, if_pos (by omega), if_pos (by omega), bits_Len64P.at_ _ (by omega) (by omega)]
      have := b8 (x / 16777216) (by omega) (by omega)
      rw [show ((16777216 : Nat) : Int) = 16777216 from rfl] at d
      rw [d] at this ⊢
      rw [s, show (2 : Nat) ^ 24 = 16777216 from rfl]
      simp only [wrap64_def, Option.some.injEq]
      omega
    · have e : x / 65536 % 256 = x / 65536 := by omega
      have s := sh 16 (by omega)
      have d := dv x 65536 h0
      rw [if_neg c2, e, if_pos (by omega), if_pos (by omega), bits_Len64P.at_ _ (by omega) (by omega)]
      have := b8 (x / 65536) (by omega) (by omega)
      rw [show ((65536 : Nat) : Int) = 65536 from rfl] at d
      rw [d] at this ⊢
      rw [s, show (2 : Nat) ^ 16 = 65536 from rfl]
      simp only [wrap64_def, Option.some.injEq]
      omega
  · rw [if_neg c1]
    by_cases c2 : x ≥ 256
    · have e : x / 256 % 256 = x / 256 := by omega
      have s := sh 8 (by omega)
      have d := dv x 256 h0
      rw [if_pos c2, e, if_pos (by omega), if_pos (by omega), bits_Len64P.at_ _ (by omega) (by omega)]
      have := b8 (x / 256) (by omega) (by omega)
      rw [show ((256 : Nat) : Int) = 256 from rfl] at d
      rw [d] at this ⊢
      rw [s, show (2 : Nat) ^ 8 = 256 from rfl]
      simp only [wrap64_def, Option.some.injEq]
      omega
    · have e : x % 256 = x := by omega
      rw [if_neg c2, e, if_pos (by omega), if_pos (by omega), bits_Len64P.at_ _ (by omega) (by omega)]
      have := b8 x (by omega) (by omega)
      simp only [wrap64_def, Option.some.injEq]
      omega
theorem bits_Len64P.spec {a0 : Int} (h : U64 a0) : bits_Len64P.f 1 a0 = some (bl a0.toNat : Int) := by
  unfold U64 at h
  unfold bits_Len64P.f
  by_cases c : a0 ≥ 4294967296
  · rw [if_pos c, bits_Len64P.low _ _ (by omega) (by omega) (by omega) (by omega)]
    have s := bl_shift (k := 32) (x := a0.toNat) (by omega)
    have d : (a0 / 4294967296).toNat = a0.toNat / 2 ^ 32 := by omega
    rw [d, s]; simp
  · rw [if_neg c, bits_Len64P.low _ _ (by omega) (by omega) (by omega) (by omega)]; simp
theorem bits_Len64.calls (a0 : Int) (r : Int) (w : World) (h : bits_Len64.f a0 = some r) :
    Calls Try.prog 89 #[.int .u64 a0] w fun e w' => e = .returned (.int .i64 r) ∧ Drawn0 w w' := by
  unfold bits_Len64.f at h
  split at h
  · rename_i hu
    exact bits_Len64P.calls 1 a0 r w ((bits_Len64P.spec hu).trans h)
  · cases h


/-! ### bits_LeadingZeros64P: function 79 -/
def bits_LeadingZeros64P.f (a0 : Int) : Option (Int) := (bits_Len64.f a0).bind fun t137 => (some (wrap64 (64 - t137)))
set_option maxHeartbeats 8000000 in
set_option maxRecDepth 100000 in
theorem bits_LeadingZeros64P.calls (a0 : Int) (r : Int) (w : World) (h : bits_LeadingZeros64P.f a0 = some r) :
  Calls Try.prog 79 #[.int .u64 a0] w fun e w' => e = .returned (.int .i64 r) ∧ Drawn0 w w' := by
 have H : ((bits_Len64.f a0).bind fun t137 => (some (wrap64 (64 - t137)))) = some r := h
 clear h
 replace H := Option.bind_eq_some_iff.mp H
 obtain ⟨t137, A20, H⟩ := H
 replace H : (some (wrap64 (64 - t137))) = some r := H
 have A2 := ZM A20
 clear A20
 obtain rfl := Option.some.inj H
 go_enter Try.func79, Try.ntmps79
 go_wp2_with (first | ((with_reducible refine gate_callee (f := 89) rfl ?_); refine goesL_ (some 4) rfl rfl Try.func89 (by kernel_rfl) rfl #[.int .u64 a0] rfl Z2 ?_; (with_reducible refine (bits_Len64.calls a0 t137 _ A2.out).mono ?_); rintro e w' ⟨rfl, ⟨nd, rfl⟩⟩; refine ⟨_, rfl, ?_⟩))
 go_ret
 exact ⟨by first | rfl | (simp; done) | (simp [*]; done), by repeat (first | exact ddR _ | apply ddS)⟩
def bits_LeadingZeros64.f (a0 : Int) : Option Int := if U64 a0 then some (64 - (bl a0.toNat : Int)) else none
theorem bits_LeadingZeros64.of (a0 : Int)  (h_ : U64 a0) : bits_LeadingZeros64.f a0 = some (64 - (bl a0.toNat : Int)) := if_pos h_
theorem bits_LeadingZeros64.calls (a0 : Int) (r : Int) (w : World) (h : bits_LeadingZeros64.f a0 = some r) :
    Calls Try.prog 79 #[.int .u64 a0] w fun e w' => e = .returned (.int .i64 r) ∧ Drawn0 w w' := by
  unfold bits_LeadingZeros64.f at h
  split at h
  · rename_i hu
    refine bits_LeadingZeros64P.calls a0 r w ?_
    unfold bits_LeadingZeros64P.f bits_Len64.f
    rw [if_pos hu]
    rw [← h]
    have := bl_le (x := a0.toNat) (k := 64) (by unfold U64 at hu; omega)
    simp only [Option.bind_some, wrap64_def, Option.some.injEq]
    omega
  · cases h


end Go.Proofs.Ytihgcjagokippaa.HS
