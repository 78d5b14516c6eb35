/- What Go functions do, each as a plain Lean function with the same answers, and the proof of it, in every world: printed by the session's driver over the kit's print, with texts by hand. -/
import Derived.Test.YtnhdeljkoackfaaHCx0
import Derived.Test.YtnhdeljkoackfaaHCx4
import Derived.Test.YtnhdeljkoackfaaHCx5
import Derived.Test.YtnhdeljkoackfaaHCx6
namespace Go.Proofs.Ytnhdeljkoackfaa.HC
open Go.RowKit Go.Proofs.YtnhdeljkoackfaaW.PrintWords Go.Proofs.YtnhdeljkoackfaaW.PrintLast Go.Proofs.YtnhdeljkoackfaaW.PrintMore
attribute [local go_sem] max2_int min2_int max_two min_two max_three min_three max_four min_four   -- for this text's walks alone
open Go.Proofs.Ytnhdeljkoackfaa.Sp
attribute [local go_sem] Go.Proofs.Ytnhdeljkoackfaa.Sp.u64_not
set_option linter.unusedVariables false
set_option linter.unusedSimpArgs false

/-! ### frame_same: function 32 -/
def frame_same.f (a0_0 : Int) (a0_1 : Int) (l0_2 : List Int) (l0_3 : List Int) (a0_4 : Int) (a0_5 : Int) (l0_6 : List Int) (l0_7 : List Bool) (a1_0 : Int) (a1_1 : Int) (l1_2 : List Int) (l1_3 : List Int) (a1_4 : Int) (a1_5 : Int) (l1_6 : List Int) (l1_7 : List Bool) : Option Bool := some (decide (a0_0 = a1_0 ∧ a0_1 = a1_1 ∧ a0_4 = a1_4 ∧ a0_5 = a1_5 ∧ l0_2 = l1_2 ∧ l0_3 = l1_3 ∧ l0_6 = l1_6 ∧ l0_7 = l1_7))
set_option maxHeartbeats 4000000 in
set_option maxRecDepth 100000 in
theorem frame_same.calls (a0_0 : Int) (a0_1 : Int) (A0_2 : Option Addr) (c0_2 : Nat) (l0_2 : List Int) (A0_3 : Option Addr) (c0_3 : Nat) (l0_3 : List Int) (a0_4 : Int) (a0_5 : Int) (A0_6 : Option Addr) (c0_6 : Nat) (l0_6 : List Int) (A0_7 : Option Addr) (c0_7 : Nat) (l0_7 : List Bool) (a1_0 : Int) (a1_1 : Int) (A1_2 : Option Addr) (c1_2 : Nat) (l1_2 : List Int) (A1_3 : Option Addr) (c1_3 : Nat) (l1_3 : List Int) (a1_4 : Int) (a1_5 : Int) (A1_6 : Option Addr) (c1_6 : Nat) (l1_6 : List Int) (A1_7 : Option Addr) (c1_7 : Nat) (l1_7 : List Bool) (r : Bool) (w : World) (hr0_2 : Kd.C (Kd.int .i64) w A0_2 l0_2.length l0_2) (hc0_2 : l0_2.length ≤ c0_2) (hr0_3 : Kd.C (Kd.int .i64) w A0_3 l0_3.length l0_3) (hc0_3 : l0_3.length ≤ c0_3) (hr0_6 : Kd.C (Kd.int .u64) w A0_6 l0_6.length l0_6) (hc0_6 : l0_6.length ≤ c0_6) (hr0_7 : Kd.C Kd.bool w A0_7 l0_7.length l0_7) (hc0_7 : l0_7.length ≤ c0_7) (hr1_2 : Kd.C (Kd.int .i64) w A1_2 l1_2.length l1_2) (hc1_2 : l1_2.length ≤ c1_2) (hr1_3 : Kd.C (Kd.int .i64) w A1_3 l1_3.length l1_3) (hc1_3 : l1_3.length ≤ c1_3) (hr1_6 : Kd.C (Kd.int .u64) w A1_6 l1_6.length l1_6) (hc1_6 : l1_6.length ≤ c1_6) (hr1_7 : Kd.C Kd.bool w A1_7 l1_7.length l1_7) (hc1_7 : l1_7.length ≤ c1_7) (h : frame_same.f a0_0 a0_1 l0_2 l0_3 a0_4 a0_5 l0_6 l0_7 a1_0 a1_1 l1_2 l1_3 a1_4 a1_5 l1_6 l1_7 = some r) :
    Calls Try.prog 32 #[.agg #[.int .i64 a0_0, .int .i64 a0_1, .slice A0_2 l0_2.length c0_2, .slice A0_3 l0_3.length c0_3, .int .i64 a0_4, .int .i64 a0_5, .slice A0_6 l0_6.length c0_6, .slice A0_7 l0_7.length c0_7], .agg #[.int .i64 a1_0, .int .i64 a1_1, .slice A1_2 l1_2.length c1_2, .slice A1_3 l1_3.length c1_3, .int .i64 a1_4, .int .i64 a1_5, .slice A1_6 l1_6.length c1_6, .slice A1_7 l1_7.length c1_7]] w fun e w' => e = .returned (.bool r) ∧ Below w.heap.size w w' := by
  cases h
  obtain ⟨i, hi_⟩ : ∃ i, Try.prog.info? 2 = some i := by have := info2; cases h : Try.prog.info? 2 with | none => rw [h] at this; cases this | some i => exact ⟨i, rfl⟩
  have hq := fun (a b c d a' b' c' d' : Int) (w : World) => run_eq_arr4 (P := Try.prog) (t := 62) (e := 2) (k := .i64) Try.underlying62 hi_ Try.underlying2 (by kernel_rfl) (by kernel_rfl) a b c d a' b' c' d' w
  clear hi_
  have hu := Try.underlying29
  have hu2 := Try.underlying62
  have HR0_2 := Aside0.mk hr0_2
  have HC0_2 := Aside0.mk hc0_2
  have HR0_3 := Aside0.mk hr0_3
  have HC0_3 := Aside0.mk hc0_3
  have HR0_6 := Aside0.mk hr0_6
  have HC0_6 := Aside0.mk hc0_6
  have HR0_7 := Aside0.mk hr0_7
  have HC0_7 := Aside0.mk hc0_7
  have HR1_2 := Aside0.mk hr1_2
  have HC1_2 := Aside0.mk hc1_2
  have HR1_3 := Aside0.mk hr1_3
  have HC1_3 := Aside0.mk hc1_3
  have HR1_6 := Aside0.mk hr1_6
  have HC1_6 := Aside0.mk hc1_6
  have HR1_7 := Aside0.mk hr1_7
  have HC1_7 := Aside0.mk hc1_7
  clear hr0_2 hc0_2 hr0_3 hc0_3 hr0_6 hc0_6 hr0_7 hc0_7 hr1_2 hc1_2 hr1_3 hc1_3 hr1_6 hc1_6 hr1_7 hc1_7
  have HB : Aside0 (Below w.heap.size w ((w.alloc (Obj.cells #[Value.int .i64 a0_0, Value.int .i64 a0_1, Value.slice A0_2 l0_2.length c0_2, Value.slice A0_3 l0_3.length c0_3, Value.int .i64 a0_4, Value.int .i64 a0_5, Value.slice A0_6 l0_6.length c0_6, Value.slice A0_7 l0_7.length c0_7] 29)).alloc (Obj.cells #[Value.int .i64 a1_0, Value.int .i64 a1_1, Value.slice A1_2 l1_2.length c1_2, Value.slice A1_3 l1_3.length c1_3, Value.int .i64 a1_4, Value.int .i64 a1_5, Value.slice A1_6 l1_6.length c1_6, Value.slice A1_7 l1_7.length c1_7] 29))) := ⟨below_alloc (below_alloc (Below.refl _ _) _) _⟩
  have HBD := Aside0.mk (fun n => pw_below_drewN HB.out n)
  rcases Bool.eq_false_or_eq_true (a0_0 == a1_0 && (a0_1 == a1_1 && (a0_4 == a1_4 && a0_5 == a1_5))) with c0 | c0
  · have C0 := Aside0.mk c0
    rcases Bool.eq_false_or_eq_true (decide (l0_2 = l1_2)) with e2 | e2
    · have H2 : Aside0 (slices_Equal_int_int.f l0_2 l1_2 = some true) := ⟨congrArg some e2⟩
      have E2 := Aside0.mk e2
      clear e2
      rcases Bool.eq_false_or_eq_true (decide (l0_3 = l1_3)) with e3 | e3
      · have H3 : Aside0 (slices_Equal_int64_int64.f l0_3 l1_3 = some true) := ⟨congrArg some e3⟩
        have E3 := Aside0.mk e3
        clear e3
        rcases Bool.eq_false_or_eq_true (decide (l0_6 = l1_6)) with e6 | e6
        · have H6 : Aside0 (slices_Equal_uint64_uint64.f l0_6 l1_6 = some true) := ⟨congrArg some e6⟩
          have E6 := Aside0.mk e6
          clear e6
          rcases Bool.eq_false_or_eq_true (decide (l0_7 = l1_7)) with e7 | e7
          · have H7 : Aside0 (slices_Equal_bool_bool.f l0_7 l1_7 = some true) := ⟨congrArg some e7⟩
            have E7 := Aside0.mk e7
            clear e7
            go_enter Try.func32, Try.ntmps32
            go_wp2_with (first | (go_at_call 45; (with_reducible refine (slices_Equal_int_int.calls A0_2 c0_2 l0_2 A1_2 c1_2 l1_2 true _ (Kd.C_below HR0_2.out HB.out) HC0_2.out (Kd.C_below HR1_2.out HB.out) HC1_2.out H2.out).mono ?_); rintro ed W2 ⟨rfl, ⟨nd2, rfl⟩⟩) | (go_at_call 46; (with_reducible refine (slices_Equal_int64_int64.calls A0_3 c0_3 l0_3 A1_3 c1_3 l1_3 true _ (Kd.C_below HR0_3.out (HBD.out _)) HC0_3.out (Kd.C_below HR1_3.out (HBD.out _)) HC1_3.out H3.out).mono ?_); rintro ed W2 ⟨rfl, ⟨nd3, rfl⟩⟩) | (go_at_call 47; (with_reducible refine (slices_Equal_uint64_uint64.calls A0_6 c0_6 l0_6 A1_6 c1_6 l1_6 true _ (Kd.C_below HR0_6.out (HBD.out _)) HC0_6.out (Kd.C_below HR1_6.out (HBD.out _)) HC1_6.out H6.out).mono ?_); rintro ed W2 ⟨rfl, ⟨nd6, rfl⟩⟩) | (go_at_call 30; (with_reducible refine (slices_Equal_bool_bool.calls A0_7 c0_7 l0_7 A1_7 c1_7 l1_7 true _ (Kd.C_below HR0_7.out (HBD.out _)) HC0_7.out (Kd.C_below HR1_7.out (HBD.out _)) HC1_7.out H7.out).mono ?_); rintro ed W2 ⟨rfl, ⟨nd7, rfl⟩⟩))
            go_ret
            refine ⟨?_, by first | exact HB.out | exact HBD.out _⟩
            have hq0 := C0.out
            have hE2 := of_decide_eq_true E2.out
            have hE3 := of_decide_eq_true E3.out
            have hE6 := of_decide_eq_true E6.out
            have hE7 := of_decide_eq_true E7.out
            simp only [Bool.and_eq_true, Bool.and_eq_false_iff, beq_iff_eq, beq_eq_false_iff_ne] at hq0
            rw [decide_eq_true (show _ ∧ _ from ⟨hq0.1, hq0.2.1, hq0.2.2.1, hq0.2.2.2, hE2, hE3, hE6, hE7⟩)]
            rfl
          · have H7 : Aside0 (slices_Equal_bool_bool.f l0_7 l1_7 = some false) := ⟨congrArg some e7⟩
            have E7 := Aside0.mk e7
            clear e7
            go_enter Try.func32, Try.ntmps32
            go_wp2_with (first | (go_at_call 45; (with_reducible refine (slices_Equal_int_int.calls A0_2 c0_2 l0_2 A1_2 c1_2 l1_2 true _ (Kd.C_below HR0_2.out HB.out) HC0_2.out (Kd.C_below HR1_2.out HB.out) HC1_2.out H2.out).mono ?_); rintro ed W2 ⟨rfl, ⟨nd2, rfl⟩⟩) | (go_at_call 46; (with_reducible refine (slices_Equal_int64_int64.calls A0_3 c0_3 l0_3 A1_3 c1_3 l1_3 true _ (Kd.C_below HR0_3.out (HBD.out _)) HC0_3.out (Kd.C_below HR1_3.out (HBD.out _)) HC1_3.out H3.out).mono ?_); rintro ed W2 ⟨rfl, ⟨nd3, rfl⟩⟩) | (go_at_call 47; (with_reducible refine (slices_Equal_uint64_uint64.calls A0_6 c0_6 l0_6 A1_6 c1_6 l1_6 true _ (Kd.C_below HR0_6.out (HBD.out _)) HC0_6.out (Kd.C_below HR1_6.out (HBD.out _)) HC1_6.out H6.out).mono ?_); rintro ed W2 ⟨rfl, ⟨nd6, rfl⟩⟩) | (go_at_call 30; (with_reducible refine (slices_Equal_bool_bool.calls A0_7 c0_7 l0_7 A1_7 c1_7 l1_7 false _ (Kd.C_below HR0_7.out (HBD.out _)) HC0_7.out (Kd.C_below HR1_7.out (HBD.out _)) HC1_7.out H7.out).mono ?_); rintro ed W2 ⟨rfl, ⟨nd7, rfl⟩⟩))
            go_ret
            refine ⟨?_, by first | exact HB.out | exact HBD.out _⟩
            have hq0 := C0.out
            have hE2 := of_decide_eq_true E2.out
            have hE3 := of_decide_eq_true E3.out
            have hE6 := of_decide_eq_true E6.out
            have hE7 := of_decide_eq_false E7.out
            simp only [Bool.and_eq_true, Bool.and_eq_false_iff, beq_iff_eq, beq_eq_false_iff_ne] at hq0
            rw [decide_eq_false (fun hh => hE7 hh.2.2.2.2.2.2.2)]
            rfl
        · have H6 : Aside0 (slices_Equal_uint64_uint64.f l0_6 l1_6 = some false) := ⟨congrArg some e6⟩
          have E6 := Aside0.mk e6
          clear e6
          go_enter Try.func32, Try.ntmps32
          go_wp2_with (first | (go_at_call 45; (with_reducible refine (slices_Equal_int_int.calls A0_2 c0_2 l0_2 A1_2 c1_2 l1_2 true _ (Kd.C_below HR0_2.out HB.out) HC0_2.out (Kd.C_below HR1_2.out HB.out) HC1_2.out H2.out).mono ?_); rintro ed W2 ⟨rfl, ⟨nd2, rfl⟩⟩) | (go_at_call 46; (with_reducible refine (slices_Equal_int64_int64.calls A0_3 c0_3 l0_3 A1_3 c1_3 l1_3 true _ (Kd.C_below HR0_3.out (HBD.out _)) HC0_3.out (Kd.C_below HR1_3.out (HBD.out _)) HC1_3.out H3.out).mono ?_); rintro ed W2 ⟨rfl, ⟨nd3, rfl⟩⟩) | (go_at_call 47; (with_reducible refine (slices_Equal_uint64_uint64.calls A0_6 c0_6 l0_6 A1_6 c1_6 l1_6 false _ (Kd.C_below HR0_6.out (HBD.out _)) HC0_6.out (Kd.C_below HR1_6.out (HBD.out _)) HC1_6.out H6.out).mono ?_); rintro ed W2 ⟨rfl, ⟨nd6, rfl⟩⟩))
          go_ret
          refine ⟨?_, by first | exact HB.out | exact HBD.out _⟩
          have hq0 := C0.out
          have hE2 := of_decide_eq_true E2.out
          have hE3 := of_decide_eq_true E3.out
          have hE6 := of_decide_eq_false E6.out
          simp only [Bool.and_eq_true, Bool.and_eq_false_iff, beq_iff_eq, beq_eq_false_iff_ne] at hq0
          rw [decide_eq_false (fun hh => hE6 hh.2.2.2.2.2.2.1)]
          rfl
      · have H3 : Aside0 (slices_Equal_int64_int64.f l0_3 l1_3 = some false) := ⟨congrArg some e3⟩
        have E3 := Aside0.mk e3
        clear e3
        go_enter Try.func32, Try.ntmps32
        go_wp2_with (first | (go_at_call 45; (with_reducible refine (slices_Equal_int_int.calls A0_2 c0_2 l0_2 A1_2 c1_2 l1_2 true _ (Kd.C_below HR0_2.out HB.out) HC0_2.out (Kd.C_below HR1_2.out HB.out) HC1_2.out H2.out).mono ?_); rintro ed W2 ⟨rfl, ⟨nd2, rfl⟩⟩) | (go_at_call 46; (with_reducible refine (slices_Equal_int64_int64.calls A0_3 c0_3 l0_3 A1_3 c1_3 l1_3 false _ (Kd.C_below HR0_3.out (HBD.out _)) HC0_3.out (Kd.C_below HR1_3.out (HBD.out _)) HC1_3.out H3.out).mono ?_); rintro ed W2 ⟨rfl, ⟨nd3, rfl⟩⟩))
        go_ret
        refine ⟨?_, by first | exact HB.out | exact HBD.out _⟩
        have hq0 := C0.out
        have hE2 := of_decide_eq_true E2.out
        have hE3 := of_decide_eq_false E3.out
        simp only [Bool.and_eq_true, Bool.and_eq_false_iff, beq_iff_eq, beq_eq_false_iff_ne] at hq0
        rw [decide_eq_false (fun hh => hE3 hh.2.2.2.2.2.1)]
        rfl
    · have H2 : Aside0 (slices_Equal_int_int.f l0_2 l1_2 = some false) := ⟨congrArg some e2⟩
      have E2 := Aside0.mk e2
      clear e2
      go_enter Try.func32, Try.ntmps32
      go_wp2_with (first | (go_at_call 45; (with_reducible refine (slices_Equal_int_int.calls A0_2 c0_2 l0_2 A1_2 c1_2 l1_2 false _ (Kd.C_below HR0_2.out HB.out) HC0_2.out (Kd.C_below HR1_2.out HB.out) HC1_2.out H2.out).mono ?_); rintro ed W2 ⟨rfl, ⟨nd2, rfl⟩⟩))
      go_ret
      refine ⟨?_, by first | exact HB.out | exact HBD.out _⟩
      have hq0 := C0.out
      have hE2 := of_decide_eq_false E2.out
      simp only [Bool.and_eq_true, Bool.and_eq_false_iff, beq_iff_eq, beq_eq_false_iff_ne] at hq0
      rw [decide_eq_false (fun hh => hE2 hh.2.2.2.2.1)]
      rfl
  · have C0 := Aside0.mk c0
    go_enter Try.func32, Try.ntmps32
    go_wp2
    go_ret
    refine ⟨?_, by first | exact HB.out | exact HBD.out _⟩
    have hq0 := C0.out
    simp only [Bool.and_eq_true, Bool.and_eq_false_iff, beq_iff_eq, beq_eq_false_iff_ne] at hq0
    rw [decide_eq_false (fun hh => by omega)]
    rfl


/-! ### frame_May: function 19 -/
set_option maxHeartbeats 4000000 in
set_option maxRecDepth 100000 in
theorem frame_bare.y (a0_0 a0_1 : Int) (A0_2 : Option Addr) (c0_2 : Nat) (l0_2 : List Int) (A0_3 : Option Addr) (c0_3 : Nat) (l0_3 : List Int) (a0_4 a0_5 : Int) (A0_6 : Option Addr) (c0_6 : Nat) (l0_6 : List Int) (A0_7 : Option Addr) (c0_7 : Nat) (l0_7 : List Bool) (w : World) (hr0_2 : Kd.C (Kd.int .i64) w A0_2 l0_2.length l0_2) (hc0_2 : l0_2.length ≤ c0_2) (hr0_3 : Kd.C (Kd.int .i64) w A0_3 l0_3.length l0_3) (hc0_3 : l0_3.length ≤ c0_3) (hr0_6 : Kd.C (Kd.int .u64) w A0_6 l0_6.length l0_6) (hc0_6 : l0_6.length ≤ c0_6) (hr0_7 : Kd.C Kd.bool w A0_7 l0_7.length l0_7) (hc0_7 : l0_7.length ≤ c0_7) (h0 : a0_0 ≠ 0) (h1 : a0_0 ≠ 1) (h2 : a0_0 ≠ 2) (h3 : a0_0 ≠ 3) :
    Calls Try.prog 31 #[.agg #[.int .i64 a0_0, .int .i64 a0_1, .slice A0_2 l0_2.length c0_2, .slice A0_3 l0_3.length c0_3, .int .i64 a0_4, .int .i64 a0_5, .slice A0_6 l0_6.length c0_6, .slice A0_7 l0_7.length c0_7]] w fun e w' => e = .returned (.tuple #[.agg #[.int .i64 0, .int .i64 0, .slice A0_2 l0_2.length c0_2, .slice A0_3 l0_3.length c0_3, .int .i64 a0_4, .int .i64 a0_5, .slice A0_6 l0_6.length c0_6, .slice A0_7 l0_7.length c0_7], .bool false]) ∧ Below w.heap.size w w' := by
  have HR2 := Aside0.mk hr0_2
  have HC2 := Aside0.mk hc0_2
  have HR6 := Aside0.mk hr0_6
  have HC6 := Aside0.mk hc0_6
  clear hr0_2 hc0_2 hr0_3 hc0_3 hr0_6 hc0_6 hr0_7 hc0_7
  have hu := Try.underlying29
  have k0 : (a0_0 == 0) = false := beq_eq_false_iff_ne.2 h0
  have k1 : (a0_0 == 1) = false := beq_eq_false_iff_ne.2 h1
  have k2 : (a0_0 == 2) = false := beq_eq_false_iff_ne.2 h2
  have k3 : (a0_0 == 3) = false := beq_eq_false_iff_ne.2 h3
  clear h0 h1 h2 h3
  rcases Bool.eq_false_or_eq_true (decide (0 < a0_1)) with c1 | c1
  · rcases Bool.eq_false_or_eq_true (decide (a0_1 ≤ 4096)) with c2 | c2
    · go_enter Try.func31, Try.ntmps31
      go_wp2
      (try simp only [Exit.inBlock, Exit.then])
      refine bodyPost_ret (results_ct rfl _ _ (w.heap.size + 1) 29 #[.int .i64 0, .int .i64 0, .slice A0_2 l0_2.length c0_2, .slice A0_3 l0_3.length c0_3, .int .i64 a0_4, .int .i64 a0_5, .slice A0_6 l0_6.length c0_6, .slice A0_7 l0_7.length c0_7] (0, 0) _ rfl (heap_mid w _ _ _) Try.underlying29 rfl (by kernel_rfl)) rfl ?_
      exact ⟨rfl, by repeat (first | exact Below.refl _ _ | apply below_alloc | apply pw_below_drewN)⟩
    · go_enter Try.func31, Try.ntmps31
      go_wp2
      (try simp only [Exit.inBlock, Exit.then])
      refine bodyPost_ret (results_ct rfl _ _ (w.heap.size + 1) 29 #[.int .i64 0, .int .i64 0, .slice A0_2 l0_2.length c0_2, .slice A0_3 l0_3.length c0_3, .int .i64 a0_4, .int .i64 a0_5, .slice A0_6 l0_6.length c0_6, .slice A0_7 l0_7.length c0_7] (0, 0) _ rfl (heap_mid w _ _ _) Try.underlying29 rfl (by kernel_rfl)) rfl ?_
      exact ⟨rfl, by repeat (first | exact Below.refl _ _ | apply below_alloc | apply pw_below_drewN)⟩
  · go_enter Try.func31, Try.ntmps31
    go_wp2
    (try simp only [Exit.inBlock, Exit.then])
    refine bodyPost_ret (results_ct rfl _ _ (w.heap.size + 1) 29 #[.int .i64 0, .int .i64 0, .slice A0_2 l0_2.length c0_2, .slice A0_3 l0_3.length c0_3, .int .i64 a0_4, .int .i64 a0_5, .slice A0_6 l0_6.length c0_6, .slice A0_7 l0_7.length c0_7] (0, 0) _ rfl (heap_mid w _ _ _) Try.underlying29 rfl (by kernel_rfl)) rfl ?_
    exact ⟨rfl, by repeat (first | exact Below.refl _ _ | apply below_alloc | apply pw_below_drewN)⟩
theorem frame_bare.lb (a0_0 a0_1 : Int) (A0_2 : Option Addr) (c0_2 : Nat) (l0_2 : List Int) (A0_3 : Option Addr) (c0_3 : Nat) (l0_3 : List Int) (a0_4 a0_5 : Int) (A0_6 : Option Addr) (c0_6 : Nat) (l0_6 : List Int) (A0_7 : Option Addr) (c0_7 : Nat) (l0_7 : List Bool) (w : World) (hr0_2 : Kd.C (Kd.int .i64) w A0_2 l0_2.length l0_2) (hc0_2 : l0_2.length ≤ c0_2) (hr0_3 : Kd.C (Kd.int .i64) w A0_3 l0_3.length l0_3) (hc0_3 : l0_3.length ≤ c0_3) (hr0_6 : Kd.C (Kd.int .u64) w A0_6 l0_6.length l0_6) (hc0_6 : l0_6.length ≤ c0_6) (hr0_7 : Kd.C Kd.bool w A0_7 l0_7.length l0_7) (hc0_7 : l0_7.length ≤ c0_7) (hu6 : U64L l0_6) (h0 : a0_0 = 2) (b : Bool) (hb : decide (((0 < a0_1 ∧ a0_1 ≤ 4096) ∧ (0 < a0_5 ∧ a0_5 ≤ 8) ∧ (l0_6.length : Int) = a0_1 ∧ l0_6.any (fun n => decide (a0_5 < (bl n.toNat : Int))) = false) ∧ 0 ≤ a0_4 ∧ (l0_7.length : Int) = a0_1) = b) :
    Calls Try.prog 31 #[.agg #[.int .i64 a0_0, .int .i64 a0_1, .slice A0_2 l0_2.length c0_2, .slice A0_3 l0_3.length c0_3, .int .i64 a0_4, .int .i64 a0_5, .slice A0_6 l0_6.length c0_6, .slice A0_7 l0_7.length c0_7]] w fun e w' => e = .returned (.tuple #[.agg #[.int .i64 0, .int .i64 0, .slice A0_2 l0_2.length c0_2, .slice A0_3 l0_3.length c0_3, .int .i64 0, .int .i64 0, .slice none 0 0, .slice none 0 0], .bool b]) ∧ Below w.heap.size w w' := by
  subst hb
  exact frame_bare.l a0_0 a0_1 A0_2 c0_2 l0_2 A0_3 c0_3 l0_3 a0_4 a0_5 A0_6 c0_6 l0_6 A0_7 c0_7 l0_7 w hr0_2 hc0_2 hr0_3 hc0_3 hr0_6 hc0_6 hr0_7 hc0_7 hu6 h0
theorem any_wide (l : List Int) (w : Int) : l.any (fun n => decide (w < (bl n.toNat : Int))) = false ↔ ∀ n ∈ l, (bl n.toNat : Int) ≤ w := by
  rw [List.any_eq_false]; simp only [decide_eq_true_eq]
  constructor <;> intro h n hn <;> have := h n hn <;> omega
def frame_May.f (a0_0 : Int) (a0_1 : Int) (l0_2 : List Int) (l0_3 : List Int) (a0_4 : Int) (a0_5 : Int) (l0_6 : List Int) (l0_7 : List Bool) : Option Bool := if U64L l0_6 then some (decide (MayP a0_0 a0_1 l0_2 l0_3 a0_4 a0_5 l0_6 l0_7)) else none
theorem frame_May.of (a0_0 : Int) (a0_1 : Int) (l0_2 : List Int) (l0_3 : List Int) (a0_4 : Int) (a0_5 : Int) (l0_6 : List Int) (l0_7 : List Bool)  (h_ : U64L l0_6) : frame_May.f a0_0 a0_1 l0_2 l0_3 a0_4 a0_5 l0_6 l0_7 = some (decide (MayP a0_0 a0_1 l0_2 l0_3 a0_4 a0_5 l0_6 l0_7)) := if_pos h_
set_option maxHeartbeats 4000000 in
set_option maxRecDepth 100000 in
theorem frame_May.d (a0_0 a0_1 : Int) (A0_2 : Option Addr) (c0_2 : Nat) (l0_2 : List Int) (A0_3 : Option Addr) (c0_3 : Nat) (l0_3 : List Int) (a0_4 a0_5 : Int) (A0_6 : Option Addr) (c0_6 : Nat) (l0_6 : List Int) (A0_7 : Option Addr) (c0_7 : Nat) (l0_7 : List Bool) (w : World) (hr0_2 : Kd.C (Kd.int .i64) w A0_2 l0_2.length l0_2) (hc0_2 : l0_2.length ≤ c0_2) (hr0_3 : Kd.C (Kd.int .i64) w A0_3 l0_3.length l0_3) (hc0_3 : l0_3.length ≤ c0_3) (hr0_6 : Kd.C (Kd.int .u64) w A0_6 l0_6.length l0_6) (hc0_6 : l0_6.length ≤ c0_6) (hr0_7 : Kd.C Kd.bool w A0_7 l0_7.length l0_7) (hc0_7 : l0_7.length ≤ c0_7) (hu6 : U64L l0_6) (h0 : a0_0 = 0) :
    Calls Try.prog 19 #[.agg #[.int .i64 a0_0, .int .i64 a0_1, .slice A0_2 l0_2.length c0_2, .slice A0_3 l0_3.length c0_3, .int .i64 a0_4, .int .i64 a0_5, .slice A0_6 l0_6.length c0_6, .slice A0_7 l0_7.length c0_7]] w fun e w' => e = .returned (.bool (decide (MayP a0_0 a0_1 l0_2 l0_3 a0_4 a0_5 l0_6 l0_7))) ∧ Below w.heap.size w w' := by
  subst h0
  have HR2 := Aside0.mk hr0_2
  have HC2 := Aside0.mk hc0_2
  have HR3 := Aside0.mk hr0_3
  have HC3 := Aside0.mk hc0_3
  have HR6 := Aside0.mk hr0_6
  have HC6 := Aside0.mk hc0_6
  have HR7 := Aside0.mk hr0_7
  have HC7 := Aside0.mk hc0_7
  clear hr0_2 hc0_2 hr0_3 hc0_3 hr0_6 hc0_6 hr0_7 hc0_7
  have HU := Aside0.mk hu6
  clear hu6
  have hu := Try.underlying29
  have HB : Aside0 (Below w.heap.size w (w.alloc (Obj.cells #[Value.int .i64 0, .int .i64 a0_1, .slice A0_2 l0_2.length c0_2, .slice A0_3 l0_3.length c0_3, .int .i64 a0_4, .int .i64 a0_5, .slice A0_6 l0_6.length c0_6, .slice A0_7 l0_7.length c0_7] 29))) := ⟨below_alloc (Below.refl _ _) _⟩
  rcases Bool.eq_false_or_eq_true (decide ((0 < a0_1 ∧ a0_1 ≤ 4096) ∧ (l0_3.length : Int) = a0_1)) with k | k
  · have K := Aside0.mk k
    go_enter Try.func19, Try.ntmps19
    go_wp2_with (first | (go_at_call 31; (with_reducible refine (frame_bare.d 0 a0_1 A0_2 c0_2 l0_2 A0_3 c0_3 l0_3 a0_4 a0_5 A0_6 c0_6 l0_6 A0_7 c0_7 l0_7 _ (Kd.C_below HR2.out HB.out) HC2.out (Kd.C_below HR3.out HB.out) HC3.out (Kd.C_below HR6.out HB.out) HC6.out (Kd.C_below HR7.out HB.out) HC7.out rfl).mono ?_); rintro ed W1 ⟨rfl, hb⟩; have HB1 := Aside0.mk (below_alloc (below_then HB.out HB.out.size hb) (Obj.cells #[.int .i64 0, .int .i64 0, .slice A0_2 l0_2.length c0_2, .slice none 0 0, .int .i64 a0_4, .int .i64 a0_5, .slice A0_6 l0_6.length c0_6, .slice A0_7 l0_7.length c0_7] 29)); clear hb) | (go_at_call 32; (refine (frame_same.calls 0 0 A0_2 c0_2 l0_2 none 0 [] a0_4 a0_5 A0_6 c0_6 l0_6 A0_7 c0_7 l0_7 0 0 none 0 [] none 0 [] 0 0 none 0 [] none 0 [] _ _ (Kd.C_below HR2.out HB1.out) HC2.out (Kd.C_nil _ _) (Nat.le_refl _) (Kd.C_below HR6.out HB1.out) HC6.out (Kd.C_below HR7.out HB1.out) HC7.out (Kd.C_nil _ _) (Nat.le_refl _) (Kd.C_nil _ _) (Nat.le_refl _) (Kd.C_nil _ _) (Nat.le_refl _) (Kd.C_nil _ _) (Nat.le_refl _) rfl).mono ?_); rintro ed W2 ⟨rfl, hb⟩; have HB2 := Aside0.mk (below_then HB1.out HB1.out.size hb); clear hb))
    go_ret
    refine ⟨congrArg Ending.returned (congrArg Value.bool ?_), HB2.out⟩
    have k1 := of_decide_eq_true K.out
    rw [eq_comm, Bool.eq_iff_iff]
    simp only [decide_eq_true_eq, Bool.and_eq_true]
    refine ⟨fun h => ?_, fun h => ?_⟩
    · obtain ⟨h1, ⟨h0, h⟩ | ⟨h0, h⟩ | ⟨h0, h⟩ | ⟨h0, h⟩⟩ := h
      · exact ⟨h.2.2.1, h.2.2.2.1, h.1, h.2.2.2.2.1, h.2.2.2.2.2⟩
      · exact absurd h0 (by decide)
      · exact absurd h0 (by decide)
      · exact absurd h0 (by decide)
    · exact ⟨by omega, .inl ⟨rfl, h.2.2.1, k1.2, h.1, h.2.1, h.2.2.2.1, h.2.2.2.2⟩⟩
  · have K := Aside0.mk k
    go_enter Try.func19, Try.ntmps19
    go_wp2_with (first | (go_at_call 31; (with_reducible refine (frame_bare.d 0 a0_1 A0_2 c0_2 l0_2 A0_3 c0_3 l0_3 a0_4 a0_5 A0_6 c0_6 l0_6 A0_7 c0_7 l0_7 _ (Kd.C_below HR2.out HB.out) HC2.out (Kd.C_below HR3.out HB.out) HC3.out (Kd.C_below HR6.out HB.out) HC6.out (Kd.C_below HR7.out HB.out) HC7.out rfl).mono ?_); rintro ed W1 ⟨rfl, hb⟩; have HB1 := Aside0.mk (below_alloc (below_then HB.out HB.out.size hb) (Obj.cells #[.int .i64 0, .int .i64 0, .slice A0_2 l0_2.length c0_2, .slice none 0 0, .int .i64 a0_4, .int .i64 a0_5, .slice A0_6 l0_6.length c0_6, .slice A0_7 l0_7.length c0_7] 29)); clear hb))
    go_ret
    refine ⟨?_, HB1.out⟩
    have k1 := of_decide_eq_false K.out
    rw [show decide (MayP 0 a0_1 l0_2 l0_3 a0_4 a0_5 l0_6 l0_7) = false from decide_eq_false (fun h => k1 ?_)]
    · rfl
    · obtain ⟨h1, ⟨h0, h⟩ | ⟨h0, h⟩ | ⟨h0, h⟩ | ⟨h0, h⟩⟩ := h
      · exact ⟨by omega, h.2.1⟩
      · exact absurd h0 (by decide)
      · exact absurd h0 (by decide)
      · exact absurd h0 (by decide)
set_option maxHeartbeats 4000000 in
set_option maxRecDepth 100000 in
theorem frame_May.t (a0_0 a0_1 : Int) (A0_2 : Option Addr) (c0_2 : Nat) (l0_2 : List Int) (A0_3 : Option Addr) (c0_3 : Nat) (l0_3 : List Int) (a0_4 a0_5 : Int) (A0_6 : Option Addr) (c0_6 : Nat) (l0_6 : List Int) (A0_7 : Option Addr) (c0_7 : Nat) (l0_7 : List Bool) (w : World) (hr0_2 : Kd.C (Kd.int .i64) w A0_2 l0_2.length l0_2) (hc0_2 : l0_2.length ≤ c0_2) (hr0_3 : Kd.C (Kd.int .i64) w A0_3 l0_3.length l0_3) (hc0_3 : l0_3.length ≤ c0_3) (hr0_6 : Kd.C (Kd.int .u64) w A0_6 l0_6.length l0_6) (hc0_6 : l0_6.length ≤ c0_6) (hr0_7 : Kd.C Kd.bool w A0_7 l0_7.length l0_7) (hc0_7 : l0_7.length ≤ c0_7) (hu6 : U64L l0_6) (h0 : a0_0 = 1) :
    Calls Try.prog 19 #[.agg #[.int .i64 a0_0, .int .i64 a0_1, .slice A0_2 l0_2.length c0_2, .slice A0_3 l0_3.length c0_3, .int .i64 a0_4, .int .i64 a0_5, .slice A0_6 l0_6.length c0_6, .slice A0_7 l0_7.length c0_7]] w fun e w' => e = .returned (.bool (decide (MayP a0_0 a0_1 l0_2 l0_3 a0_4 a0_5 l0_6 l0_7))) ∧ Below w.heap.size w w' := by
  subst h0
  have HR2 := Aside0.mk hr0_2
  have HC2 := Aside0.mk hc0_2
  have HR3 := Aside0.mk hr0_3
  have HC3 := Aside0.mk hc0_3
  have HR6 := Aside0.mk hr0_6
  have HC6 := Aside0.mk hc0_6
  have HR7 := Aside0.mk hr0_7
  have HC7 := Aside0.mk hc0_7
  clear hr0_2 hc0_2 hr0_3 hc0_3 hr0_6 hc0_6 hr0_7 hc0_7
  have HU := Aside0.mk hu6
  clear hu6
  have hu := Try.underlying29
  have HB : Aside0 (Below w.heap.size w (w.alloc (Obj.cells #[Value.int .i64 1, .int .i64 a0_1, .slice A0_2 l0_2.length c0_2, .slice A0_3 l0_3.length c0_3, .int .i64 a0_4, .int .i64 a0_5, .slice A0_6 l0_6.length c0_6, .slice A0_7 l0_7.length c0_7] 29))) := ⟨below_alloc (Below.refl _ _) _⟩
  rcases Bool.eq_false_or_eq_true (decide (((0 < a0_1 ∧ a0_1 ≤ 4096) ∧ checkI a0_1 l0_2 = 0) ∧ (l0_2.length : Int) = (l0_3.length : Int))) with k | k
  · have K := Aside0.mk k
    go_enter Try.func19, Try.ntmps19
    go_wp2_with (first | (go_at_call 31; (with_reducible refine (frame_bare.t 1 a0_1 A0_2 c0_2 l0_2 A0_3 c0_3 l0_3 a0_4 a0_5 A0_6 c0_6 l0_6 A0_7 c0_7 l0_7 _ (Kd.C_below HR2.out HB.out) HC2.out (Kd.C_below HR3.out HB.out) HC3.out (Kd.C_below HR6.out HB.out) HC6.out (Kd.C_below HR7.out HB.out) HC7.out rfl).mono ?_); rintro ed W1 ⟨rfl, hb⟩; have HB1 := Aside0.mk (below_alloc (below_then HB.out HB.out.size hb) (Obj.cells #[.int .i64 0, .int .i64 0, .slice none 0 0, .slice none 0 0, .int .i64 a0_4, .int .i64 a0_5, .slice A0_6 l0_6.length c0_6, .slice A0_7 l0_7.length c0_7] 29)); clear hb) | (go_at_call 32; (refine (frame_same.calls 0 0 none 0 [] none 0 [] a0_4 a0_5 A0_6 c0_6 l0_6 A0_7 c0_7 l0_7 0 0 none 0 [] none 0 [] 0 0 none 0 [] none 0 [] _ _ (Kd.C_nil _ _) (Nat.le_refl _) (Kd.C_nil _ _) (Nat.le_refl _) (Kd.C_below HR6.out HB1.out) HC6.out (Kd.C_below HR7.out HB1.out) HC7.out (Kd.C_nil _ _) (Nat.le_refl _) (Kd.C_nil _ _) (Nat.le_refl _) (Kd.C_nil _ _) (Nat.le_refl _) (Kd.C_nil _ _) (Nat.le_refl _) rfl).mono ?_); rintro ed W2 ⟨rfl, hb⟩; have HB2 := Aside0.mk (below_then HB1.out HB1.out.size hb); clear hb))
    go_ret
    refine ⟨congrArg Ending.returned (congrArg Value.bool ?_), HB2.out⟩
    have k1 := of_decide_eq_true K.out
    rw [eq_comm, Bool.eq_iff_iff]
    simp only [decide_eq_true_eq, Bool.and_eq_true]
    refine ⟨fun h => ?_, fun h => ?_⟩
    · obtain ⟨h1, ⟨h0, h⟩ | ⟨h0, h⟩ | ⟨h0, h⟩ | ⟨h0, h⟩⟩ := h
      · exact absurd h0 (by decide)
      · exact ⟨h.2.2.1, h.2.2.2.1, h.2.2.2.2.1, h.2.2.2.2.2⟩
      · exact absurd h0 (by decide)
      · exact absurd h0 (by decide)
    · exact ⟨by omega, .inr (.inl ⟨rfl, k1.1.2, by omega, h.1, h.2.1, h.2.2.1, h.2.2.2⟩)⟩
  · have K := Aside0.mk k
    go_enter Try.func19, Try.ntmps19
    go_wp2_with (first | (go_at_call 31; (with_reducible refine (frame_bare.t 1 a0_1 A0_2 c0_2 l0_2 A0_3 c0_3 l0_3 a0_4 a0_5 A0_6 c0_6 l0_6 A0_7 c0_7 l0_7 _ (Kd.C_below HR2.out HB.out) HC2.out (Kd.C_below HR3.out HB.out) HC3.out (Kd.C_below HR6.out HB.out) HC6.out (Kd.C_below HR7.out HB.out) HC7.out rfl).mono ?_); rintro ed W1 ⟨rfl, hb⟩; have HB1 := Aside0.mk (below_alloc (below_then HB.out HB.out.size hb) (Obj.cells #[.int .i64 0, .int .i64 0, .slice none 0 0, .slice none 0 0, .int .i64 a0_4, .int .i64 a0_5, .slice A0_6 l0_6.length c0_6, .slice A0_7 l0_7.length c0_7] 29)); clear hb))
    go_ret
    refine ⟨?_, HB1.out⟩
    have k1 := of_decide_eq_false K.out
    rw [show decide (MayP 1 a0_1 l0_2 l0_3 a0_4 a0_5 l0_6 l0_7) = false from decide_eq_false (fun h => k1 ?_)]
    · rfl
    · obtain ⟨h1, ⟨h0, h⟩ | ⟨h0, h⟩ | ⟨h0, h⟩ | ⟨h0, h⟩⟩ := h
      · exact absurd h0 (by decide)
      · exact ⟨⟨by omega, h.1⟩, by omega⟩
      · exact absurd h0 (by decide)
      · exact absurd h0 (by decide)
set_option maxHeartbeats 4000000 in
set_option maxRecDepth 100000 in
theorem frame_May.l (a0_0 a0_1 : Int) (A0_2 : Option Addr) (c0_2 : Nat) (l0_2 : List Int) (A0_3 : Option Addr) (c0_3 : Nat) (l0_3 : List Int) (a0_4 a0_5 : Int) (A0_6 : Option Addr) (c0_6 : Nat) (l0_6 : List Int) (A0_7 : Option Addr) (c0_7 : Nat) (l0_7 : List Bool) (w : World) (hr0_2 : Kd.C (Kd.int .i64) w A0_2 l0_2.length l0_2) (hc0_2 : l0_2.length ≤ c0_2) (hr0_3 : Kd.C (Kd.int .i64) w A0_3 l0_3.length l0_3) (hc0_3 : l0_3.length ≤ c0_3) (hr0_6 : Kd.C (Kd.int .u64) w A0_6 l0_6.length l0_6) (hc0_6 : l0_6.length ≤ c0_6) (hr0_7 : Kd.C Kd.bool w A0_7 l0_7.length l0_7) (hc0_7 : l0_7.length ≤ c0_7) (hu6 : U64L l0_6) (h0 : a0_0 = 2) :
    Calls Try.prog 19 #[.agg #[.int .i64 a0_0, .int .i64 a0_1, .slice A0_2 l0_2.length c0_2, .slice A0_3 l0_3.length c0_3, .int .i64 a0_4, .int .i64 a0_5, .slice A0_6 l0_6.length c0_6, .slice A0_7 l0_7.length c0_7]] w fun e w' => e = .returned (.bool (decide (MayP a0_0 a0_1 l0_2 l0_3 a0_4 a0_5 l0_6 l0_7))) ∧ Below w.heap.size w w' := by
  subst h0
  have HR2 := Aside0.mk hr0_2
  have HC2 := Aside0.mk hc0_2
  have HR3 := Aside0.mk hr0_3
  have HC3 := Aside0.mk hc0_3
  have HR6 := Aside0.mk hr0_6
  have HC6 := Aside0.mk hc0_6
  have HR7 := Aside0.mk hr0_7
  have HC7 := Aside0.mk hc0_7
  clear hr0_2 hc0_2 hr0_3 hc0_3 hr0_6 hc0_6 hr0_7 hc0_7
  have HU := Aside0.mk hu6
  clear hu6
  have hu := Try.underlying29
  have HB : Aside0 (Below w.heap.size w (w.alloc (Obj.cells #[Value.int .i64 2, .int .i64 a0_1, .slice A0_2 l0_2.length c0_2, .slice A0_3 l0_3.length c0_3, .int .i64 a0_4, .int .i64 a0_5, .slice A0_6 l0_6.length c0_6, .slice A0_7 l0_7.length c0_7] 29))) := ⟨below_alloc (Below.refl _ _) _⟩
  rcases Bool.eq_false_or_eq_true (decide (((0 < a0_1 ∧ a0_1 ≤ 4096) ∧ (0 < a0_5 ∧ a0_5 ≤ 8) ∧ (l0_6.length : Int) = a0_1 ∧ l0_6.any (fun n => decide (a0_5 < (bl n.toNat : Int))) = false) ∧ 0 ≤ a0_4 ∧ (l0_7.length : Int) = a0_1)) with k | k
  · have K := Aside0.mk k
    go_enter Try.func19, Try.ntmps19
    go_wp2_with (first | (go_at_call 31; (with_reducible refine (frame_bare.lb 2 a0_1 A0_2 c0_2 l0_2 A0_3 c0_3 l0_3 a0_4 a0_5 A0_6 c0_6 l0_6 A0_7 c0_7 l0_7 _ (Kd.C_below HR2.out HB.out) HC2.out (Kd.C_below HR3.out HB.out) HC3.out (Kd.C_below HR6.out HB.out) HC6.out (Kd.C_below HR7.out HB.out) HC7.out HU.out rfl true K.out).mono ?_); rintro ed W1 ⟨rfl, hb⟩; have HB1 := Aside0.mk (below_alloc (below_then HB.out HB.out.size hb) (Obj.cells #[.int .i64 0, .int .i64 0, .slice A0_2 l0_2.length c0_2, .slice A0_3 l0_3.length c0_3, .int .i64 0, .int .i64 0, .slice none 0 0, .slice none 0 0] 29)); clear hb) | (go_at_call 32; (refine (frame_same.calls 0 0 A0_2 c0_2 l0_2 A0_3 c0_3 l0_3 0 0 none 0 [] none 0 [] 0 0 none 0 [] none 0 [] 0 0 none 0 [] none 0 [] _ _ (Kd.C_below HR2.out HB1.out) HC2.out (Kd.C_below HR3.out HB1.out) HC3.out (Kd.C_nil _ _) (Nat.le_refl _) (Kd.C_nil _ _) (Nat.le_refl _) (Kd.C_nil _ _) (Nat.le_refl _) (Kd.C_nil _ _) (Nat.le_refl _) (Kd.C_nil _ _) (Nat.le_refl _) (Kd.C_nil _ _) (Nat.le_refl _) rfl).mono ?_); rintro ed W2 ⟨rfl, hb⟩; have HB2 := Aside0.mk (below_then HB1.out HB1.out.size hb); clear hb))
    go_ret
    refine ⟨congrArg Ending.returned (congrArg Value.bool ?_), HB2.out⟩
    have k1 := of_decide_eq_true K.out
    rw [eq_comm, Bool.eq_iff_iff]
    simp only [decide_eq_true_eq, Bool.and_eq_true]
    refine ⟨fun h => ?_, fun h => ?_⟩
    · obtain ⟨h1, ⟨h0, h⟩ | ⟨h0, h⟩ | ⟨h0, h⟩ | ⟨h0, h⟩⟩ := h
      · exact absurd h0 (by decide)
      · exact absurd h0 (by decide)
      · exact ⟨h.2.2.2.1, h.2.2.2.2.1⟩
      · exact absurd h0 (by decide)
    · exact ⟨by omega, .inr (.inr (.inl ⟨rfl, by omega, k1.1.2.2.1, (any_wide l0_6 a0_5).1 k1.1.2.2.2, h.1, h.2, k1.2.1, k1.2.2⟩))⟩
  · have K := Aside0.mk k
    go_enter Try.func19, Try.ntmps19
    go_wp2_with (first | (go_at_call 31; (with_reducible refine (frame_bare.lb 2 a0_1 A0_2 c0_2 l0_2 A0_3 c0_3 l0_3 a0_4 a0_5 A0_6 c0_6 l0_6 A0_7 c0_7 l0_7 _ (Kd.C_below HR2.out HB.out) HC2.out (Kd.C_below HR3.out HB.out) HC3.out (Kd.C_below HR6.out HB.out) HC6.out (Kd.C_below HR7.out HB.out) HC7.out HU.out rfl false K.out).mono ?_); rintro ed W1 ⟨rfl, hb⟩; have HB1 := Aside0.mk (below_alloc (below_then HB.out HB.out.size hb) (Obj.cells #[.int .i64 0, .int .i64 0, .slice A0_2 l0_2.length c0_2, .slice A0_3 l0_3.length c0_3, .int .i64 0, .int .i64 0, .slice none 0 0, .slice none 0 0] 29)); clear hb))
    go_ret
    refine ⟨?_, HB1.out⟩
    have k1 := of_decide_eq_false K.out
    rw [show decide (MayP 2 a0_1 l0_2 l0_3 a0_4 a0_5 l0_6 l0_7) = false from decide_eq_false (fun h => k1 ?_)]
    · rfl
    · obtain ⟨h1, ⟨h0, h⟩ | ⟨h0, h⟩ | ⟨h0, h⟩ | ⟨h0, h⟩⟩ := h
      · exact absurd h0 (by decide)
      · exact absurd h0 (by decide)
      · exact ⟨⟨by omega, by omega, h.2.1, (any_wide l0_6 a0_5).2 h.2.2.1⟩, h.2.2.2.2.2.1, h.2.2.2.2.2.2⟩
      · exact absurd h0 (by decide)
set_option maxHeartbeats 4000000 in
set_option maxRecDepth 100000 in
theorem frame_May.s (a0_0 a0_1 : Int) (A0_2 : Option Addr) (c0_2 : Nat) (l0_2 : List Int) (A0_3 : Option Addr) (c0_3 : Nat) (l0_3 : List Int) (a0_4 a0_5 : Int) (A0_6 : Option Addr) (c0_6 : Nat) (l0_6 : List Int) (A0_7 : Option Addr) (c0_7 : Nat) (l0_7 : List Bool) (w : World) (hr0_2 : Kd.C (Kd.int .i64) w A0_2 l0_2.length l0_2) (hc0_2 : l0_2.length ≤ c0_2) (hr0_3 : Kd.C (Kd.int .i64) w A0_3 l0_3.length l0_3) (hc0_3 : l0_3.length ≤ c0_3) (hr0_6 : Kd.C (Kd.int .u64) w A0_6 l0_6.length l0_6) (hc0_6 : l0_6.length ≤ c0_6) (hr0_7 : Kd.C Kd.bool w A0_7 l0_7.length l0_7) (hc0_7 : l0_7.length ≤ c0_7) (hu6 : U64L l0_6) (h0 : a0_0 = 3) :
    Calls Try.prog 19 #[.agg #[.int .i64 a0_0, .int .i64 a0_1, .slice A0_2 l0_2.length c0_2, .slice A0_3 l0_3.length c0_3, .int .i64 a0_4, .int .i64 a0_5, .slice A0_6 l0_6.length c0_6, .slice A0_7 l0_7.length c0_7]] w fun e w' => e = .returned (.bool (decide (MayP a0_0 a0_1 l0_2 l0_3 a0_4 a0_5 l0_6 l0_7))) ∧ Below w.heap.size w w' := by
  subst h0
  have HR2 := Aside0.mk hr0_2
  have HC2 := Aside0.mk hc0_2
  have HR3 := Aside0.mk hr0_3
  have HC3 := Aside0.mk hc0_3
  have HR6 := Aside0.mk hr0_6
  have HC6 := Aside0.mk hc0_6
  have HR7 := Aside0.mk hr0_7
  have HC7 := Aside0.mk hc0_7
  clear hr0_2 hc0_2 hr0_3 hc0_3 hr0_6 hc0_6 hr0_7 hc0_7
  have HU := Aside0.mk hu6
  clear hu6
  have hu := Try.underlying29
  have HB : Aside0 (Below w.heap.size w (w.alloc (Obj.cells #[Value.int .i64 3, .int .i64 a0_1, .slice A0_2 l0_2.length c0_2, .slice A0_3 l0_3.length c0_3, .int .i64 a0_4, .int .i64 a0_5, .slice A0_6 l0_6.length c0_6, .slice A0_7 l0_7.length c0_7] 29))) := ⟨below_alloc (Below.refl _ _) _⟩
  rcases Bool.eq_false_or_eq_true (decide (((0 < a0_1 ∧ a0_1 ≤ 4096) ∧ 0 ≤ a0_4) ∧ (l0_7.length : Int) = a0_1)) with k | k
  · have K := Aside0.mk k
    go_enter Try.func19, Try.ntmps19
    go_wp2_with (first | (go_at_call 31; (with_reducible refine (frame_bare.s 3 a0_1 A0_2 c0_2 l0_2 A0_3 c0_3 l0_3 a0_4 a0_5 A0_6 c0_6 l0_6 A0_7 c0_7 l0_7 _ (Kd.C_below HR2.out HB.out) HC2.out (Kd.C_below HR3.out HB.out) HC3.out (Kd.C_below HR6.out HB.out) HC6.out (Kd.C_below HR7.out HB.out) HC7.out rfl).mono ?_); rintro ed W1 ⟨rfl, hb⟩; have HB1 := Aside0.mk (below_alloc (below_then HB.out HB.out.size hb) (Obj.cells #[.int .i64 0, .int .i64 0, .slice A0_2 l0_2.length c0_2, .slice A0_3 l0_3.length c0_3, .int .i64 0, .int .i64 a0_5, .slice A0_6 l0_6.length c0_6, .slice none 0 0] 29)); clear hb) | (go_at_call 32; (refine (frame_same.calls 0 0 A0_2 c0_2 l0_2 A0_3 c0_3 l0_3 0 a0_5 A0_6 c0_6 l0_6 none 0 [] 0 0 none 0 [] none 0 [] 0 0 none 0 [] none 0 [] _ _ (Kd.C_below HR2.out HB1.out) HC2.out (Kd.C_below HR3.out HB1.out) HC3.out (Kd.C_below HR6.out HB1.out) HC6.out (Kd.C_nil _ _) (Nat.le_refl _) (Kd.C_nil _ _) (Nat.le_refl _) (Kd.C_nil _ _) (Nat.le_refl _) (Kd.C_nil _ _) (Nat.le_refl _) (Kd.C_nil _ _) (Nat.le_refl _) rfl).mono ?_); rintro ed W2 ⟨rfl, hb⟩; have HB2 := Aside0.mk (below_then HB1.out HB1.out.size hb); clear hb))
    go_ret
    refine ⟨congrArg Ending.returned (congrArg Value.bool ?_), HB2.out⟩
    have k1 := of_decide_eq_true K.out
    rw [eq_comm, Bool.eq_iff_iff]
    simp only [decide_eq_true_eq, Bool.and_eq_true]
    refine ⟨fun h => ?_, fun h => ?_⟩
    · obtain ⟨h1, ⟨h0, h⟩ | ⟨h0, h⟩ | ⟨h0, h⟩ | ⟨h0, h⟩⟩ := h
      · exact absurd h0 (by decide)
      · exact absurd h0 (by decide)
      · exact absurd h0 (by decide)
      · exact ⟨h.2.2.1, h.1, h.2.1, h.2.2.2.1⟩
    · exact ⟨by omega, .inr (.inr (.inr ⟨rfl, h.2.1, h.2.2.1, h.1, h.2.2.2, k1.1.2, k1.2⟩))⟩
  · have K := Aside0.mk k
    go_enter Try.func19, Try.ntmps19
    go_wp2_with (first | (go_at_call 31; (with_reducible refine (frame_bare.s 3 a0_1 A0_2 c0_2 l0_2 A0_3 c0_3 l0_3 a0_4 a0_5 A0_6 c0_6 l0_6 A0_7 c0_7 l0_7 _ (Kd.C_below HR2.out HB.out) HC2.out (Kd.C_below HR3.out HB.out) HC3.out (Kd.C_below HR6.out HB.out) HC6.out (Kd.C_below HR7.out HB.out) HC7.out rfl).mono ?_); rintro ed W1 ⟨rfl, hb⟩; have HB1 := Aside0.mk (below_alloc (below_then HB.out HB.out.size hb) (Obj.cells #[.int .i64 0, .int .i64 0, .slice A0_2 l0_2.length c0_2, .slice A0_3 l0_3.length c0_3, .int .i64 0, .int .i64 a0_5, .slice A0_6 l0_6.length c0_6, .slice none 0 0] 29)); clear hb))
    go_ret
    refine ⟨?_, HB1.out⟩
    have k1 := of_decide_eq_false K.out
    rw [show decide (MayP 3 a0_1 l0_2 l0_3 a0_4 a0_5 l0_6 l0_7) = false from decide_eq_false (fun h => k1 ?_)]
    · rfl
    · obtain ⟨h1, ⟨h0, h⟩ | ⟨h0, h⟩ | ⟨h0, h⟩ | ⟨h0, h⟩⟩ := h
      · exact absurd h0 (by decide)
      · exact absurd h0 (by decide)
      · exact absurd h0 (by decide)
      · exact ⟨⟨by omega, h.2.2.2.2.1⟩, h.2.2.2.2.2⟩
set_option maxHeartbeats 4000000 in
set_option maxRecDepth 100000 in
theorem frame_May.x (a0_0 a0_1 : Int) (A0_2 : Option Addr) (c0_2 : Nat) (l0_2 : List Int) (A0_3 : Option Addr) (c0_3 : Nat) (l0_3 : List Int) (a0_4 a0_5 : Int) (A0_6 : Option Addr) (c0_6 : Nat) (l0_6 : List Int) (A0_7 : Option Addr) (c0_7 : Nat) (l0_7 : List Bool) (w : World) (hr0_2 : Kd.C (Kd.int .i64) w A0_2 l0_2.length l0_2) (hc0_2 : l0_2.length ≤ c0_2) (hr0_3 : Kd.C (Kd.int .i64) w A0_3 l0_3.length l0_3) (hc0_3 : l0_3.length ≤ c0_3) (hr0_6 : Kd.C (Kd.int .u64) w A0_6 l0_6.length l0_6) (hc0_6 : l0_6.length ≤ c0_6) (hr0_7 : Kd.C Kd.bool w A0_7 l0_7.length l0_7) (hc0_7 : l0_7.length ≤ c0_7) (h0 : a0_0 ≠ 0) (h1 : a0_0 ≠ 1) (h2 : a0_0 ≠ 2) (h3 : a0_0 ≠ 3) :
    Calls Try.prog 19 #[.agg #[.int .i64 a0_0, .int .i64 a0_1, .slice A0_2 l0_2.length c0_2, .slice A0_3 l0_3.length c0_3, .int .i64 a0_4, .int .i64 a0_5, .slice A0_6 l0_6.length c0_6, .slice A0_7 l0_7.length c0_7]] w fun e w' => e = .returned (.bool false) ∧ Below w.heap.size w w' := by
  have HR2 := Aside0.mk hr0_2
  have HC2 := Aside0.mk hc0_2
  have HR3 := Aside0.mk hr0_3
  have HC3 := Aside0.mk hc0_3
  have HR6 := Aside0.mk hr0_6
  have HC6 := Aside0.mk hc0_6
  have HR7 := Aside0.mk hr0_7
  have HC7 := Aside0.mk hc0_7
  clear hr0_2 hc0_2 hr0_3 hc0_3 hr0_6 hc0_6 hr0_7 hc0_7
  have hu := Try.underlying29
  have HB : Aside0 (Below w.heap.size w (w.alloc (Obj.cells #[Value.int .i64 a0_0, Value.int .i64 a0_1, Value.slice A0_2 l0_2.length c0_2, Value.slice A0_3 l0_3.length c0_3, Value.int .i64 a0_4, Value.int .i64 a0_5, Value.slice A0_6 l0_6.length c0_6, Value.slice A0_7 l0_7.length c0_7] 29))) := ⟨below_alloc (Below.refl _ _) _⟩
  have HN := Aside0.mk (show a0_0 ≠ 0 ∧ a0_0 ≠ 1 ∧ a0_0 ≠ 2 ∧ a0_0 ≠ 3 from ⟨h0, h1, h2, h3⟩)
  clear h0 h1 h2 h3
  go_enter Try.func19, Try.ntmps19
  go_wp2_with (go_at_call 31; (with_reducible refine (frame_bare.y a0_0 a0_1 A0_2 c0_2 l0_2 A0_3 c0_3 l0_3 a0_4 a0_5 A0_6 c0_6 l0_6 A0_7 c0_7 l0_7 _ (Kd.C_below HR2.out HB.out) HC2.out (Kd.C_below HR3.out HB.out) HC3.out (Kd.C_below HR6.out HB.out) HC6.out (Kd.C_below HR7.out HB.out) HC7.out HN.out.1 HN.out.2.1 HN.out.2.2.1 HN.out.2.2.2).mono ?_); rintro ed W1 ⟨rfl, hb⟩; have HB1 := Aside0.mk (below_then HB.out HB.out.size hb); clear hb)
  go_ret
  exact ⟨rfl, by first | exact HB1.out | exact below_alloc HB1.out _⟩
set_option maxHeartbeats 4000000 in
set_option maxRecDepth 100000 in
theorem frame_May.calls (a0_0 : Int) (a0_1 : Int) (A0_2 : Option Addr) (c0_2 : Nat) (l0_2 : List Int) (A0_3 : Option Addr) (c0_3 : Nat) (l0_3 : List Int) (a0_4 : Int) (a0_5 : Int) (A0_6 : Option Addr) (c0_6 : Nat) (l0_6 : List Int) (A0_7 : Option Addr) (c0_7 : Nat) (l0_7 : List Bool) (r : Bool) (w : World) (hr0_2 : Kd.C (Kd.int .i64) w A0_2 l0_2.length l0_2) (hc0_2 : l0_2.length ≤ c0_2) (hr0_3 : Kd.C (Kd.int .i64) w A0_3 l0_3.length l0_3) (hc0_3 : l0_3.length ≤ c0_3) (hr0_6 : Kd.C (Kd.int .u64) w A0_6 l0_6.length l0_6) (hc0_6 : l0_6.length ≤ c0_6) (hr0_7 : Kd.C Kd.bool w A0_7 l0_7.length l0_7) (hc0_7 : l0_7.length ≤ c0_7) (h : frame_May.f a0_0 a0_1 l0_2 l0_3 a0_4 a0_5 l0_6 l0_7 = some r) :
    Calls Try.prog 19 #[.agg #[.int .i64 a0_0, .int .i64 a0_1, .slice A0_2 l0_2.length c0_2, .slice A0_3 l0_3.length c0_3, .int .i64 a0_4, .int .i64 a0_5, .slice A0_6 l0_6.length c0_6, .slice A0_7 l0_7.length c0_7]] w fun e w' => e = .returned (.bool r) ∧ Below w.heap.size w w' := by
  unfold frame_May.f at h
  split at h
  case isFalse => cases h
  rename_i hu6
  cases h
  by_cases h0 : a0_0 = 0
  · exact frame_May.d a0_0 a0_1 A0_2 c0_2 l0_2 A0_3 c0_3 l0_3 a0_4 a0_5 A0_6 c0_6 l0_6 A0_7 c0_7 l0_7 w hr0_2 hc0_2 hr0_3 hc0_3 hr0_6 hc0_6 hr0_7 hc0_7 hu6 h0
  by_cases h1 : a0_0 = 1
  · exact frame_May.t a0_0 a0_1 A0_2 c0_2 l0_2 A0_3 c0_3 l0_3 a0_4 a0_5 A0_6 c0_6 l0_6 A0_7 c0_7 l0_7 w hr0_2 hc0_2 hr0_3 hc0_3 hr0_6 hc0_6 hr0_7 hc0_7 hu6 h1
  by_cases h2 : a0_0 = 2
  · exact frame_May.l a0_0 a0_1 A0_2 c0_2 l0_2 A0_3 c0_3 l0_3 a0_4 a0_5 A0_6 c0_6 l0_6 A0_7 c0_7 l0_7 w hr0_2 hc0_2 hr0_3 hc0_3 hr0_6 hc0_6 hr0_7 hc0_7 hu6 h2
  by_cases h3 : a0_0 = 3
  · exact frame_May.s a0_0 a0_1 A0_2 c0_2 l0_2 A0_3 c0_3 l0_3 a0_4 a0_5 A0_6 c0_6 l0_6 A0_7 c0_7 l0_7 w hr0_2 hc0_2 hr0_3 hc0_3 hr0_6 hc0_6 hr0_7 hc0_7 hu6 h3
  rw [decide_eq_false (fun hh => by obtain ⟨_, ⟨e, _⟩ | ⟨e, _⟩ | ⟨e, _⟩ | ⟨e, _⟩⟩ := hh <;> contradiction)]
  exact frame_May.x a0_0 a0_1 A0_2 c0_2 l0_2 A0_3 c0_3 l0_3 a0_4 a0_5 A0_6 c0_6 l0_6 A0_7 c0_7 l0_7 w hr0_2 hc0_2 hr0_3 hc0_3 hr0_6 hc0_6 hr0_7 hc0_7 h0 h1 h2 h3


/-! ### sign_each_bool_int64: function 23 -/
set_option maxHeartbeats 2000000 in
set_option maxRecDepth 100000 in
theorem sign_each_bool_int64.gen (K : Nat) (caps : Array Value) (g : Bool → Int) (A0 : Option Addr) (c0 : Nat) (l0 : List Bool) (w : World) (hl : l0.length < 17592186044416)
    (hent : ∀ (args : Array Value) (w : World), (callFunc K args).run Try.prog w = .ok (.enter K args) w)
    (hr0 : Kd.C Kd.bool w A0 l0.length l0)
    (H : TellsF Try.prog K caps l0.length (fun i => Value.bool (l0.getD i default)) (fun i => Value.int .i64 (g (l0.getD i default))) w) :
    Calls Try.prog 23 #[.slice A0 l0.length c0, .func (.func K) #[] caps] w fun e w' => ∃ v0_ : Value, e = .returned v0_ ∧ Kd.R (Kd.int .i64) 2 w' w.heap.size (fun _ => True) v0_ (l0.map g) ∧ Below w.heap.size w w' := by
  have hmk := run_make_room (P := Try.prog) 22 2 (.int .i64 0) 8 Try.underlying22 info2 rfl .i64 .i64 l0.length (by omega) (by omega)
  have HH := Aside0.mk H
  have HR := Aside0.mk hr0
  have HL := Aside0.mk hl
  clear H hr0 hl
  go_enter Try.func23, Try.ntmps23
  go_wp2_with fail
  go_loopw [5, 13] (fun v i W => ∃ (k : Nat), i = .int .i64 k ∧ Aside0 (k ≤ l0.length) ∧ Aside0 (Kd.R (Kd.int .i64) 2 W w.heap.size (fun _ => True) v ((l0.take k).map g)) ∧ Aside0 (Below w.heap.size w W)) (fun _ i _ => l0.length - (intOf i).toNat)
  case atStart => exact ⟨0, rfl, ⟨Nat.zero_le _⟩, ⟨by have ho := own_room w w.heap.size 2 (madeCells #[.int .i64 0] l0.length) l0.length (Nat.le_refl _) (by have := HL.out; simp only [maxLen]; omega) (size_madeCells _ _); exact Kd.R_of_own (enc := Value.int .i64) (h1 := fun _ => rfl) (xs := ([] : List Int)) ho (fun _ _ => trivial)⟩, ⟨below_alloc (Below.refl _ _) _⟩⟩
  case round =>
    obtain ⟨k, rfl, ⟨hk⟩, HO, HB⟩ := hrel
    by_cases hlt : k < l0.length
    · obtain ⟨ad, rfl, hc⟩ := Kd.at_bool (Kd.C_below HR.out HB.out) (k : Int) (by omega) (by omega)
      simp only [Int.toNat_natCast] at hc
      rw [show rdOf false l0 (k : Int) = l0.getD k default from rfl] at hc
      obtain ⟨x, hx⟩ : ∃ x, l0.getD k default = x := ⟨_, rfl⟩
      have hcl := HH.out k wr hlt HB.out
      simp only [hx] at hcl hc
      have HC := Aside0.mk hcl
      have ht : (l0.take (k + 1)).map g = (l0.take k).map g ++ [g x] := by
        rw [List.take_add_one, List.getElem?_eq_getElem hlt, ← hx, List.getD_eq_getElem?_getD, List.getElem?_eq_getElem hlt, List.map_append]; rfl
      have HT := Aside0.mk ht
      have hkl : ((l0.take k).map g).length = k := by simp; omega
      have HKL := Aside0.mk hkl
      clear ht hk hkl hcl
      go_wp2_with (first
        | (go_at_fn K; refine HC.out.mono ?_; rintro ed W1 ⟨rfl, hb⟩; have HO1 := Aside0.mk (Kd.R_below HO.out hb); have HB1 := Aside0.mk (below_then HB.out HB.out.size hb); clear hb)
        | ((with_reducible refine gate_builtin (b := .append) (xs := #[.tmp 17, .tmp 21]) rfl ?_); at_builtin; refine Kd.R_append (Kd.int .i64) (w0 := w) w.heap.size rfl (.tmp 17) (.tmp 21) 22 2 (.int .i64 0) 8 rfl Try.underlying22 info2 rfl (by decide) (by omega) u5 ((l0.take k).map g) (g x) [Value.int .i64 (g x)] (fun _ => True) (fun _ => False) rfl rfl ?aP (fun _ hk => hk.elim) ?aF ?aO ?aB ?aS ?aL ?_; (case aP => exact rfl); (case aB => exact HB1.out); (case aF => exact (fun _ _ => trivial)); (case aO => exact HO1.out); (case aS => exact HB1.out.size); (case aL => have := HKL.out; have := HL.out; omega); intro v1 w2 ho hb hg hat; rw [← HT.out] at ho; have HO2 := Aside0.mk ho; have HB2 := Aside0.mk hb; clear ho hb hg hat))
      have hL := HL.out
      exact ⟨⟨k + 1, by rw [wrap64_of (show I64 ((k : Int) + 1) by unfold I64; omega)]; rfl, ⟨hlt⟩, HO2, HB2⟩, by rw [wrap64_of (show I64 ((k : Int) + 1) by unfold I64; omega)]; simp [intOf]; omega⟩
    · have hkn : k = l0.length := by omega
      subst hkn
      have HO2 := HO.out
      rw [List.take_length] at HO2
      have HO3 := Aside0.mk HO2
      clear HO2 HO hk
      go_wp2
      go_ret
      exact ⟨_, rfl, HO3.out, HB.out⟩


-- NOT PRINTED: function 24 (sign_Loosen_1)

end Go.Proofs.Ytnhdeljkoackfaa.HC
