/- What Go functions do, each as a plain Lean function with the same answers, and the proof of it, in every world: printed by the session's driver over the kit's print, with texts by hand. -/
import Derived.Test.YtkfhdpnfcaghbaaHQx0
import Derived.Test.YtkfhdpnfcaghbaaHQx8
import Derived.Test.YtkfhdpnfcaghbaaMini
namespace Go.Proofs.Ytkfhdpnfcaghbaa.HQ
open Go.RowKit Go.Proofs.YtkfhdpnfcaghbaaW.PrintWords Go.Proofs.YtkfhdpnfcaghbaaW.PrintLast Go.Proofs.YtkfhdpnfcaghbaaW.PrintMore
attribute [local go_sem] max2_int min2_int max_two min_two max_three min_three max_four min_four   -- for this text's walks alone
open Go.Proofs.Ytkfhdpnfcaghbaa.Sp
attribute [local go_sem] Go.Proofs.Ytkfhdpnfcaghbaa.Sp.u64_not
set_option linter.unusedVariables false
set_option linter.unusedSimpArgs false

/-! ### frame_bare: function 94 -/
theorem setCell_drewN_ (X : World) (n : Nat) (a : Addr) (v : Value) : (X.drewN n).setCell a v = (X.setCell a v).drewN n := rfl
attribute [local go_sem] setCell_drewN_
set_option maxHeartbeats 4000000 in
set_option maxRecDepth 100000 in
theorem frame_bare_1.calls (b : Nat) (n wide m : Int) (W : World) (hb : W.cell? ⟨b, 5, none⟩ = some (.int .i64 wide)) (h : plane_Width.f n = some m) :
    Calls Try.prog 116 #[.int .u64 n, .pointer (some ⟨b, 0, none⟩)] W fun ed W' => ed = .returned (.bool (decide (wide < m))) ∧ Drawn0 W W' := by
 have hu := Try.underlying30
 have HC := ZM h
 clear h
 go_enter Try.func116, Try.ntmps116
 go_wp2
 go_quiet ((go_at_call 117; (with_reducible refine (plane_Width.calls n m _ HC.out).mono ?_); rintro ed W2 ⟨rfl, ⟨nd, rfl⟩⟩; (try first | exact ⟨rfl, _, wwN _ _ _⟩ | exact ⟨rfl, _, ww3 _ _ _ _⟩ | exact ⟨rfl, _, rfl⟩)))
 go_wp2
 go_ret
 exact ⟨rfl, ⟨_, rfl⟩⟩
set_option maxHeartbeats 4000000 in
set_option maxRecDepth 100000 in
theorem frame_bare.d (a0_0 a0_1 : Int) (A0_2 : Option Addr) (c0_2 : Nat) (l0_2 : List Int) (A0_3 : Option Addr) (c0_3 : Nat) (l0_3 : List Int) (a0_4 a0_5 : Int) (A0_6 : Option Addr) (c0_6 : Nat) (l0_6 : List Int) (A0_7 : Option Addr) (c0_7 : Nat) (l0_7 : List Bool) (w : World) (hr0_2 : Kd.C (Kd.int .i64) w A0_2 l0_2.length l0_2) (hc0_2 : l0_2.length ≤ c0_2) (hr0_3 : Kd.C (Kd.int .i64) w A0_3 l0_3.length l0_3) (hc0_3 : l0_3.length ≤ c0_3) (hr0_6 : Kd.C (Kd.int .u64) w A0_6 l0_6.length l0_6) (hc0_6 : l0_6.length ≤ c0_6) (hr0_7 : Kd.C Kd.bool w A0_7 l0_7.length l0_7) (hc0_7 : l0_7.length ≤ c0_7) (h0 : a0_0 = 0) :
    Calls Try.prog 94 #[.agg #[.int .i64 a0_0, .int .i64 a0_1, .slice A0_2 l0_2.length c0_2, .slice A0_3 l0_3.length c0_3, .int .i64 a0_4, .int .i64 a0_5, .slice A0_6 l0_6.length c0_6, .slice A0_7 l0_7.length c0_7]] w fun e w' => e = .returned (.tuple #[.agg #[.int .i64 0, .int .i64 0, .slice A0_2 l0_2.length c0_2, .slice none 0 0, .int .i64 a0_4, .int .i64 a0_5, .slice A0_6 l0_6.length c0_6, .slice A0_7 l0_7.length c0_7], .bool (decide ((0 < a0_1 ∧ a0_1 ≤ 4096) ∧ (l0_3.length : Int) = a0_1))]) ∧ Below w.heap.size w w' := by
  have HR2 := ZM hr0_2
  have HC2 := ZM hc0_2
  have HR6 := ZM hr0_6
  have HC6 := ZM hc0_6
  clear hr0_2 hc0_2 hr0_3 hc0_3 hr0_6 hc0_6 hr0_7 hc0_7
  have hu := Try.underlying30
  subst h0
  rcases Bool.eq_false_or_eq_true (decide (0 < a0_1)) with c1 | c1
  · have C1 := ZM c1
    rcases Bool.eq_false_or_eq_true (decide (a0_1 ≤ 4096)) with c2 | c2
    · have C2 := ZM c2
      rcases Bool.eq_false_or_eq_true ((l0_3.length : Int) == a0_1) with c3 | c3
      · have C3 := ZM c3
        go_enter Try.func94, Try.ntmps94
        go_wp2
        (try simp only [Exit.inBlock, Exit.then])
        refine bodyPost_ret (results_ct rfl _ _ (w.heap.size + 1) 30 #[.int .i64 0, .int .i64 0, .slice A0_2 l0_2.length c0_2, .slice none 0 0, .int .i64 a0_4, .int .i64 a0_5, .slice A0_6 l0_6.length c0_6, .slice A0_7 l0_7.length c0_7] (0, 0) _ rfl (heap_mid w _ _ _) Try.underlying30 rfl (by kernel_rfl)) rfl ?_
        refine ⟨?_, by repeat (first | exact Below.refl _ _ | apply zzA | apply zzN)⟩
        have zc1 := C1.out
        have zc2 := C2.out
        have zc3 := C3.out
        simp only [decide_eq_true_eq, decide_eq_false_iff_not, beq_iff_eq, beq_eq_false_iff_ne, List.any_eq_true, List.any_eq_false, ne_eq] at zc1 zc2 zc3
        rw [decide_eq_true (show (0 < a0_1 ∧ a0_1 ≤ 4096) ∧ (l0_3.length : Int) = a0_1 from by first | omega | (refine ⟨?_, ?_⟩ <;> first | omega | simp_all))]
        rfl
      · have C3 := ZM c3
        go_enter Try.func94, Try.ntmps94
        go_wp2
        (try simp only [Exit.inBlock, Exit.then])
        refine bodyPost_ret (results_ct rfl _ _ (w.heap.size + 1) 30 #[.int .i64 0, .int .i64 0, .slice A0_2 l0_2.length c0_2, .slice none 0 0, .int .i64 a0_4, .int .i64 a0_5, .slice A0_6 l0_6.length c0_6, .slice A0_7 l0_7.length c0_7] (0, 0) _ rfl (heap_mid w _ _ _) Try.underlying30 rfl (by kernel_rfl)) rfl ?_
        refine ⟨?_, by repeat (first | exact Below.refl _ _ | apply zzA | apply zzN)⟩
        have zc1 := C1.out
        have zc2 := C2.out
        have zc3 := C3.out
        simp only [decide_eq_true_eq, decide_eq_false_iff_not, beq_iff_eq, beq_eq_false_iff_ne, List.any_eq_true, List.any_eq_false, ne_eq] at zc1 zc2 zc3
        rw [decide_eq_false (show ¬ ((0 < a0_1 ∧ a0_1 ≤ 4096) ∧ (l0_3.length : Int) = a0_1) from by first | omega | (intro hh; simp_all; done) | (intro hh; simp_all; omega))]
        rfl
    · have C2 := ZM c2
      go_enter Try.func94, Try.ntmps94
      go_wp2
      (try simp only [Exit.inBlock, Exit.then])
      refine bodyPost_ret (results_ct rfl _ _ (w.heap.size + 1) 30 #[.int .i64 0, .int .i64 0, .slice A0_2 l0_2.length c0_2, .slice none 0 0, .int .i64 a0_4, .int .i64 a0_5, .slice A0_6 l0_6.length c0_6, .slice A0_7 l0_7.length c0_7] (0, 0) _ rfl (heap_mid w _ _ _) Try.underlying30 rfl (by kernel_rfl)) rfl ?_
      refine ⟨?_, by repeat (first | exact Below.refl _ _ | apply zzA | apply zzN)⟩
      have zc1 := C1.out
      have zc2 := C2.out
      simp only [decide_eq_true_eq, decide_eq_false_iff_not, beq_iff_eq, beq_eq_false_iff_ne, List.any_eq_true, List.any_eq_false, ne_eq] at zc1 zc2
      rw [decide_eq_false (show ¬ ((0 < a0_1 ∧ a0_1 ≤ 4096) ∧ (l0_3.length : Int) = a0_1) from by first | omega | (intro hh; simp_all; done) | (intro hh; simp_all; omega))]
      rfl
  · have C1 := ZM c1
    go_enter Try.func94, Try.ntmps94
    go_wp2
    (try simp only [Exit.inBlock, Exit.then])
    refine bodyPost_ret (results_ct rfl _ _ (w.heap.size + 1) 30 #[.int .i64 0, .int .i64 0, .slice A0_2 l0_2.length c0_2, .slice none 0 0, .int .i64 a0_4, .int .i64 a0_5, .slice A0_6 l0_6.length c0_6, .slice A0_7 l0_7.length c0_7] (0, 0) _ rfl (heap_mid w _ _ _) Try.underlying30 rfl (by kernel_rfl)) rfl ?_
    refine ⟨?_, by repeat (first | exact Below.refl _ _ | apply zzA | apply zzN)⟩
    have zc1 := C1.out
    simp only [decide_eq_true_eq, decide_eq_false_iff_not, beq_iff_eq, beq_eq_false_iff_ne, List.any_eq_true, List.any_eq_false, ne_eq] at zc1
    rw [decide_eq_false (show ¬ ((0 < a0_1 ∧ a0_1 ≤ 4096) ∧ (l0_3.length : Int) = a0_1) from by first | omega | (intro hh; simp_all; done) | (intro hh; simp_all; omega))]
    rfl
set_option maxHeartbeats 4000000 in
set_option maxRecDepth 100000 in
theorem frame_bare.t (a0_0 a0_1 : Int) (A0_2 : Option Addr) (c0_2 : Nat) (l0_2 : List Int) (A0_3 : Option Addr) (c0_3 : Nat) (l0_3 : List Int) (a0_4 a0_5 : Int) (A0_6 : Option Addr) (c0_6 : Nat) (l0_6 : List Int) (A0_7 : Option Addr) (c0_7 : Nat) (l0_7 : List Bool) (w : World) (hr0_2 : Kd.C (Kd.int .i64) w A0_2 l0_2.length l0_2) (hc0_2 : l0_2.length ≤ c0_2) (hr0_3 : Kd.C (Kd.int .i64) w A0_3 l0_3.length l0_3) (hc0_3 : l0_3.length ≤ c0_3) (hr0_6 : Kd.C (Kd.int .u64) w A0_6 l0_6.length l0_6) (hc0_6 : l0_6.length ≤ c0_6) (hr0_7 : Kd.C Kd.bool w A0_7 l0_7.length l0_7) (hc0_7 : l0_7.length ≤ c0_7) (h0 : a0_0 = 1) :
    Calls Try.prog 94 #[.agg #[.int .i64 a0_0, .int .i64 a0_1, .slice A0_2 l0_2.length c0_2, .slice A0_3 l0_3.length c0_3, .int .i64 a0_4, .int .i64 a0_5, .slice A0_6 l0_6.length c0_6, .slice A0_7 l0_7.length c0_7]] w fun e w' => e = .returned (.tuple #[.agg #[.int .i64 0, .int .i64 0, .slice none 0 0, .slice none 0 0, .int .i64 a0_4, .int .i64 a0_5, .slice A0_6 l0_6.length c0_6, .slice A0_7 l0_7.length c0_7], .bool (decide (((0 < a0_1 ∧ a0_1 ≤ 4096) ∧ checkI a0_1 l0_2 = 0) ∧ (l0_2.length : Int) = (l0_3.length : Int)))]) ∧ Below w.heap.size w w' := by
  have HR2 := ZM hr0_2
  have HC2 := ZM hc0_2
  have HR6 := ZM hr0_6
  have HC6 := ZM hc0_6
  clear hr0_2 hc0_2 hr0_3 hc0_3 hr0_6 hc0_6 hr0_7 hc0_7
  have hu := Try.underlying30
  subst h0
  have HB : Aside0 (Below w.heap.size w (((w.alloc (Obj.cells #[Value.int .i64 1, Value.int .i64 a0_1, Value.slice A0_2 l0_2.length c0_2, Value.slice A0_3 l0_3.length c0_3, Value.int .i64 a0_4, Value.int .i64 a0_5, Value.slice A0_6 l0_6.length c0_6, Value.slice A0_7 l0_7.length c0_7] 30)).alloc (Obj.cells #[.int .i64 0, .int .i64 0, .slice none 0 0, .slice none 0 0, .int .i64 0, .int .i64 0, .slice none 0 0, .slice none 0 0] 30)).alloc (Obj.cells #[Value.int .i64 0, Value.int .i64 0, Value.slice A0_2 l0_2.length c0_2, Value.slice A0_3 l0_3.length c0_3, Value.int .i64 a0_4, Value.int .i64 a0_5, Value.slice A0_6 l0_6.length c0_6, Value.slice A0_7 l0_7.length c0_7] 30))) := ⟨zzA (zzA (zzA (Below.refl _ _) _) _) _⟩
  rcases Bool.eq_false_or_eq_true (decide (0 < a0_1)) with c1 | c1
  · have C1 := ZM c1
    rcases Bool.eq_false_or_eq_true (decide (a0_1 ≤ 4096)) with c2 | c2
    · have C2 := ZM c2
      rcases Bool.eq_false_or_eq_true (checkI a0_1 l0_2 == 0) with c4 | c4
      · have C4 := ZM c4
        rcases Bool.eq_false_or_eq_true ((l0_2.length : Int) == (l0_3.length : Int)) with c5 | c5
        · have C5 := ZM c5
          go_enter Try.func94, Try.ntmps94
          go_wp2_with (first | (go_at_call 114; (with_reducible refine (index_Check.calls a0_1 A0_2 c0_2 l0_2 _ _ (Kd.C_below HR2.out HB.out) HC2.out rfl).mono ?_); rintro ed W2 ⟨rfl, ⟨nd, rfl⟩⟩))
          (try simp only [Exit.inBlock, Exit.then])
          refine bodyPost_ret (results_ct rfl _ _ (w.heap.size + 1) 30 #[.int .i64 0, .int .i64 0, .slice none 0 0, .slice none 0 0, .int .i64 a0_4, .int .i64 a0_5, .slice A0_6 l0_6.length c0_6, .slice A0_7 l0_7.length c0_7] (0, 0) _ rfl (heap_mid w _ _ _) Try.underlying30 rfl (by kernel_rfl)) rfl ?_
          refine ⟨?_, by repeat (first | exact Below.refl _ _ | apply zzA | apply zzN)⟩
          have zc1 := C1.out
          have zc2 := C2.out
          have zc4 := C4.out
          have zc5 := C5.out
          simp only [decide_eq_true_eq, decide_eq_false_iff_not, beq_iff_eq, beq_eq_false_iff_ne, List.any_eq_true, List.any_eq_false, ne_eq] at zc1 zc2 zc4 zc5
          rw [decide_eq_true (show ((0 < a0_1 ∧ a0_1 ≤ 4096) ∧ checkI a0_1 l0_2 = 0) ∧ (l0_2.length : Int) = (l0_3.length : Int) from by first | omega | (refine ⟨?_, ?_⟩ <;> first | omega | simp_all))]
          rfl
        · have C5 := ZM c5
          go_enter Try.func94, Try.ntmps94
          go_wp2_with (first | (go_at_call 114; (with_reducible refine (index_Check.calls a0_1 A0_2 c0_2 l0_2 _ _ (Kd.C_below HR2.out HB.out) HC2.out rfl).mono ?_); rintro ed W2 ⟨rfl, ⟨nd, rfl⟩⟩))
          (try simp only [Exit.inBlock, Exit.then])
          refine bodyPost_ret (results_ct rfl _ _ (w.heap.size + 1) 30 #[.int .i64 0, .int .i64 0, .slice none 0 0, .slice none 0 0, .int .i64 a0_4, .int .i64 a0_5, .slice A0_6 l0_6.length c0_6, .slice A0_7 l0_7.length c0_7] (0, 0) _ rfl (heap_mid w _ _ _) Try.underlying30 rfl (by kernel_rfl)) rfl ?_
          refine ⟨?_, by repeat (first | exact Below.refl _ _ | apply zzA | apply zzN)⟩
          have zc1 := C1.out
          have zc2 := C2.out
          have zc4 := C4.out
          have zc5 := C5.out
          simp only [decide_eq_true_eq, decide_eq_false_iff_not, beq_iff_eq, beq_eq_false_iff_ne, List.any_eq_true, List.any_eq_false, ne_eq] at zc1 zc2 zc4 zc5
          rw [decide_eq_false (show ¬ (((0 < a0_1 ∧ a0_1 ≤ 4096) ∧ checkI a0_1 l0_2 = 0) ∧ (l0_2.length : Int) = (l0_3.length : Int)) from by first | omega | (intro hh; simp_all; done) | (intro hh; simp_all; omega))]
          rfl
      · have C4 := ZM c4
        go_enter Try.func94, Try.ntmps94
        go_wp2_with (first | (go_at_call 114; (with_reducible refine (index_Check.calls a0_1 A0_2 c0_2 l0_2 _ _ (Kd.C_below HR2.out HB.out) HC2.out rfl).mono ?_); rintro ed W2 ⟨rfl, ⟨nd, rfl⟩⟩))
        (try simp only [Exit.inBlock, Exit.then])
        refine bodyPost_ret (results_ct rfl _ _ (w.heap.size + 1) 30 #[.int .i64 0, .int .i64 0, .slice none 0 0, .slice none 0 0, .int .i64 a0_4, .int .i64 a0_5, .slice A0_6 l0_6.length c0_6, .slice A0_7 l0_7.length c0_7] (0, 0) _ rfl (heap_mid w _ _ _) Try.underlying30 rfl (by kernel_rfl)) rfl ?_
        refine ⟨?_, by repeat (first | exact Below.refl _ _ | apply zzA | apply zzN)⟩
        have zc1 := C1.out
        have zc2 := C2.out
        have zc4 := C4.out
        simp only [decide_eq_true_eq, decide_eq_false_iff_not, beq_iff_eq, beq_eq_false_iff_ne, List.any_eq_true, List.any_eq_false, ne_eq] at zc1 zc2 zc4
        rw [decide_eq_false (show ¬ (((0 < a0_1 ∧ a0_1 ≤ 4096) ∧ checkI a0_1 l0_2 = 0) ∧ (l0_2.length : Int) = (l0_3.length : Int)) from by first | omega | (intro hh; simp_all; done) | (intro hh; simp_all; omega))]
        rfl
    · have C2 := ZM c2
      go_enter Try.func94, Try.ntmps94
      go_wp2
      (try simp only [Exit.inBlock, Exit.then])
      refine bodyPost_ret (results_ct rfl _ _ (w.heap.size + 1) 30 #[.int .i64 0, .int .i64 0, .slice none 0 0, .slice none 0 0, .int .i64 a0_4, .int .i64 a0_5, .slice A0_6 l0_6.length c0_6, .slice A0_7 l0_7.length c0_7] (0, 0) _ rfl (heap_mid w _ _ _) Try.underlying30 rfl (by kernel_rfl)) rfl ?_
      refine ⟨?_, by repeat (first | exact Below.refl _ _ | apply zzA | apply zzN)⟩
      have zc1 := C1.out
      have zc2 := C2.out
      simp only [decide_eq_true_eq, decide_eq_false_iff_not, beq_iff_eq, beq_eq_false_iff_ne, List.any_eq_true, List.any_eq_false, ne_eq] at zc1 zc2
      rw [decide_eq_false (show ¬ (((0 < a0_1 ∧ a0_1 ≤ 4096) ∧ checkI a0_1 l0_2 = 0) ∧ (l0_2.length : Int) = (l0_3.length : Int)) from by first | omega | (intro hh; simp_all; done) | (intro hh; simp_all; omega))]
      rfl
  · have C1 := ZM c1
    go_enter Try.func94, Try.ntmps94
    go_wp2
    (try simp only [Exit.inBlock, Exit.then])
    refine bodyPost_ret (results_ct rfl _ _ (w.heap.size + 1) 30 #[.int .i64 0, .int .i64 0, .slice none 0 0, .slice none 0 0, .int .i64 a0_4, .int .i64 a0_5, .slice A0_6 l0_6.length c0_6, .slice A0_7 l0_7.length c0_7] (0, 0) _ rfl (heap_mid w _ _ _) Try.underlying30 rfl (by kernel_rfl)) rfl ?_
    refine ⟨?_, by repeat (first | exact Below.refl _ _ | apply zzA | apply zzN)⟩
    have zc1 := C1.out
    simp only [decide_eq_true_eq, decide_eq_false_iff_not, beq_iff_eq, beq_eq_false_iff_ne, List.any_eq_true, List.any_eq_false, ne_eq] at zc1
    rw [decide_eq_false (show ¬ (((0 < a0_1 ∧ a0_1 ≤ 4096) ∧ checkI a0_1 l0_2 = 0) ∧ (l0_2.length : Int) = (l0_3.length : Int)) from by first | omega | (intro hh; simp_all; done) | (intro hh; simp_all; omega))]
    rfl
set_option maxHeartbeats 4000000 in
set_option maxRecDepth 100000 in
theorem frame_bare.s (a0_0 a0_1 : Int) (A0_2 : Option Addr) (c0_2 : Nat) (l0_2 : List Int) (A0_3 : Option Addr) (c0_3 : Nat) (l0_3 : List Int) (a0_4 a0_5 : Int) (A0_6 : Option Addr) (c0_6 : Nat) (l0_6 : List Int) (A0_7 : Option Addr) (c0_7 : Nat) (l0_7 : List Bool) (w : World) (hr0_2 : Kd.C (Kd.int .i64) w A0_2 l0_2.length l0_2) (hc0_2 : l0_2.length ≤ c0_2) (hr0_3 : Kd.C (Kd.int .i64) w A0_3 l0_3.length l0_3) (hc0_3 : l0_3.length ≤ c0_3) (hr0_6 : Kd.C (Kd.int .u64) w A0_6 l0_6.length l0_6) (hc0_6 : l0_6.length ≤ c0_6) (hr0_7 : Kd.C Kd.bool w A0_7 l0_7.length l0_7) (hc0_7 : l0_7.length ≤ c0_7) (h0 : a0_0 = 3) :
    Calls Try.prog 94 #[.agg #[.int .i64 a0_0, .int .i64 a0_1, .slice A0_2 l0_2.length c0_2, .slice A0_3 l0_3.length c0_3, .int .i64 a0_4, .int .i64 a0_5, .slice A0_6 l0_6.length c0_6, .slice A0_7 l0_7.length c0_7]] w fun e w' => e = .returned (.tuple #[.agg #[.int .i64 0, .int .i64 0, .slice A0_2 l0_2.length c0_2, .slice A0_3 l0_3.length c0_3, .int .i64 0, .int .i64 a0_5, .slice A0_6 l0_6.length c0_6, .slice none 0 0], .bool (decide (((0 < a0_1 ∧ a0_1 ≤ 4096) ∧ 0 ≤ a0_4) ∧ (l0_7.length : Int) = a0_1))]) ∧ Below w.heap.size w w' := by
  have HR2 := ZM hr0_2
  have HC2 := ZM hc0_2
  have HR6 := ZM hr0_6
  have HC6 := ZM hc0_6
  clear hr0_2 hc0_2 hr0_3 hc0_3 hr0_6 hc0_6 hr0_7 hc0_7
  have hu := Try.underlying30
  subst h0
  rcases Bool.eq_false_or_eq_true (decide (0 < a0_1)) with c1 | c1
  · have C1 := ZM c1
    rcases Bool.eq_false_or_eq_true (decide (a0_1 ≤ 4096)) with c2 | c2
    · have C2 := ZM c2
      rcases Bool.eq_false_or_eq_true (decide (0 ≤ a0_4)) with d1 | d1
      · have D1 := ZM d1
        rcases Bool.eq_false_or_eq_true ((l0_7.length : Int) == a0_1) with d2 | d2
        · have D2 := ZM d2
          go_enter Try.func94, Try.ntmps94
          go_wp2
          (try simp only [Exit.inBlock, Exit.then])
          refine bodyPost_ret (results_ct rfl _ _ (w.heap.size + 1) 30 #[.int .i64 0, .int .i64 0, .slice A0_2 l0_2.length c0_2, .slice A0_3 l0_3.length c0_3, .int .i64 0, .int .i64 a0_5, .slice A0_6 l0_6.length c0_6, .slice none 0 0] (0, 0) _ rfl (heap_mid w _ _ _) Try.underlying30 rfl (by kernel_rfl)) rfl ?_
          refine ⟨?_, by repeat (first | exact Below.refl _ _ | apply zzA | apply zzN)⟩
          have zc1 := C1.out
          have zc2 := C2.out
          have zd1 := D1.out
          have zd2 := D2.out
          simp only [decide_eq_true_eq, decide_eq_false_iff_not, beq_iff_eq, beq_eq_false_iff_ne, List.any_eq_true, List.any_eq_false, ne_eq] at zc1 zc2 zd1 zd2
          rw [decide_eq_true (show ((0 < a0_1 ∧ a0_1 ≤ 4096) ∧ 0 ≤ a0_4) ∧ (l0_7.length : Int) = a0_1 from by first | omega | (refine ⟨?_, ?_⟩ <;> first | omega | simp_all))]
          rfl
        · have D2 := ZM d2
          go_enter Try.func94, Try.ntmps94
          go_wp2
          (try simp only [Exit.inBlock, Exit.then])
          refine bodyPost_ret (results_ct rfl _ _ (w.heap.size + 1) 30 #[.int .i64 0, .int .i64 0, .slice A0_2 l0_2.length c0_2, .slice A0_3 l0_3.length c0_3, .int .i64 0, .int .i64 a0_5, .slice A0_6 l0_6.length c0_6, .slice none 0 0] (0, 0) _ rfl (heap_mid w _ _ _) Try.underlying30 rfl (by kernel_rfl)) rfl ?_
          refine ⟨?_, by repeat (first | exact Below.refl _ _ | apply zzA | apply zzN)⟩
          have zc1 := C1.out
          have zc2 := C2.out
          have zd1 := D1.out
          have zd2 := D2.out
          simp only [decide_eq_true_eq, decide_eq_false_iff_not, beq_iff_eq, beq_eq_false_iff_ne, List.any_eq_true, List.any_eq_false, ne_eq] at zc1 zc2 zd1 zd2
          rw [decide_eq_false (show ¬ (((0 < a0_1 ∧ a0_1 ≤ 4096) ∧ 0 ≤ a0_4) ∧ (l0_7.length : Int) = a0_1) from by first | omega | (intro hh; simp_all; done) | (intro hh; simp_all; omega))]
          rfl
      · have D1 := ZM d1
        go_enter Try.func94, Try.ntmps94
        go_wp2
        (try simp only [Exit.inBlock, Exit.then])
        refine bodyPost_ret (results_ct rfl _ _ (w.heap.size + 1) 30 #[.int .i64 0, .int .i64 0, .slice A0_2 l0_2.length c0_2, .slice A0_3 l0_3.length c0_3, .int .i64 0, .int .i64 a0_5, .slice A0_6 l0_6.length c0_6, .slice none 0 0] (0, 0) _ rfl (heap_mid w _ _ _) Try.underlying30 rfl (by kernel_rfl)) rfl ?_
        refine ⟨?_, by repeat (first | exact Below.refl _ _ | apply zzA | apply zzN)⟩
        have zc1 := C1.out
        have zc2 := C2.out
        have zd1 := D1.out
        simp only [decide_eq_true_eq, decide_eq_false_iff_not, beq_iff_eq, beq_eq_false_iff_ne, List.any_eq_true, List.any_eq_false, ne_eq] at zc1 zc2 zd1
        rw [decide_eq_false (show ¬ (((0 < a0_1 ∧ a0_1 ≤ 4096) ∧ 0 ≤ a0_4) ∧ (l0_7.length : Int) = a0_1) from by first | omega | (intro hh; simp_all; done) | (intro hh; simp_all; omega))]
        rfl
    · have C2 := ZM c2
      go_enter Try.func94, Try.ntmps94
      go_wp2
      (try simp only [Exit.inBlock, Exit.then])
      refine bodyPost_ret (results_ct rfl _ _ (w.heap.size + 1) 30 #[.int .i64 0, .int .i64 0, .slice A0_2 l0_2.length c0_2, .slice A0_3 l0_3.length c0_3, .int .i64 0, .int .i64 a0_5, .slice A0_6 l0_6.length c0_6, .slice none 0 0] (0, 0) _ rfl (heap_mid w _ _ _) Try.underlying30 rfl (by kernel_rfl)) rfl ?_
      refine ⟨?_, by repeat (first | exact Below.refl _ _ | apply zzA | apply zzN)⟩
      have zc1 := C1.out
      have zc2 := C2.out
      simp only [decide_eq_true_eq, decide_eq_false_iff_not, beq_iff_eq, beq_eq_false_iff_ne, List.any_eq_true, List.any_eq_false, ne_eq] at zc1 zc2
      rw [decide_eq_false (show ¬ (((0 < a0_1 ∧ a0_1 ≤ 4096) ∧ 0 ≤ a0_4) ∧ (l0_7.length : Int) = a0_1) from by first | omega | (intro hh; simp_all; done) | (intro hh; simp_all; omega))]
      rfl
  · have C1 := ZM c1
    go_enter Try.func94, Try.ntmps94
    go_wp2
    (try simp only [Exit.inBlock, Exit.then])
    refine bodyPost_ret (results_ct rfl _ _ (w.heap.size + 1) 30 #[.int .i64 0, .int .i64 0, .slice A0_2 l0_2.length c0_2, .slice A0_3 l0_3.length c0_3, .int .i64 0, .int .i64 a0_5, .slice A0_6 l0_6.length c0_6, .slice none 0 0] (0, 0) _ rfl (heap_mid w _ _ _) Try.underlying30 rfl (by kernel_rfl)) rfl ?_
    refine ⟨?_, by repeat (first | exact Below.refl _ _ | apply zzA | apply zzN)⟩
    have zc1 := C1.out
    simp only [decide_eq_true_eq, decide_eq_false_iff_not, beq_iff_eq, beq_eq_false_iff_ne, List.any_eq_true, List.any_eq_false, ne_eq] at zc1
    rw [decide_eq_false (show ¬ (((0 < a0_1 ∧ a0_1 ≤ 4096) ∧ 0 ≤ a0_4) ∧ (l0_7.length : Int) = a0_1) from by first | omega | (intro hh; simp_all; done) | (intro hh; simp_all; omega))]
    rfl
set_option maxHeartbeats 4000000 in
set_option maxRecDepth 100000 in
theorem frame_bare.l (a0_0 a0_1 : Int) (A0_2 : Option Addr) (c0_2 : Nat) (l0_2 : List Int) (A0_3 : Option Addr) (c0_3 : Nat) (l0_3 : List Int) (a0_4 a0_5 : Int) (A0_6 : Option Addr) (c0_6 : Nat) (l0_6 : List Int) (A0_7 : Option Addr) (c0_7 : Nat) (l0_7 : List Bool) (w : World) (hr0_2 : Kd.C (Kd.int .i64) w A0_2 l0_2.length l0_2) (hc0_2 : l0_2.length ≤ c0_2) (hr0_3 : Kd.C (Kd.int .i64) w A0_3 l0_3.length l0_3) (hc0_3 : l0_3.length ≤ c0_3) (hr0_6 : Kd.C (Kd.int .u64) w A0_6 l0_6.length l0_6) (hc0_6 : l0_6.length ≤ c0_6) (hr0_7 : Kd.C Kd.bool w A0_7 l0_7.length l0_7) (hc0_7 : l0_7.length ≤ c0_7) (hu6 : U64L l0_6) (h0 : a0_0 = 2) :
    Calls Try.prog 94 #[.agg #[.int .i64 a0_0, .int .i64 a0_1, .slice A0_2 l0_2.length c0_2, .slice A0_3 l0_3.length c0_3, .int .i64 a0_4, .int .i64 a0_5, .slice A0_6 l0_6.length c0_6, .slice A0_7 l0_7.length c0_7]] w fun e w' => e = .returned (.tuple #[.agg #[.int .i64 0, .int .i64 0, .slice A0_2 l0_2.length c0_2, .slice A0_3 l0_3.length c0_3, .int .i64 0, .int .i64 0, .slice none 0 0, .slice none 0 0], .bool (decide (((0 < a0_1 ∧ a0_1 ≤ 4096) ∧ (0 < a0_5 ∧ a0_5 ≤ 8) ∧ (l0_6.length : Int) = a0_1 ∧ l0_6.any (fun n => decide (a0_5 < (bl n.toNat : Int))) = false) ∧ 0 ≤ a0_4 ∧ (l0_7.length : Int) = a0_1))]) ∧ Below w.heap.size w w' := by
  have HR2 := ZM hr0_2
  have HC2 := ZM hc0_2
  have HR6 := ZM hr0_6
  have HC6 := ZM hc0_6
  clear hr0_2 hc0_2 hr0_3 hc0_3 hr0_6 hc0_6 hr0_7 hc0_7
  have hu := Try.underlying30
  subst h0
  have HB : Aside0 (Below w.heap.size w (((w.alloc (Obj.cells #[Value.int .i64 2, Value.int .i64 a0_1, Value.slice A0_2 l0_2.length c0_2, Value.slice A0_3 l0_3.length c0_3, Value.int .i64 a0_4, Value.int .i64 a0_5, Value.slice A0_6 l0_6.length c0_6, Value.slice A0_7 l0_7.length c0_7] 30)).alloc (Obj.cells #[.int .i64 0, .int .i64 0, .slice none 0 0, .slice none 0 0, .int .i64 0, .int .i64 0, .slice none 0 0, .slice none 0 0] 30)).alloc (Obj.cells #[Value.int .i64 0, Value.int .i64 0, Value.slice A0_2 l0_2.length c0_2, Value.slice A0_3 l0_3.length c0_3, Value.int .i64 a0_4, Value.int .i64 a0_5, Value.slice A0_6 l0_6.length c0_6, Value.slice A0_7 l0_7.length c0_7] 30))) := ⟨zzA (zzA (zzA (Below.refl _ _) _) _) _⟩
  have HU := ZM hu6
  clear hu6
  have HX : Aside0 (∀ m : Nat, ((((w.alloc (Obj.cells #[Value.int .i64 2, Value.int .i64 a0_1, Value.slice A0_2 l0_2.length c0_2, Value.slice A0_3 l0_3.length c0_3, Value.int .i64 a0_4, Value.int .i64 a0_5, Value.slice A0_6 l0_6.length c0_6, Value.slice A0_7 l0_7.length c0_7] 30)).alloc (Obj.cells #[.int .i64 0, .int .i64 0, .slice none 0 0, .slice none 0 0, .int .i64 0, .int .i64 0, .slice none 0 0, .slice none 0 0] 30)).alloc (Obj.cells #[Value.int .i64 0, Value.int .i64 0, Value.slice A0_2 l0_2.length c0_2, Value.slice A0_3 l0_3.length c0_3, Value.int .i64 a0_4, Value.int .i64 a0_5, Value.slice A0_6 l0_6.length c0_6, Value.slice A0_7 l0_7.length c0_7] 30)).drewN m).cell? ⟨w.heap.size, 5, none⟩ = some (.int .i64 a0_5)) := ⟨fun m => by simp [go_sem]⟩
  rcases Bool.eq_false_or_eq_true (decide (0 < a0_1)) with c1 | c1
  · have C1 := ZM c1
    rcases Bool.eq_false_or_eq_true (decide (a0_1 ≤ 4096)) with c2 | c2
    · have C2 := ZM c2
      rcases Bool.eq_false_or_eq_true (decide (0 < a0_5)) with c7 | c7
      · have C7 := ZM c7
        rcases Bool.eq_false_or_eq_true (decide (a0_5 ≤ 8)) with c8 | c8
        · have C8 := ZM c8
          rcases Bool.eq_false_or_eq_true ((l0_6.length : Int) == a0_1) with c9 | c9
          · have C9 := ZM c9
            rcases Bool.eq_false_or_eq_true (l0_6.any (fun n => decide (a0_5 < (bl n.toNat : Int)))) with c6 | c6
            · have C6 := ZM c6
              go_enter Try.func94, Try.ntmps94
              go_wp2_with (first | (go_at_call 115; (with_reducible refine (slices_ContainsFunc_uint64_uint64.gen 116 _ (fun n => decide (a0_5 < (bl n.toNat : Int))) A0_6 c0_6 l0_6 _ ?ent (Kd.C_below HR6.out HB.out) ?tells).mono ?_); (case ent => exact enters_of Try.func116 rfl rfl); (case tells => exact Z47); rintro ed W2 ⟨rfl, ⟨nd, rfl⟩⟩))
              (try simp only [Exit.inBlock, Exit.then])
              refine bodyPost_ret (results_ct rfl _ _ (w.heap.size + 1) 30 #[.int .i64 0, .int .i64 0, .slice A0_2 l0_2.length c0_2, .slice A0_3 l0_3.length c0_3, .int .i64 0, .int .i64 0, .slice none 0 0, .slice none 0 0] (0, 0) _ rfl (heap_mid w _ _ _) Try.underlying30 rfl (by kernel_rfl)) rfl ?_
              refine ⟨?_, by repeat (first | exact Below.refl _ _ | apply zzA | apply zzN)⟩
              have zc1 := C1.out
              have zc2 := C2.out
              have zc7 := C7.out
              have zc8 := C8.out
              have zc9 := C9.out
              have zc6 := C6.out
              simp only [decide_eq_true_eq, decide_eq_false_iff_not, beq_iff_eq, beq_eq_false_iff_ne, List.any_eq_true, List.any_eq_false, ne_eq] at zc1 zc2 zc7 zc8 zc9 zc6
              rw [decide_eq_false (show ¬ (((0 < a0_1 ∧ a0_1 ≤ 4096) ∧ (0 < a0_5 ∧ a0_5 ≤ 8) ∧ (l0_6.length : Int) = a0_1 ∧ l0_6.any (fun n => decide (a0_5 < (bl n.toNat : Int))) = false) ∧ 0 ≤ a0_4 ∧ (l0_7.length : Int) = a0_1) from by first | omega | (intro hh; simp_all; done) | (intro hh; simp_all; omega))]
              rfl
            · have C6 := ZM c6
              rcases Bool.eq_false_or_eq_true (decide (0 ≤ a0_4)) with d1 | d1
              · have D1 := ZM d1
                rcases Bool.eq_false_or_eq_true ((l0_7.length : Int) == a0_1) with d2 | d2
                · have D2 := ZM d2
                  go_enter Try.func94, Try.ntmps94
                  go_wp2_with (first | (go_at_call 115; (with_reducible refine (slices_ContainsFunc_uint64_uint64.gen 116 _ (fun n => decide (a0_5 < (bl n.toNat : Int))) A0_6 c0_6 l0_6 _ ?ent (Kd.C_below HR6.out HB.out) ?tells).mono ?_); (case ent => exact enters_of Try.func116 rfl rfl); (case tells => exact Z47); rintro ed W2 ⟨rfl, ⟨nd, rfl⟩⟩))
                  (try simp only [Exit.inBlock, Exit.then])
                  refine bodyPost_ret (results_ct rfl _ _ (w.heap.size + 1) 30 #[.int .i64 0, .int .i64 0, .slice A0_2 l0_2.length c0_2, .slice A0_3 l0_3.length c0_3, .int .i64 0, .int .i64 0, .slice none 0 0, .slice none 0 0] (0, 0) _ rfl (heap_mid w _ _ _) Try.underlying30 rfl (by kernel_rfl)) rfl ?_
                  refine ⟨?_, by repeat (first | exact Below.refl _ _ | apply zzA | apply zzN)⟩
                  have zc1 := C1.out
                  have zc2 := C2.out
                  have zc7 := C7.out
                  have zc8 := C8.out
                  have zc9 := C9.out
                  have zc6 := C6.out
                  have zd1 := D1.out
                  have zd2 := D2.out
                  simp only [decide_eq_true_eq, decide_eq_false_iff_not, beq_iff_eq, beq_eq_false_iff_ne, List.any_eq_true, List.any_eq_false, ne_eq] at zc1 zc2 zc7 zc8 zc9 zc6 zd1 zd2
                  rw [decide_eq_true (show ((0 < a0_1 ∧ a0_1 ≤ 4096) ∧ (0 < a0_5 ∧ a0_5 ≤ 8) ∧ (l0_6.length : Int) = a0_1 ∧ l0_6.any (fun n => decide (a0_5 < (bl n.toNat : Int))) = false) ∧ 0 ≤ a0_4 ∧ (l0_7.length : Int) = a0_1 from by first | omega | (refine ⟨?_, ?_⟩ <;> first | omega | simp_all))]
                  rfl
                · have D2 := ZM d2
                  go_enter Try.func94, Try.ntmps94
                  go_wp2_with (first | (go_at_call 115; (with_reducible refine (slices_ContainsFunc_uint64_uint64.gen 116 _ (fun n => decide (a0_5 < (bl n.toNat : Int))) A0_6 c0_6 l0_6 _ ?ent (Kd.C_below HR6.out HB.out) ?tells).mono ?_); (case ent => exact enters_of Try.func116 rfl rfl); (case tells => exact Z47); rintro ed W2 ⟨rfl, ⟨nd, rfl⟩⟩))
                  (try simp only [Exit.inBlock, Exit.then])
                  refine bodyPost_ret (results_ct rfl _ _ (w.heap.size + 1) 30 #[.int .i64 0, .int .i64 0, .slice A0_2 l0_2.length c0_2, .slice A0_3 l0_3.length c0_3, .int .i64 0, .int .i64 0, .slice none 0 0, .slice none 0 0] (0, 0) _ rfl (heap_mid w _ _ _) Try.underlying30 rfl (by kernel_rfl)) rfl ?_
                  refine ⟨?_, by repeat (first | exact Below.refl _ _ | apply zzA | apply zzN)⟩
                  have zc1 := C1.out
                  have zc2 := C2.out
                  have zc7 := C7.out
                  have zc8 := C8.out
                  have zc9 := C9.out
                  have zc6 := C6.out
                  have zd1 := D1.out
                  have zd2 := D2.out
                  simp only [decide_eq_true_eq, decide_eq_false_iff_not, beq_iff_eq, beq_eq_false_iff_ne, List.any_eq_true, List.any_eq_false, ne_eq] at zc1 zc2 zc7 zc8 zc9 zc6 zd1 zd2
                  rw [decide_eq_false (show ¬ (((0 < a0_1 ∧ a0_1 ≤ 4096) ∧ (0 < a0_5 ∧ a0_5 ≤ 8) ∧ (l0_6.length : Int) = a0_1 ∧ l0_6.any (fun n => decide (a0_5 < (bl n.toNat : Int))) = false) ∧ 0 ≤ a0_4 ∧ (l0_7.length : Int) = a0_1) from by first | omega | (intro hh; simp_all; done) | (intro hh; simp_all; omega))]
                  rfl
              · have D1 := ZM d1
                go_enter Try.func94, Try.ntmps94
                go_wp2_with (first | (go_at_call 115; (with_reducible refine (slices_ContainsFunc_uint64_uint64.gen 116 _ (fun n => decide (a0_5 < (bl n.toNat : Int))) A0_6 c0_6 l0_6 _ ?ent (Kd.C_below HR6.out HB.out) ?tells).mono ?_); (case ent => exact enters_of Try.func116 rfl rfl); (case tells => exact Z47); rintro ed W2 ⟨rfl, ⟨nd, rfl⟩⟩))
                (try simp only [Exit.inBlock, Exit.then])
                refine bodyPost_ret (results_ct rfl _ _ (w.heap.size + 1) 30 #[.int .i64 0, .int .i64 0, .slice A0_2 l0_2.length c0_2, .slice A0_3 l0_3.length c0_3, .int .i64 0, .int .i64 0, .slice none 0 0, .slice none 0 0] (0, 0) _ rfl (heap_mid w _ _ _) Try.underlying30 rfl (by kernel_rfl)) rfl ?_
                refine ⟨?_, by repeat (first | exact Below.refl _ _ | apply zzA | apply zzN)⟩
                have zc1 := C1.out
                have zc2 := C2.out
                have zc7 := C7.out
                have zc8 := C8.out
                have zc9 := C9.out
                have zc6 := C6.out
                have zd1 := D1.out
                simp only [decide_eq_true_eq, decide_eq_false_iff_not, beq_iff_eq, beq_eq_false_iff_ne, List.any_eq_true, List.any_eq_false, ne_eq] at zc1 zc2 zc7 zc8 zc9 zc6 zd1
                rw [decide_eq_false (show ¬ (((0 < a0_1 ∧ a0_1 ≤ 4096) ∧ (0 < a0_5 ∧ a0_5 ≤ 8) ∧ (l0_6.length : Int) = a0_1 ∧ l0_6.any (fun n => decide (a0_5 < (bl n.toNat : Int))) = false) ∧ 0 ≤ a0_4 ∧ (l0_7.length : Int) = a0_1) from by first | omega | (intro hh; simp_all; done) | (intro hh; simp_all; omega))]
                rfl
          · have C9 := ZM c9
            go_enter Try.func94, Try.ntmps94
            go_wp2
            (try simp only [Exit.inBlock, Exit.then])
            refine bodyPost_ret (results_ct rfl _ _ (w.heap.size + 1) 30 #[.int .i64 0, .int .i64 0, .slice A0_2 l0_2.length c0_2, .slice A0_3 l0_3.length c0_3, .int .i64 0, .int .i64 0, .slice none 0 0, .slice none 0 0] (0, 0) _ rfl (heap_mid w _ _ _) Try.underlying30 rfl (by kernel_rfl)) rfl ?_
            refine ⟨?_, by repeat (first | exact Below.refl _ _ | apply zzA | apply zzN)⟩
            have zc1 := C1.out
            have zc2 := C2.out
            have zc7 := C7.out
            have zc8 := C8.out
            have zc9 := C9.out
            simp only [decide_eq_true_eq, decide_eq_false_iff_not, beq_iff_eq, beq_eq_false_iff_ne, List.any_eq_true, List.any_eq_false, ne_eq] at zc1 zc2 zc7 zc8 zc9
            rw [decide_eq_false (show ¬ (((0 < a0_1 ∧ a0_1 ≤ 4096) ∧ (0 < a0_5 ∧ a0_5 ≤ 8) ∧ (l0_6.length : Int) = a0_1 ∧ l0_6.any (fun n => decide (a0_5 < (bl n.toNat : Int))) = false) ∧ 0 ≤ a0_4 ∧ (l0_7.length : Int) = a0_1) from by first | omega | (intro hh; simp_all; done) | (intro hh; simp_all; omega))]
            rfl
        · have C8 := ZM c8
          go_enter Try.func94, Try.ntmps94
          go_wp2
          (try simp only [Exit.inBlock, Exit.then])
          refine bodyPost_ret (results_ct rfl _ _ (w.heap.size + 1) 30 #[.int .i64 0, .int .i64 0, .slice A0_2 l0_2.length c0_2, .slice A0_3 l0_3.length c0_3, .int .i64 0, .int .i64 0, .slice none 0 0, .slice none 0 0] (0, 0) _ rfl (heap_mid w _ _ _) Try.underlying30 rfl (by kernel_rfl)) rfl ?_
          refine ⟨?_, by repeat (first | exact Below.refl _ _ | apply zzA | apply zzN)⟩
          have zc1 := C1.out
          have zc2 := C2.out
          have zc7 := C7.out
          have zc8 := C8.out
          simp only [decide_eq_true_eq, decide_eq_false_iff_not, beq_iff_eq, beq_eq_false_iff_ne, List.any_eq_true, List.any_eq_false, ne_eq] at zc1 zc2 zc7 zc8
          rw [decide_eq_false (show ¬ (((0 < a0_1 ∧ a0_1 ≤ 4096) ∧ (0 < a0_5 ∧ a0_5 ≤ 8) ∧ (l0_6.length : Int) = a0_1 ∧ l0_6.any (fun n => decide (a0_5 < (bl n.toNat : Int))) = false) ∧ 0 ≤ a0_4 ∧ (l0_7.length : Int) = a0_1) from by first | omega | (intro hh; simp_all; done) | (intro hh; simp_all; omega))]
          rfl
      · have C7 := ZM c7
        go_enter Try.func94, Try.ntmps94
        go_wp2
        (try simp only [Exit.inBlock, Exit.then])
        refine bodyPost_ret (results_ct rfl _ _ (w.heap.size + 1) 30 #[.int .i64 0, .int .i64 0, .slice A0_2 l0_2.length c0_2, .slice A0_3 l0_3.length c0_3, .int .i64 0, .int .i64 0, .slice none 0 0, .slice none 0 0] (0, 0) _ rfl (heap_mid w _ _ _) Try.underlying30 rfl (by kernel_rfl)) rfl ?_
        refine ⟨?_, by repeat (first | exact Below.refl _ _ | apply zzA | apply zzN)⟩
        have zc1 := C1.out
        have zc2 := C2.out
        have zc7 := C7.out
        simp only [decide_eq_true_eq, decide_eq_false_iff_not, beq_iff_eq, beq_eq_false_iff_ne, List.any_eq_true, List.any_eq_false, ne_eq] at zc1 zc2 zc7
        rw [decide_eq_false (show ¬ (((0 < a0_1 ∧ a0_1 ≤ 4096) ∧ (0 < a0_5 ∧ a0_5 ≤ 8) ∧ (l0_6.length : Int) = a0_1 ∧ l0_6.any (fun n => decide (a0_5 < (bl n.toNat : Int))) = false) ∧ 0 ≤ a0_4 ∧ (l0_7.length : Int) = a0_1) from by first | omega | (intro hh; simp_all; done) | (intro hh; simp_all; omega))]
        rfl
    · have C2 := ZM c2
      go_enter Try.func94, Try.ntmps94
      go_wp2
      (try simp only [Exit.inBlock, Exit.then])
      refine bodyPost_ret (results_ct rfl _ _ (w.heap.size + 1) 30 #[.int .i64 0, .int .i64 0, .slice A0_2 l0_2.length c0_2, .slice A0_3 l0_3.length c0_3, .int .i64 0, .int .i64 0, .slice none 0 0, .slice none 0 0] (0, 0) _ rfl (heap_mid w _ _ _) Try.underlying30 rfl (by kernel_rfl)) rfl ?_
      refine ⟨?_, by repeat (first | exact Below.refl _ _ | apply zzA | apply zzN)⟩
      have zc1 := C1.out
      have zc2 := C2.out
      simp only [decide_eq_true_eq, decide_eq_false_iff_not, beq_iff_eq, beq_eq_false_iff_ne, List.any_eq_true, List.any_eq_false, ne_eq] at zc1 zc2
      rw [decide_eq_false (show ¬ (((0 < a0_1 ∧ a0_1 ≤ 4096) ∧ (0 < a0_5 ∧ a0_5 ≤ 8) ∧ (l0_6.length : Int) = a0_1 ∧ l0_6.any (fun n => decide (a0_5 < (bl n.toNat : Int))) = false) ∧ 0 ≤ a0_4 ∧ (l0_7.length : Int) = a0_1) from by first | omega | (intro hh; simp_all; done) | (intro hh; simp_all; omega))]
      rfl
  · have C1 := ZM c1
    go_enter Try.func94, Try.ntmps94
    go_wp2
    (try simp only [Exit.inBlock, Exit.then])
    refine bodyPost_ret (results_ct rfl _ _ (w.heap.size + 1) 30 #[.int .i64 0, .int .i64 0, .slice A0_2 l0_2.length c0_2, .slice A0_3 l0_3.length c0_3, .int .i64 0, .int .i64 0, .slice none 0 0, .slice none 0 0] (0, 0) _ rfl (heap_mid w _ _ _) Try.underlying30 rfl (by kernel_rfl)) rfl ?_
    refine ⟨?_, by repeat (first | exact Below.refl _ _ | apply zzA | apply zzN)⟩
    have zc1 := C1.out
    simp only [decide_eq_true_eq, decide_eq_false_iff_not, beq_iff_eq, beq_eq_false_iff_ne, List.any_eq_true, List.any_eq_false, ne_eq] at zc1
    rw [decide_eq_false (show ¬ (((0 < a0_1 ∧ a0_1 ≤ 4096) ∧ (0 < a0_5 ∧ a0_5 ≤ 8) ∧ (l0_6.length : Int) = a0_1 ∧ l0_6.any (fun n => decide (a0_5 < (bl n.toNat : Int))) = false) ∧ 0 ≤ a0_4 ∧ (l0_7.length : Int) = a0_1) from by first | omega | (intro hh; simp_all; done) | (intro hh; simp_all; omega))]
    rfl
set_option maxHeartbeats 4000000 in
set_option maxRecDepth 100000 in
theorem frame_bare.x (a0_0 a0_1 : Int) (A0_2 : Option Addr) (c0_2 : Nat) (l0_2 : List Int) (A0_3 : Option Addr) (c0_3 : Nat) (l0_3 : List Int) (a0_4 a0_5 : Int) (A0_6 : Option Addr) (c0_6 : Nat) (l0_6 : List Int) (A0_7 : Option Addr) (c0_7 : Nat) (l0_7 : List Bool) (w : World) (hr0_2 : Kd.C (Kd.int .i64) w A0_2 l0_2.length l0_2) (hc0_2 : l0_2.length ≤ c0_2) (hr0_3 : Kd.C (Kd.int .i64) w A0_3 l0_3.length l0_3) (hc0_3 : l0_3.length ≤ c0_3) (hr0_6 : Kd.C (Kd.int .u64) w A0_6 l0_6.length l0_6) (hc0_6 : l0_6.length ≤ c0_6) (hr0_7 : Kd.C Kd.bool w A0_7 l0_7.length l0_7) (hc0_7 : l0_7.length ≤ c0_7) (h0 : a0_0 ≠ 0) (h1 : a0_0 ≠ 1) (h2 : a0_0 ≠ 2) (h3 : a0_0 ≠ 3) :
    Calls Try.prog 94 #[.agg #[.int .i64 a0_0, .int .i64 a0_1, .slice A0_2 l0_2.length c0_2, .slice A0_3 l0_3.length c0_3, .int .i64 a0_4, .int .i64 a0_5, .slice A0_6 l0_6.length c0_6, .slice A0_7 l0_7.length c0_7]] w fun e w' => (∃ v, e = .returned (.tuple #[v, .bool false])) ∧ Below w.heap.size w w' := by
  have HR2 := ZM hr0_2
  have HC2 := ZM hc0_2
  have HR6 := ZM hr0_6
  have HC6 := ZM hc0_6
  clear hr0_2 hc0_2 hr0_3 hc0_3 hr0_6 hc0_6 hr0_7 hc0_7
  have hu := Try.underlying30
  have k0 : (a0_0 == 0) = false := beq_eq_false_iff_ne.2 h0
  have k1 : (a0_0 == 1) = false := beq_eq_false_iff_ne.2 h1
  have k2 : (a0_0 == 2) = false := beq_eq_false_iff_ne.2 h2
  have k3 : (a0_0 == 3) = false := beq_eq_false_iff_ne.2 h3
  clear h0 h1 h2 h3
  rcases Bool.eq_false_or_eq_true (decide (0 < a0_1)) with c1 | c1
  · rcases Bool.eq_false_or_eq_true (decide (a0_1 ≤ 4096)) with c2 | c2
    · go_enter Try.func94, Try.ntmps94
      go_wp2
      (try simp only [Exit.inBlock, Exit.then])
      refine bodyPost_ret (results_ct rfl _ _ (w.heap.size + 1) 30 #[.int .i64 0, .int .i64 0, .slice A0_2 l0_2.length c0_2, .slice A0_3 l0_3.length c0_3, .int .i64 a0_4, .int .i64 a0_5, .slice A0_6 l0_6.length c0_6, .slice A0_7 l0_7.length c0_7] (0, 0) _ rfl (heap_mid w _ _ _) Try.underlying30 rfl (by kernel_rfl)) rfl ?_
      exact ⟨⟨_, rfl⟩, by repeat (first | exact Below.refl _ _ | apply zzA | apply zzN)⟩
    · go_enter Try.func94, Try.ntmps94
      go_wp2
      (try simp only [Exit.inBlock, Exit.then])
      refine bodyPost_ret (results_ct rfl _ _ (w.heap.size + 1) 30 #[.int .i64 0, .int .i64 0, .slice A0_2 l0_2.length c0_2, .slice A0_3 l0_3.length c0_3, .int .i64 a0_4, .int .i64 a0_5, .slice A0_6 l0_6.length c0_6, .slice A0_7 l0_7.length c0_7] (0, 0) _ rfl (heap_mid w _ _ _) Try.underlying30 rfl (by kernel_rfl)) rfl ?_
      exact ⟨⟨_, rfl⟩, by repeat (first | exact Below.refl _ _ | apply zzA | apply zzN)⟩
  · go_enter Try.func94, Try.ntmps94
    go_wp2
    (try simp only [Exit.inBlock, Exit.then])
    refine bodyPost_ret (results_ct rfl _ _ (w.heap.size + 1) 30 #[.int .i64 0, .int .i64 0, .slice A0_2 l0_2.length c0_2, .slice A0_3 l0_3.length c0_3, .int .i64 a0_4, .int .i64 a0_5, .slice A0_6 l0_6.length c0_6, .slice A0_7 l0_7.length c0_7] (0, 0) _ rfl (heap_mid w _ _ _) Try.underlying30 rfl (by kernel_rfl)) rfl ?_
    exact ⟨⟨_, rfl⟩, by repeat (first | exact Below.refl _ _ | apply zzA | apply zzN)⟩


/-! ### frame_May: function 60 -/
set_option maxHeartbeats 4000000 in
set_option maxRecDepth 100000 in
theorem frame_bare.y (a0_0 a0_1 : Int) (A0_2 : Option Addr) (c0_2 : Nat) (l0_2 : List Int) (A0_3 : Option Addr) (c0_3 : Nat) (l0_3 : List Int) (a0_4 a0_5 : Int) (A0_6 : Option Addr) (c0_6 : Nat) (l0_6 : List Int) (A0_7 : Option Addr) (c0_7 : Nat) (l0_7 : List Bool) (w : World) (hr0_2 : Kd.C (Kd.int .i64) w A0_2 l0_2.length l0_2) (hc0_2 : l0_2.length ≤ c0_2) (hr0_3 : Kd.C (Kd.int .i64) w A0_3 l0_3.length l0_3) (hc0_3 : l0_3.length ≤ c0_3) (hr0_6 : Kd.C (Kd.int .u64) w A0_6 l0_6.length l0_6) (hc0_6 : l0_6.length ≤ c0_6) (hr0_7 : Kd.C Kd.bool w A0_7 l0_7.length l0_7) (hc0_7 : l0_7.length ≤ c0_7) (h0 : a0_0 ≠ 0) (h1 : a0_0 ≠ 1) (h2 : a0_0 ≠ 2) (h3 : a0_0 ≠ 3) :
    Calls Try.prog 94 #[.agg #[.int .i64 a0_0, .int .i64 a0_1, .slice A0_2 l0_2.length c0_2, .slice A0_3 l0_3.length c0_3, .int .i64 a0_4, .int .i64 a0_5, .slice A0_6 l0_6.length c0_6, .slice A0_7 l0_7.length c0_7]] w fun e w' => e = .returned (.tuple #[.agg #[.int .i64 0, .int .i64 0, .slice A0_2 l0_2.length c0_2, .slice A0_3 l0_3.length c0_3, .int .i64 a0_4, .int .i64 a0_5, .slice A0_6 l0_6.length c0_6, .slice A0_7 l0_7.length c0_7], .bool false]) ∧ Below w.heap.size w w' := by
  have HR2 := ZM hr0_2
  have HC2 := ZM hc0_2
  have HR6 := ZM hr0_6
  have HC6 := ZM hc0_6
  clear hr0_2 hc0_2 hr0_3 hc0_3 hr0_6 hc0_6 hr0_7 hc0_7
  have hu := Try.underlying30
  have k0 : (a0_0 == 0) = false := beq_eq_false_iff_ne.2 h0
  have k1 : (a0_0 == 1) = false := beq_eq_false_iff_ne.2 h1
  have k2 : (a0_0 == 2) = false := beq_eq_false_iff_ne.2 h2
  have k3 : (a0_0 == 3) = false := beq_eq_false_iff_ne.2 h3
  clear h0 h1 h2 h3
  rcases Bool.eq_false_or_eq_true (decide (0 < a0_1)) with c1 | c1
  · rcases Bool.eq_false_or_eq_true (decide (a0_1 ≤ 4096)) with c2 | c2
    · go_enter Try.func94, Try.ntmps94
      go_wp2
      (try simp only [Exit.inBlock, Exit.then])
      refine bodyPost_ret (results_ct rfl _ _ (w.heap.size + 1) 30 #[.int .i64 0, .int .i64 0, .slice A0_2 l0_2.length c0_2, .slice A0_3 l0_3.length c0_3, .int .i64 a0_4, .int .i64 a0_5, .slice A0_6 l0_6.length c0_6, .slice A0_7 l0_7.length c0_7] (0, 0) _ rfl (heap_mid w _ _ _) Try.underlying30 rfl (by kernel_rfl)) rfl ?_
      exact ⟨rfl, by repeat (first | exact Below.refl _ _ | apply zzA | apply zzN)⟩
    · go_enter Try.func94, Try.ntmps94
      go_wp2
      (try simp only [Exit.inBlock, Exit.then])
      refine bodyPost_ret (results_ct rfl _ _ (w.heap.size + 1) 30 #[.int .i64 0, .int .i64 0, .slice A0_2 l0_2.length c0_2, .slice A0_3 l0_3.length c0_3, .int .i64 a0_4, .int .i64 a0_5, .slice A0_6 l0_6.length c0_6, .slice A0_7 l0_7.length c0_7] (0, 0) _ rfl (heap_mid w _ _ _) Try.underlying30 rfl (by kernel_rfl)) rfl ?_
      exact ⟨rfl, by repeat (first | exact Below.refl _ _ | apply zzA | apply zzN)⟩
  · go_enter Try.func94, Try.ntmps94
    go_wp2
    (try simp only [Exit.inBlock, Exit.then])
    refine bodyPost_ret (results_ct rfl _ _ (w.heap.size + 1) 30 #[.int .i64 0, .int .i64 0, .slice A0_2 l0_2.length c0_2, .slice A0_3 l0_3.length c0_3, .int .i64 a0_4, .int .i64 a0_5, .slice A0_6 l0_6.length c0_6, .slice A0_7 l0_7.length c0_7] (0, 0) _ rfl (heap_mid w _ _ _) Try.underlying30 rfl (by kernel_rfl)) rfl ?_
    exact ⟨rfl, by repeat (first | exact Below.refl _ _ | apply zzA | apply zzN)⟩
theorem frame_bare.lb (a0_0 a0_1 : Int) (A0_2 : Option Addr) (c0_2 : Nat) (l0_2 : List Int) (A0_3 : Option Addr) (c0_3 : Nat) (l0_3 : List Int) (a0_4 a0_5 : Int) (A0_6 : Option Addr) (c0_6 : Nat) (l0_6 : List Int) (A0_7 : Option Addr) (c0_7 : Nat) (l0_7 : List Bool) (w : World) (hr0_2 : Kd.C (Kd.int .i64) w A0_2 l0_2.length l0_2) (hc0_2 : l0_2.length ≤ c0_2) (hr0_3 : Kd.C (Kd.int .i64) w A0_3 l0_3.length l0_3) (hc0_3 : l0_3.length ≤ c0_3) (hr0_6 : Kd.C (Kd.int .u64) w A0_6 l0_6.length l0_6) (hc0_6 : l0_6.length ≤ c0_6) (hr0_7 : Kd.C Kd.bool w A0_7 l0_7.length l0_7) (hc0_7 : l0_7.length ≤ c0_7) (hu6 : U64L l0_6) (h0 : a0_0 = 2) (b : Bool) (hb : decide (((0 < a0_1 ∧ a0_1 ≤ 4096) ∧ (0 < a0_5 ∧ a0_5 ≤ 8) ∧ (l0_6.length : Int) = a0_1 ∧ l0_6.any (fun n => decide (a0_5 < (bl n.toNat : Int))) = false) ∧ 0 ≤ a0_4 ∧ (l0_7.length : Int) = a0_1) = b) :
    Calls Try.prog 94 #[.agg #[.int .i64 a0_0, .int .i64 a0_1, .slice A0_2 l0_2.length c0_2, .slice A0_3 l0_3.length c0_3, .int .i64 a0_4, .int .i64 a0_5, .slice A0_6 l0_6.length c0_6, .slice A0_7 l0_7.length c0_7]] w fun e w' => e = .returned (.tuple #[.agg #[.int .i64 0, .int .i64 0, .slice A0_2 l0_2.length c0_2, .slice A0_3 l0_3.length c0_3, .int .i64 0, .int .i64 0, .slice none 0 0, .slice none 0 0], .bool b]) ∧ Below w.heap.size w w' := by
  subst hb
  exact frame_bare.l a0_0 a0_1 A0_2 c0_2 l0_2 A0_3 c0_3 l0_3 a0_4 a0_5 A0_6 c0_6 l0_6 A0_7 c0_7 l0_7 w hr0_2 hc0_2 hr0_3 hc0_3 hr0_6 hc0_6 hr0_7 hc0_7 hu6 h0
theorem any_wide (l : List Int) (w : Int) : l.any (fun n => decide (w < (bl n.toNat : Int))) = false ↔ ∀ n ∈ l, (bl n.toNat : Int) ≤ w := by
  rw [List.any_eq_false]; simp only [decide_eq_true_eq]
  constructor <;> intro h n hn <;> have := h n hn <;> omega
def frame_May.f (a0_0 : Int) (a0_1 : Int) (l0_2 : List Int) (l0_3 : List Int) (a0_4 : Int) (a0_5 : Int) (l0_6 : List Int) (l0_7 : List Bool) : Option Bool := if U64L l0_6 then some (decide (MayP a0_0 a0_1 l0_2 l0_3 a0_4 a0_5 l0_6 l0_7)) else none
theorem frame_May.of (a0_0 : Int) (a0_1 : Int) (l0_2 : List Int) (l0_3 : List Int) (a0_4 : Int) (a0_5 : Int) (l0_6 : List Int) (l0_7 : List Bool)  (h_ : U64L l0_6) : frame_May.f a0_0 a0_1 l0_2 l0_3 a0_4 a0_5 l0_6 l0_7 = some (decide (MayP a0_0 a0_1 l0_2 l0_3 a0_4 a0_5 l0_6 l0_7)) := if_pos h_
set_option maxHeartbeats 4000000 in
set_option maxRecDepth 100000 in
theorem frame_May.d (a0_0 a0_1 : Int) (A0_2 : Option Addr) (c0_2 : Nat) (l0_2 : List Int) (A0_3 : Option Addr) (c0_3 : Nat) (l0_3 : List Int) (a0_4 a0_5 : Int) (A0_6 : Option Addr) (c0_6 : Nat) (l0_6 : List Int) (A0_7 : Option Addr) (c0_7 : Nat) (l0_7 : List Bool) (w : World) (hr0_2 : Kd.C (Kd.int .i64) w A0_2 l0_2.length l0_2) (hc0_2 : l0_2.length ≤ c0_2) (hr0_3 : Kd.C (Kd.int .i64) w A0_3 l0_3.length l0_3) (hc0_3 : l0_3.length ≤ c0_3) (hr0_6 : Kd.C (Kd.int .u64) w A0_6 l0_6.length l0_6) (hc0_6 : l0_6.length ≤ c0_6) (hr0_7 : Kd.C Kd.bool w A0_7 l0_7.length l0_7) (hc0_7 : l0_7.length ≤ c0_7) (hu6 : U64L l0_6) (h0 : a0_0 = 0) :
    Calls Try.prog 60 #[.agg #[.int .i64 a0_0, .int .i64 a0_1, .slice A0_2 l0_2.length c0_2, .slice A0_3 l0_3.length c0_3, .int .i64 a0_4, .int .i64 a0_5, .slice A0_6 l0_6.length c0_6, .slice A0_7 l0_7.length c0_7]] w fun e w' => e = .returned (.bool (decide (MayP a0_0 a0_1 l0_2 l0_3 a0_4 a0_5 l0_6 l0_7))) ∧ Below w.heap.size w w' := by
  subst h0
  have HR2 := ZM hr0_2
  have HC2 := ZM hc0_2
  have HR3 := ZM hr0_3
  have HC3 := ZM hc0_3
  have HR6 := ZM hr0_6
  have HC6 := ZM hc0_6
  have HR7 := ZM hr0_7
  have HC7 := ZM hc0_7
  clear hr0_2 hc0_2 hr0_3 hc0_3 hr0_6 hc0_6 hr0_7 hc0_7
  have HU := ZM hu6
  clear hu6
  have hu := Try.underlying30
  have HB : Aside0 (Below w.heap.size w (w.alloc (Obj.cells #[Value.int .i64 0, .int .i64 a0_1, .slice A0_2 l0_2.length c0_2, .slice A0_3 l0_3.length c0_3, .int .i64 a0_4, .int .i64 a0_5, .slice A0_6 l0_6.length c0_6, .slice A0_7 l0_7.length c0_7] 30))) := ⟨zzA (Below.refl _ _) _⟩
  rcases Bool.eq_false_or_eq_true (decide ((0 < a0_1 ∧ a0_1 ≤ 4096) ∧ (l0_3.length : Int) = a0_1)) with k | k
  · have K := ZM k
    go_enter Try.func60, Try.ntmps60
    go_wp2_with (first | (go_at_call 94; (with_reducible refine (frame_bare.d 0 a0_1 A0_2 c0_2 l0_2 A0_3 c0_3 l0_3 a0_4 a0_5 A0_6 c0_6 l0_6 A0_7 c0_7 l0_7 _ (Kd.C_below HR2.out HB.out) HC2.out (Kd.C_below HR3.out HB.out) HC3.out (Kd.C_below HR6.out HB.out) HC6.out (Kd.C_below HR7.out HB.out) HC7.out rfl).mono ?_); rintro ed W1 ⟨rfl, hb⟩; have HB1 := ZM (zzA (below_then HB.out HB.out.size hb) (Obj.cells #[.int .i64 0, .int .i64 0, .slice A0_2 l0_2.length c0_2, .slice none 0 0, .int .i64 a0_4, .int .i64 a0_5, .slice A0_6 l0_6.length c0_6, .slice A0_7 l0_7.length c0_7] 30)); clear hb) | (go_at_call 75; (refine (frame_same.calls 0 0 A0_2 c0_2 l0_2 none 0 [] a0_4 a0_5 A0_6 c0_6 l0_6 A0_7 c0_7 l0_7 0 0 none 0 [] none 0 [] 0 0 none 0 [] none 0 [] _ _ (Kd.C_below HR2.out HB1.out) HC2.out (Kd.C_nil _ _) (Nat.le_refl _) (Kd.C_below HR6.out HB1.out) HC6.out (Kd.C_below HR7.out HB1.out) HC7.out (Kd.C_nil _ _) (Nat.le_refl _) (Kd.C_nil _ _) (Nat.le_refl _) (Kd.C_nil _ _) (Nat.le_refl _) (Kd.C_nil _ _) (Nat.le_refl _) rfl).mono ?_); rintro ed W2 ⟨rfl, hb⟩; have HB2 := ZM (below_then HB1.out HB1.out.size hb); clear hb))
    go_ret
    refine ⟨congrArg Ending.returned (congrArg Value.bool ?_), HB2.out⟩
    have k1 := of_decide_eq_true K.out
    rw [eq_comm, Bool.eq_iff_iff]
    simp only [decide_eq_true_eq, Bool.and_eq_true]
    refine ⟨fun h => ?_, fun h => ?_⟩
    · obtain ⟨h1, ⟨h0, h⟩ | ⟨h0, h⟩ | ⟨h0, h⟩ | ⟨h0, h⟩⟩ := h
      · exact ⟨h.2.2.1, h.2.2.2.1, h.1, h.2.2.2.2.1, h.2.2.2.2.2⟩
      · exact absurd h0 (by decide)
      · exact absurd h0 (by decide)
      · exact absurd h0 (by decide)
    · exact ⟨by omega, .inl ⟨rfl, h.2.2.1, k1.2, h.1, h.2.1, h.2.2.2.1, h.2.2.2.2⟩⟩
  · have K := ZM k
    go_enter Try.func60, Try.ntmps60
    go_wp2_with (first | (go_at_call 94; (with_reducible refine (frame_bare.d 0 a0_1 A0_2 c0_2 l0_2 A0_3 c0_3 l0_3 a0_4 a0_5 A0_6 c0_6 l0_6 A0_7 c0_7 l0_7 _ (Kd.C_below HR2.out HB.out) HC2.out (Kd.C_below HR3.out HB.out) HC3.out (Kd.C_below HR6.out HB.out) HC6.out (Kd.C_below HR7.out HB.out) HC7.out rfl).mono ?_); rintro ed W1 ⟨rfl, hb⟩; have HB1 := ZM (zzA (below_then HB.out HB.out.size hb) (Obj.cells #[.int .i64 0, .int .i64 0, .slice A0_2 l0_2.length c0_2, .slice none 0 0, .int .i64 a0_4, .int .i64 a0_5, .slice A0_6 l0_6.length c0_6, .slice A0_7 l0_7.length c0_7] 30)); clear hb))
    go_ret
    refine ⟨?_, HB1.out⟩
    have k1 := of_decide_eq_false K.out
    rw [show decide (MayP 0 a0_1 l0_2 l0_3 a0_4 a0_5 l0_6 l0_7) = false from decide_eq_false (fun h => k1 ?_)]
    · rfl
    · obtain ⟨h1, ⟨h0, h⟩ | ⟨h0, h⟩ | ⟨h0, h⟩ | ⟨h0, h⟩⟩ := h
      · exact ⟨by omega, h.2.1⟩
      · exact absurd h0 (by decide)
      · exact absurd h0 (by decide)
      · exact absurd h0 (by decide)
set_option maxHeartbeats 4000000 in
set_option maxRecDepth 100000 in
theorem frame_May.t (a0_0 a0_1 : Int) (A0_2 : Option Addr) (c0_2 : Nat) (l0_2 : List Int) (A0_3 : Option Addr) (c0_3 : Nat) (l0_3 : List Int) (a0_4 a0_5 : Int) (A0_6 : Option Addr) (c0_6 : Nat) (l0_6 : List Int) (A0_7 : Option Addr) (c0_7 : Nat) (l0_7 : List Bool) (w : World) (hr0_2 : Kd.C (Kd.int .i64) w A0_2 l0_2.length l0_2) (hc0_2 : l0_2.length ≤ c0_2) (hr0_3 : Kd.C (Kd.int .i64) w A0_3 l0_3.length l0_3) (hc0_3 : l0_3.length ≤ c0_3) (hr0_6 : Kd.C (Kd.int .u64) w A0_6 l0_6.length l0_6) (hc0_6 : l0_6.length ≤ c0_6) (hr0_7 : Kd.C Kd.bool w A0_7 l0_7.length l0_7) (hc0_7 : l0_7.length ≤ c0_7) (hu6 : U64L l0_6) (h0 : a0_0 = 1) :
    Calls Try.prog 60 #[.agg #[.int .i64 a0_0, .int .i64 a0_1, .slice A0_2 l0_2.length c0_2, .slice A0_3 l0_3.length c0_3, .int .i64 a0_4, .int .i64 a0_5, .slice A0_6 l0_6.length c0_6, .slice A0_7 l0_7.length c0_7]] w fun e w' => e = .returned (.bool (decide (MayP a0_0 a0_1 l0_2 l0_3 a0_4 a0_5 l0_6 l0_7))) ∧ Below w.heap.size w w' := by
  subst h0
  have HR2 := ZM hr0_2
  have HC2 := ZM hc0_2
  have HR3 := ZM hr0_3
  have HC3 := ZM hc0_3
  have HR6 := ZM hr0_6
  have HC6 := ZM hc0_6
  have HR7 := ZM hr0_7
  have HC7 := ZM hc0_7
  clear hr0_2 hc0_2 hr0_3 hc0_3 hr0_6 hc0_6 hr0_7 hc0_7
  have HU := ZM hu6
  clear hu6
  have hu := Try.underlying30
  have HB : Aside0 (Below w.heap.size w (w.alloc (Obj.cells #[Value.int .i64 1, .int .i64 a0_1, .slice A0_2 l0_2.length c0_2, .slice A0_3 l0_3.length c0_3, .int .i64 a0_4, .int .i64 a0_5, .slice A0_6 l0_6.length c0_6, .slice A0_7 l0_7.length c0_7] 30))) := ⟨zzA (Below.refl _ _) _⟩
  rcases Bool.eq_false_or_eq_true (decide (((0 < a0_1 ∧ a0_1 ≤ 4096) ∧ checkI a0_1 l0_2 = 0) ∧ (l0_2.length : Int) = (l0_3.length : Int))) with k | k
  · have K := ZM k
    go_enter Try.func60, Try.ntmps60
    go_wp2_with (first | (go_at_call 94; (with_reducible refine (frame_bare.t 1 a0_1 A0_2 c0_2 l0_2 A0_3 c0_3 l0_3 a0_4 a0_5 A0_6 c0_6 l0_6 A0_7 c0_7 l0_7 _ (Kd.C_below HR2.out HB.out) HC2.out (Kd.C_below HR3.out HB.out) HC3.out (Kd.C_below HR6.out HB.out) HC6.out (Kd.C_below HR7.out HB.out) HC7.out rfl).mono ?_); rintro ed W1 ⟨rfl, hb⟩; have HB1 := ZM (zzA (below_then HB.out HB.out.size hb) (Obj.cells #[.int .i64 0, .int .i64 0, .slice none 0 0, .slice none 0 0, .int .i64 a0_4, .int .i64 a0_5, .slice A0_6 l0_6.length c0_6, .slice A0_7 l0_7.length c0_7] 30)); clear hb) | (go_at_call 75; (refine (frame_same.calls 0 0 none 0 [] none 0 [] a0_4 a0_5 A0_6 c0_6 l0_6 A0_7 c0_7 l0_7 0 0 none 0 [] none 0 [] 0 0 none 0 [] none 0 [] _ _ (Kd.C_nil _ _) (Nat.le_refl _) (Kd.C_nil _ _) (Nat.le_refl _) (Kd.C_below HR6.out HB1.out) HC6.out (Kd.C_below HR7.out HB1.out) HC7.out (Kd.C_nil _ _) (Nat.le_refl _) (Kd.C_nil _ _) (Nat.le_refl _) (Kd.C_nil _ _) (Nat.le_refl _) (Kd.C_nil _ _) (Nat.le_refl _) rfl).mono ?_); rintro ed W2 ⟨rfl, hb⟩; have HB2 := ZM (below_then HB1.out HB1.out.size hb); clear hb))
    go_ret
    refine ⟨congrArg Ending.returned (congrArg Value.bool ?_), HB2.out⟩
    have k1 := of_decide_eq_true K.out
    rw [eq_comm, Bool.eq_iff_iff]
    simp only [decide_eq_true_eq, Bool.and_eq_true]
    refine ⟨fun h => ?_, fun h => ?_⟩
    · obtain ⟨h1, ⟨h0, h⟩ | ⟨h0, h⟩ | ⟨h0, h⟩ | ⟨h0, h⟩⟩ := h
      · exact absurd h0 (by decide)
      · exact ⟨h.2.2.1, h.2.2.2.1, h.2.2.2.2.1, h.2.2.2.2.2⟩
      · exact absurd h0 (by decide)
      · exact absurd h0 (by decide)
    · exact ⟨by omega, .inr (.inl ⟨rfl, k1.1.2, by omega, h.1, h.2.1, h.2.2.1, h.2.2.2⟩)⟩
  · have K := ZM k
    go_enter Try.func60, Try.ntmps60
    go_wp2_with (first | (go_at_call 94; (with_reducible refine (frame_bare.t 1 a0_1 A0_2 c0_2 l0_2 A0_3 c0_3 l0_3 a0_4 a0_5 A0_6 c0_6 l0_6 A0_7 c0_7 l0_7 _ (Kd.C_below HR2.out HB.out) HC2.out (Kd.C_below HR3.out HB.out) HC3.out (Kd.C_below HR6.out HB.out) HC6.out (Kd.C_below HR7.out HB.out) HC7.out rfl).mono ?_); rintro ed W1 ⟨rfl, hb⟩; have HB1 := ZM (zzA (below_then HB.out HB.out.size hb) (Obj.cells #[.int .i64 0, .int .i64 0, .slice none 0 0, .slice none 0 0, .int .i64 a0_4, .int .i64 a0_5, .slice A0_6 l0_6.length c0_6, .slice A0_7 l0_7.length c0_7] 30)); clear hb))
    go_ret
    refine ⟨?_, HB1.out⟩
    have k1 := of_decide_eq_false K.out
    rw [show decide (MayP 1 a0_1 l0_2 l0_3 a0_4 a0_5 l0_6 l0_7) = false from decide_eq_false (fun h => k1 ?_)]
    · rfl
    · obtain ⟨h1, ⟨h0, h⟩ | ⟨h0, h⟩ | ⟨h0, h⟩ | ⟨h0, h⟩⟩ := h
      · exact absurd h0 (by decide)
      · exact ⟨⟨by omega, h.1⟩, by omega⟩
      · exact absurd h0 (by decide)
      · exact absurd h0 (by decide)
set_option maxHeartbeats 4000000 in
set_option maxRecDepth 100000 in
theorem frame_May.l (a0_0 a0_1 : Int) (A0_2 : Option Addr) (c0_2 : Nat) (l0_2 : List Int) (A0_3 : Option Addr) (c0_3 : Nat) (l0_3 : List Int) (a0_4 a0_5 : Int) (A0_6 : Option Addr) (c0_6 : Nat) (l0_6 : List Int) (A0_7 : Option Addr) (c0_7 : Nat) (l0_7 : List Bool) (w : World) (hr0_2 : Kd.C (Kd.int .i64) w A0_2 l0_2.length l0_2) (hc0_2 : l0_2.length ≤ c0_2) (hr0_3 : Kd.C (Kd.int .i64) w A0_3 l0_3.length l0_3) (hc0_3 : l0_3.length ≤ c0_3) (hr0_6 : Kd.C (Kd.int .u64) w A0_6 l0_6.length l0_6) (hc0_6 : l0_6.length ≤ c0_6) (hr0_7 : Kd.C Kd.bool w A0_7 l0_7.length l0_7) (hc0_7 : l0_7.length ≤ c0_7) (hu6 : U64L l0_6) (h0 : a0_0 = 2) :
    Calls Try.prog 60 #[.agg #[.int .i64 a0_0, .int .i64 a0_1, .slice A0_2 l0_2.length c0_2, .slice A0_3 l0_3.length c0_3, .int .i64 a0_4, .int .i64 a0_5, .slice A0_6 l0_6.length c0_6, .slice A0_7 l0_7.length c0_7]] w fun e w' => e = .returned (.bool (decide (MayP a0_0 a0_1 l0_2 l0_3 a0_4 a0_5 l0_6 l0_7))) ∧ Below w.heap.size w w' := by
  subst h0
  have HR2 := ZM hr0_2
  have HC2 := ZM hc0_2
  have HR3 := ZM hr0_3
  have HC3 := ZM hc0_3
  have HR6 := ZM hr0_6
  have HC6 := ZM hc0_6
  have HR7 := ZM hr0_7
  have HC7 := ZM hc0_7
  clear hr0_2 hc0_2 hr0_3 hc0_3 hr0_6 hc0_6 hr0_7 hc0_7
  have HU := ZM hu6
  clear hu6
  have hu := Try.underlying30
  have HB : Aside0 (Below w.heap.size w (w.alloc (Obj.cells #[Value.int .i64 2, .int .i64 a0_1, .slice A0_2 l0_2.length c0_2, .slice A0_3 l0_3.length c0_3, .int .i64 a0_4, .int .i64 a0_5, .slice A0_6 l0_6.length c0_6, .slice A0_7 l0_7.length c0_7] 30))) := ⟨zzA (Below.refl _ _) _⟩
  rcases Bool.eq_false_or_eq_true (decide (((0 < a0_1 ∧ a0_1 ≤ 4096) ∧ (0 < a0_5 ∧ a0_5 ≤ 8) ∧ (l0_6.length : Int) = a0_1 ∧ l0_6.any (fun n => decide (a0_5 < (bl n.toNat : Int))) = false) ∧ 0 ≤ a0_4 ∧ (l0_7.length : Int) = a0_1)) with k | k
  · have K := ZM k
    go_enter Try.func60, Try.ntmps60
    go_wp2_with (first | (go_at_call 94; (with_reducible refine (frame_bare.lb 2 a0_1 A0_2 c0_2 l0_2 A0_3 c0_3 l0_3 a0_4 a0_5 A0_6 c0_6 l0_6 A0_7 c0_7 l0_7 _ (Kd.C_below HR2.out HB.out) HC2.out (Kd.C_below HR3.out HB.out) HC3.out (Kd.C_below HR6.out HB.out) HC6.out (Kd.C_below HR7.out HB.out) HC7.out HU.out rfl true K.out).mono ?_); rintro ed W1 ⟨rfl, hb⟩; have HB1 := ZM (zzA (below_then HB.out HB.out.size hb) (Obj.cells #[.int .i64 0, .int .i64 0, .slice A0_2 l0_2.length c0_2, .slice A0_3 l0_3.length c0_3, .int .i64 0, .int .i64 0, .slice none 0 0, .slice none 0 0] 30)); clear hb) | (go_at_call 75; (refine (frame_same.calls 0 0 A0_2 c0_2 l0_2 A0_3 c0_3 l0_3 0 0 none 0 [] none 0 [] 0 0 none 0 [] none 0 [] 0 0 none 0 [] none 0 [] _ _ (Kd.C_below HR2.out HB1.out) HC2.out (Kd.C_below HR3.out HB1.out) HC3.out (Kd.C_nil _ _) (Nat.le_refl _) (Kd.C_nil _ _) (Nat.le_refl _) (Kd.C_nil _ _) (Nat.le_refl _) (Kd.C_nil _ _) (Nat.le_refl _) (Kd.C_nil _ _) (Nat.le_refl _) (Kd.C_nil _ _) (Nat.le_refl _) rfl).mono ?_); rintro ed W2 ⟨rfl, hb⟩; have HB2 := ZM (below_then HB1.out HB1.out.size hb); clear hb))
    go_ret
    refine ⟨congrArg Ending.returned (congrArg Value.bool ?_), HB2.out⟩
    have k1 := of_decide_eq_true K.out
    rw [eq_comm, Bool.eq_iff_iff]
    simp only [decide_eq_true_eq, Bool.and_eq_true]
    refine ⟨fun h => ?_, fun h => ?_⟩
    · obtain ⟨h1, ⟨h0, h⟩ | ⟨h0, h⟩ | ⟨h0, h⟩ | ⟨h0, h⟩⟩ := h
      · exact absurd h0 (by decide)
      · exact absurd h0 (by decide)
      · exact ⟨h.2.2.2.1, h.2.2.2.2.1⟩
      · exact absurd h0 (by decide)
    · exact ⟨by omega, .inr (.inr (.inl ⟨rfl, by omega, k1.1.2.2.1, (any_wide l0_6 a0_5).1 k1.1.2.2.2, h.1, h.2, k1.2.1, k1.2.2⟩))⟩
  · have K := ZM k
    go_enter Try.func60, Try.ntmps60
    go_wp2_with (first | (go_at_call 94; (with_reducible refine (frame_bare.lb 2 a0_1 A0_2 c0_2 l0_2 A0_3 c0_3 l0_3 a0_4 a0_5 A0_6 c0_6 l0_6 A0_7 c0_7 l0_7 _ (Kd.C_below HR2.out HB.out) HC2.out (Kd.C_below HR3.out HB.out) HC3.out (Kd.C_below HR6.out HB.out) HC6.out (Kd.C_below HR7.out HB.out) HC7.out HU.out rfl false K.out).mono ?_); rintro ed W1 ⟨rfl, hb⟩; have HB1 := ZM (zzA (below_then HB.out HB.out.size hb) (Obj.cells #[.int .i64 0, .int .i64 0, .slice A0_2 l0_2.length c0_2, .slice A0_3 l0_3.length c0_3, .int .i64 0, .int .i64 0, .slice none 0 0, .slice none 0 0] 30)); clear hb))
    go_ret
    refine ⟨?_, HB1.out⟩
    have k1 := of_decide_eq_false K.out
    rw [show decide (MayP 2 a0_1 l0_2 l0_3 a0_4 a0_5 l0_6 l0_7) = false from decide_eq_false (fun h => k1 ?_)]
    · rfl
    · obtain ⟨h1, ⟨h0, h⟩ | ⟨h0, h⟩ | ⟨h0, h⟩ | ⟨h0, h⟩⟩ := h
      · exact absurd h0 (by decide)
      · exact absurd h0 (by decide)
      · exact ⟨⟨by omega, by omega, h.2.1, (any_wide l0_6 a0_5).2 h.2.2.1⟩, h.2.2.2.2.2.1, h.2.2.2.2.2.2⟩
      · exact absurd h0 (by decide)
set_option maxHeartbeats 4000000 in
set_option maxRecDepth 100000 in
theorem frame_May.s (a0_0 a0_1 : Int) (A0_2 : Option Addr) (c0_2 : Nat) (l0_2 : List Int) (A0_3 : Option Addr) (c0_3 : Nat) (l0_3 : List Int) (a0_4 a0_5 : Int) (A0_6 : Option Addr) (c0_6 : Nat) (l0_6 : List Int) (A0_7 : Option Addr) (c0_7 : Nat) (l0_7 : List Bool) (w : World) (hr0_2 : Kd.C (Kd.int .i64) w A0_2 l0_2.length l0_2) (hc0_2 : l0_2.length ≤ c0_2) (hr0_3 : Kd.C (Kd.int .i64) w A0_3 l0_3.length l0_3) (hc0_3 : l0_3.length ≤ c0_3) (hr0_6 : Kd.C (Kd.int .u64) w A0_6 l0_6.length l0_6) (hc0_6 : l0_6.length ≤ c0_6) (hr0_7 : Kd.C Kd.bool w A0_7 l0_7.length l0_7) (hc0_7 : l0_7.length ≤ c0_7) (hu6 : U64L l0_6) (h0 : a0_0 = 3) :
    Calls Try.prog 60 #[.agg #[.int .i64 a0_0, .int .i64 a0_1, .slice A0_2 l0_2.length c0_2, .slice A0_3 l0_3.length c0_3, .int .i64 a0_4, .int .i64 a0_5, .slice A0_6 l0_6.length c0_6, .slice A0_7 l0_7.length c0_7]] w fun e w' => e = .returned (.bool (decide (MayP a0_0 a0_1 l0_2 l0_3 a0_4 a0_5 l0_6 l0_7))) ∧ Below w.heap.size w w' := by
  subst h0
  have HR2 := ZM hr0_2
  have HC2 := ZM hc0_2
  have HR3 := ZM hr0_3
  have HC3 := ZM hc0_3
  have HR6 := ZM hr0_6
  have HC6 := ZM hc0_6
  have HR7 := ZM hr0_7
  have HC7 := ZM hc0_7
  clear hr0_2 hc0_2 hr0_3 hc0_3 hr0_6 hc0_6 hr0_7 hc0_7
  have HU := ZM hu6
  clear hu6
  have hu := Try.underlying30
  have HB : Aside0 (Below w.heap.size w (w.alloc (Obj.cells #[Value.int .i64 3, .int .i64 a0_1, .slice A0_2 l0_2.length c0_2, .slice A0_3 l0_3.length c0_3, .int .i64 a0_4, .int .i64 a0_5, .slice A0_6 l0_6.length c0_6, .slice A0_7 l0_7.length c0_7] 30))) := ⟨zzA (Below.refl _ _) _⟩
  rcases Bool.eq_false_or_eq_true (decide (((0 < a0_1 ∧ a0_1 ≤ 4096) ∧ 0 ≤ a0_4) ∧ (l0_7.length : Int) = a0_1)) with k | k
  · have K := ZM k
    go_enter Try.func60, Try.ntmps60
    go_wp2_with (first | (go_at_call 94; (with_reducible refine (frame_bare.s 3 a0_1 A0_2 c0_2 l0_2 A0_3 c0_3 l0_3 a0_4 a0_5 A0_6 c0_6 l0_6 A0_7 c0_7 l0_7 _ (Kd.C_below HR2.out HB.out) HC2.out (Kd.C_below HR3.out HB.out) HC3.out (Kd.C_below HR6.out HB.out) HC6.out (Kd.C_below HR7.out HB.out) HC7.out rfl).mono ?_); rintro ed W1 ⟨rfl, hb⟩; have HB1 := ZM (zzA (below_then HB.out HB.out.size hb) (Obj.cells #[.int .i64 0, .int .i64 0, .slice A0_2 l0_2.length c0_2, .slice A0_3 l0_3.length c0_3, .int .i64 0, .int .i64 a0_5, .slice A0_6 l0_6.length c0_6, .slice none 0 0] 30)); clear hb) | (go_at_call 75; (refine (frame_same.calls 0 0 A0_2 c0_2 l0_2 A0_3 c0_3 l0_3 0 a0_5 A0_6 c0_6 l0_6 none 0 [] 0 0 none 0 [] none 0 [] 0 0 none 0 [] none 0 [] _ _ (Kd.C_below HR2.out HB1.out) HC2.out (Kd.C_below HR3.out HB1.out) HC3.out (Kd.C_below HR6.out HB1.out) HC6.out (Kd.C_nil _ _) (Nat.le_refl _) (Kd.C_nil _ _) (Nat.le_refl _) (Kd.C_nil _ _) (Nat.le_refl _) (Kd.C_nil _ _) (Nat.le_refl _) (Kd.C_nil _ _) (Nat.le_refl _) rfl).mono ?_); rintro ed W2 ⟨rfl, hb⟩; have HB2 := ZM (below_then HB1.out HB1.out.size hb); clear hb))
    go_ret
    refine ⟨congrArg Ending.returned (congrArg Value.bool ?_), HB2.out⟩
    have k1 := of_decide_eq_true K.out
    rw [eq_comm, Bool.eq_iff_iff]
    simp only [decide_eq_true_eq, Bool.and_eq_true]
    refine ⟨fun h => ?_, fun h => ?_⟩
    · obtain ⟨h1, ⟨h0, h⟩ | ⟨h0, h⟩ | ⟨h0, h⟩ | ⟨h0, h⟩⟩ := h
      · exact absurd h0 (by decide)
      · exact absurd h0 (by decide)
      · exact absurd h0 (by decide)
      · exact ⟨h.2.2.1, h.1, h.2.1, h.2.2.2.1⟩
    · exact ⟨by omega, .inr (.inr (.inr ⟨rfl, h.2.1, h.2.2.1, h.1, h.2.2.2, k1.1.2, k1.2⟩))⟩
  · have K := ZM k
    go_enter Try.func60, Try.ntmps60
    go_wp2_with (first | (go_at_call 94; (with_reducible refine (frame_bare.s 3 a0_1 A0_2 c0_2 l0_2 A0_3 c0_3 l0_3 a0_4 a0_5 A0_6 c0_6 l0_6 A0_7 c0_7 l0_7 _ (Kd.C_below HR2.out HB.out) HC2.out (Kd.C_below HR3.out HB.out) HC3.out (Kd.C_below HR6.out HB.out) HC6.out (Kd.C_below HR7.out HB.out) HC7.out rfl).mono ?_); rintro ed W1 ⟨rfl, hb⟩; have HB1 := ZM (zzA (below_then HB.out HB.out.size hb) (Obj.cells #[.int .i64 0, .int .i64 0, .slice A0_2 l0_2.length c0_2, .slice A0_3 l0_3.length c0_3, .int .i64 0, .int .i64 a0_5, .slice A0_6 l0_6.length c0_6, .slice none 0 0] 30)); clear hb))
    go_ret
    refine ⟨?_, HB1.out⟩
    have k1 := of_decide_eq_false K.out
    rw [show decide (MayP 3 a0_1 l0_2 l0_3 a0_4 a0_5 l0_6 l0_7) = false from decide_eq_false (fun h => k1 ?_)]
    · rfl
    · obtain ⟨h1, ⟨h0, h⟩ | ⟨h0, h⟩ | ⟨h0, h⟩ | ⟨h0, h⟩⟩ := h
      · exact absurd h0 (by decide)
      · exact absurd h0 (by decide)
      · exact absurd h0 (by decide)
      · exact ⟨⟨by omega, h.2.2.2.2.1⟩, h.2.2.2.2.2⟩
set_option maxHeartbeats 4000000 in
set_option maxRecDepth 100000 in
theorem frame_May.x (a0_0 a0_1 : Int) (A0_2 : Option Addr) (c0_2 : Nat) (l0_2 : List Int) (A0_3 : Option Addr) (c0_3 : Nat) (l0_3 : List Int) (a0_4 a0_5 : Int) (A0_6 : Option Addr) (c0_6 : Nat) (l0_6 : List Int) (A0_7 : Option Addr) (c0_7 : Nat) (l0_7 : List Bool) (w : World) (hr0_2 : Kd.C (Kd.int .i64) w A0_2 l0_2.length l0_2) (hc0_2 : l0_2.length ≤ c0_2) (hr0_3 : Kd.C (Kd.int .i64) w A0_3 l0_3.length l0_3) (hc0_3 : l0_3.length ≤ c0_3) (hr0_6 : Kd.C (Kd.int .u64) w A0_6 l0_6.length l0_6) (hc0_6 : l0_6.length ≤ c0_6) (hr0_7 : Kd.C Kd.bool w A0_7 l0_7.length l0_7) (hc0_7 : l0_7.length ≤ c0_7) (h0 : a0_0 ≠ 0) (h1 : a0_0 ≠ 1) (h2 : a0_0 ≠ 2) (h3 : a0_0 ≠ 3) :
    Calls Try.prog 60 #[.agg #[.int .i64 a0_0, .int .i64 a0_1, .slice A0_2 l0_2.length c0_2, .slice A0_3 l0_3.length c0_3, .int .i64 a0_4, .int .i64 a0_5, .slice A0_6 l0_6.length c0_6, .slice A0_7 l0_7.length c0_7]] w fun e w' => e = .returned (.bool false) ∧ Below w.heap.size w w' := by
  have HR2 := ZM hr0_2
  have HC2 := ZM hc0_2
  have HR3 := ZM hr0_3
  have HC3 := ZM hc0_3
  have HR6 := ZM hr0_6
  have HC6 := ZM hc0_6
  have HR7 := ZM hr0_7
  have HC7 := ZM hc0_7
  clear hr0_2 hc0_2 hr0_3 hc0_3 hr0_6 hc0_6 hr0_7 hc0_7
  have hu := Try.underlying30
  have HB : Aside0 (Below w.heap.size w (w.alloc (Obj.cells #[Value.int .i64 a0_0, Value.int .i64 a0_1, Value.slice A0_2 l0_2.length c0_2, Value.slice A0_3 l0_3.length c0_3, Value.int .i64 a0_4, Value.int .i64 a0_5, Value.slice A0_6 l0_6.length c0_6, Value.slice A0_7 l0_7.length c0_7] 30))) := ⟨zzA (Below.refl _ _) _⟩
  have HN := ZM (show a0_0 ≠ 0 ∧ a0_0 ≠ 1 ∧ a0_0 ≠ 2 ∧ a0_0 ≠ 3 from ⟨h0, h1, h2, h3⟩)
  clear h0 h1 h2 h3
  go_enter Try.func60, Try.ntmps60
  go_wp2_with (go_at_call 94; (with_reducible refine (frame_bare.y a0_0 a0_1 A0_2 c0_2 l0_2 A0_3 c0_3 l0_3 a0_4 a0_5 A0_6 c0_6 l0_6 A0_7 c0_7 l0_7 _ (Kd.C_below HR2.out HB.out) HC2.out (Kd.C_below HR3.out HB.out) HC3.out (Kd.C_below HR6.out HB.out) HC6.out (Kd.C_below HR7.out HB.out) HC7.out HN.out.1 HN.out.2.1 HN.out.2.2.1 HN.out.2.2.2).mono ?_); rintro ed W1 ⟨rfl, hb⟩; have HB1 := ZM (below_then HB.out HB.out.size hb); clear hb)
  go_ret
  exact ⟨rfl, by first | exact HB1.out | exact zzA HB1.out _⟩
set_option maxHeartbeats 4000000 in
set_option maxRecDepth 100000 in
theorem frame_May.calls (a0_0 : Int) (a0_1 : Int) (A0_2 : Option Addr) (c0_2 : Nat) (l0_2 : List Int) (A0_3 : Option Addr) (c0_3 : Nat) (l0_3 : List Int) (a0_4 : Int) (a0_5 : Int) (A0_6 : Option Addr) (c0_6 : Nat) (l0_6 : List Int) (A0_7 : Option Addr) (c0_7 : Nat) (l0_7 : List Bool) (r : Bool) (w : World) (hr0_2 : Kd.C (Kd.int .i64) w A0_2 l0_2.length l0_2) (hc0_2 : l0_2.length ≤ c0_2) (hr0_3 : Kd.C (Kd.int .i64) w A0_3 l0_3.length l0_3) (hc0_3 : l0_3.length ≤ c0_3) (hr0_6 : Kd.C (Kd.int .u64) w A0_6 l0_6.length l0_6) (hc0_6 : l0_6.length ≤ c0_6) (hr0_7 : Kd.C Kd.bool w A0_7 l0_7.length l0_7) (hc0_7 : l0_7.length ≤ c0_7) (h : frame_May.f a0_0 a0_1 l0_2 l0_3 a0_4 a0_5 l0_6 l0_7 = some r) :
    Calls Try.prog 60 #[.agg #[.int .i64 a0_0, .int .i64 a0_1, .slice A0_2 l0_2.length c0_2, .slice A0_3 l0_3.length c0_3, .int .i64 a0_4, .int .i64 a0_5, .slice A0_6 l0_6.length c0_6, .slice A0_7 l0_7.length c0_7]] w fun e w' => e = .returned (.bool r) ∧ Below w.heap.size w w' := by
  unfold frame_May.f at h
  split at h
  case isFalse => cases h
  rename_i hu6
  cases h
  by_cases h0 : a0_0 = 0
  · exact frame_May.d a0_0 a0_1 A0_2 c0_2 l0_2 A0_3 c0_3 l0_3 a0_4 a0_5 A0_6 c0_6 l0_6 A0_7 c0_7 l0_7 w hr0_2 hc0_2 hr0_3 hc0_3 hr0_6 hc0_6 hr0_7 hc0_7 hu6 h0
  by_cases h1 : a0_0 = 1
  · exact frame_May.t a0_0 a0_1 A0_2 c0_2 l0_2 A0_3 c0_3 l0_3 a0_4 a0_5 A0_6 c0_6 l0_6 A0_7 c0_7 l0_7 w hr0_2 hc0_2 hr0_3 hc0_3 hr0_6 hc0_6 hr0_7 hc0_7 hu6 h1
  by_cases h2 : a0_0 = 2
  · exact frame_May.l a0_0 a0_1 A0_2 c0_2 l0_2 A0_3 c0_3 l0_3 a0_4 a0_5 A0_6 c0_6 l0_6 A0_7 c0_7 l0_7 w hr0_2 hc0_2 hr0_3 hc0_3 hr0_6 hc0_6 hr0_7 hc0_7 hu6 h2
  by_cases h3 : a0_0 = 3
  · exact frame_May.s a0_0 a0_1 A0_2 c0_2 l0_2 A0_3 c0_3 l0_3 a0_4 a0_5 A0_6 c0_6 l0_6 A0_7 c0_7 l0_7 w hr0_2 hc0_2 hr0_3 hc0_3 hr0_6 hc0_6 hr0_7 hc0_7 hu6 h3
  rw [decide_eq_false (fun hh => by obtain ⟨_, ⟨e, _⟩ | ⟨e, _⟩ | ⟨e, _⟩ | ⟨e, _⟩⟩ := hh <;> contradiction)]
  exact frame_May.x a0_0 a0_1 A0_2 c0_2 l0_2 A0_3 c0_3 l0_3 a0_4 a0_5 A0_6 c0_6 l0_6 A0_7 c0_7 l0_7 w hr0_2 hc0_2 hr0_3 hc0_3 hr0_6 hc0_6 hr0_7 hc0_7 h0 h1 h2 h3


-- NOT PRINTED: function 93 (quant_Near_1)

end Go.Proofs.Ytkfhdpnfcaghbaa.HQ
