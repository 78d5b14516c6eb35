/- What Go functions do, each as a plain Lean function with the same answers, and the proof of it, in every world: printed by the session's driver over the kit's print, with texts by hand. -/
import Derived.Test.YtkfhdpnfcaghbaaHQx0
import Derived.Test.YtkfhdpnfcaghbaaHQx2
import Derived.Test.YtkfhdpnfcaghbaaHQx7
import Derived.Test.YtkfhdpnfcaghbaaMini
namespace Go.Proofs.Ytkfhdpnfcaghbaa.HQ
open Go.RowKit Go.Proofs.YtkfhdpnfcaghbaaW.PrintWords Go.Proofs.YtkfhdpnfcaghbaaW.PrintLast Go.Proofs.YtkfhdpnfcaghbaaW.PrintMore
attribute [local go_sem] max2_int min2_int max_two min_two max_three min_three max_four min_four   -- for this text's walks alone
open Go.Proofs.Ytkfhdpnfcaghbaa.Sp
attribute [local go_sem] Go.Proofs.Ytkfhdpnfcaghbaa.Sp.u64_not
set_option linter.unusedVariables false
set_option linter.unusedSimpArgs false

/-! ### frame_same: function 75 -/
def frame_same.f (a0_0 : Int) (a0_1 : Int) (l0_2 : List Int) (l0_3 : List Int) (a0_4 : Int) (a0_5 : Int) (l0_6 : List Int) (l0_7 : List Bool) (a1_0 : Int) (a1_1 : Int) (l1_2 : List Int) (l1_3 : List Int) (a1_4 : Int) (a1_5 : Int) (l1_6 : List Int) (l1_7 : List Bool) : Option Bool := some (decide (a0_0 = a1_0 ∧ a0_1 = a1_1 ∧ a0_4 = a1_4 ∧ a0_5 = a1_5 ∧ l0_2 = l1_2 ∧ l0_3 = l1_3 ∧ l0_6 = l1_6 ∧ l0_7 = l1_7))
set_option maxHeartbeats 4000000 in
set_option maxRecDepth 100000 in
theorem frame_same.calls (a0_0 : Int) (a0_1 : Int) (A0_2 : Option Addr) (c0_2 : Nat) (l0_2 : List Int) (A0_3 : Option Addr) (c0_3 : Nat) (l0_3 : List Int) (a0_4 : Int) (a0_5 : Int) (A0_6 : Option Addr) (c0_6 : Nat) (l0_6 : List Int) (A0_7 : Option Addr) (c0_7 : Nat) (l0_7 : List Bool) (a1_0 : Int) (a1_1 : Int) (A1_2 : Option Addr) (c1_2 : Nat) (l1_2 : List Int) (A1_3 : Option Addr) (c1_3 : Nat) (l1_3 : List Int) (a1_4 : Int) (a1_5 : Int) (A1_6 : Option Addr) (c1_6 : Nat) (l1_6 : List Int) (A1_7 : Option Addr) (c1_7 : Nat) (l1_7 : List Bool) (r : Bool) (w : World) (hr0_2 : Kd.C (Kd.int .i64) w A0_2 l0_2.length l0_2) (hc0_2 : l0_2.length ≤ c0_2) (hr0_3 : Kd.C (Kd.int .i64) w A0_3 l0_3.length l0_3) (hc0_3 : l0_3.length ≤ c0_3) (hr0_6 : Kd.C (Kd.int .u64) w A0_6 l0_6.length l0_6) (hc0_6 : l0_6.length ≤ c0_6) (hr0_7 : Kd.C Kd.bool w A0_7 l0_7.length l0_7) (hc0_7 : l0_7.length ≤ c0_7) (hr1_2 : Kd.C (Kd.int .i64) w A1_2 l1_2.length l1_2) (hc1_2 : l1_2.length ≤ c1_2) (hr1_3 : Kd.C (Kd.int .i64) w A1_3 l1_3.length l1_3) (hc1_3 : l1_3.length ≤ c1_3) (hr1_6 : Kd.C (Kd.int .u64) w A1_6 l1_6.length l1_6) (hc1_6 : l1_6.length ≤ c1_6) (hr1_7 : Kd.C Kd.bool w A1_7 l1_7.length l1_7) (hc1_7 : l1_7.length ≤ c1_7) (h : frame_same.f a0_0 a0_1 l0_2 l0_3 a0_4 a0_5 l0_6 l0_7 a1_0 a1_1 l1_2 l1_3 a1_4 a1_5 l1_6 l1_7 = some r) :
    Calls Try.prog 75 #[.agg #[.int .i64 a0_0, .int .i64 a0_1, .slice A0_2 l0_2.length c0_2, .slice A0_3 l0_3.length c0_3, .int .i64 a0_4, .int .i64 a0_5, .slice A0_6 l0_6.length c0_6, .slice A0_7 l0_7.length c0_7], .agg #[.int .i64 a1_0, .int .i64 a1_1, .slice A1_2 l1_2.length c1_2, .slice A1_3 l1_3.length c1_3, .int .i64 a1_4, .int .i64 a1_5, .slice A1_6 l1_6.length c1_6, .slice A1_7 l1_7.length c1_7]] w fun e w' => e = .returned (.bool r) ∧ Below w.heap.size w w' := by
 cases h
 obtain ⟨i, hi_⟩ : ∃ i, Try.prog.info? 2 = some i := by have := info2; cases h : Try.prog.info? 2 with | none => rw [h] at this; cases this | some i => exact ⟨i, rfl⟩
 have hq := fun (a b c d a' b' c' d' : Int) (w : World) => run_eq_arr4 (P := Try.prog) (t := 127) (e := 2) (k := .i64) Try.underlying127 hi_ Try.underlying2 (by kernel_rfl) (by kernel_rfl) a b c d a' b' c' d' w
 clear hi_
 have hu := Try.underlying30
 have hu2 := Try.underlying127
 have HR0_2 := ZM hr0_2
 have HC0_2 := ZM hc0_2
 have HR0_3 := ZM hr0_3
 have HC0_3 := ZM hc0_3
 have HR0_6 := ZM hr0_6
 have HC0_6 := ZM hc0_6
 have HR0_7 := ZM hr0_7
 have HC0_7 := ZM hc0_7
 have HR1_2 := ZM hr1_2
 have HC1_2 := ZM hc1_2
 have HR1_3 := ZM hr1_3
 have HC1_3 := ZM hc1_3
 have HR1_6 := ZM hr1_6
 have HC1_6 := ZM hc1_6
 have HR1_7 := ZM hr1_7
 have HC1_7 := ZM hc1_7
 clear hr0_2 hc0_2 hr0_3 hc0_3 hr0_6 hc0_6 hr0_7 hc0_7 hr1_2 hc1_2 hr1_3 hc1_3 hr1_6 hc1_6 hr1_7 hc1_7
 have HB : Aside0 (Below w.heap.size w ((w.alloc (Obj.cells #[Value.int .i64 a0_0, Value.int .i64 a0_1, Value.slice A0_2 l0_2.length c0_2, Value.slice A0_3 l0_3.length c0_3, Value.int .i64 a0_4, Value.int .i64 a0_5, Value.slice A0_6 l0_6.length c0_6, Value.slice A0_7 l0_7.length c0_7] 30)).alloc (Obj.cells #[Value.int .i64 a1_0, Value.int .i64 a1_1, Value.slice A1_2 l1_2.length c1_2, Value.slice A1_3 l1_3.length c1_3, Value.int .i64 a1_4, Value.int .i64 a1_5, Value.slice A1_6 l1_6.length c1_6, Value.slice A1_7 l1_7.length c1_7] 30))) := ⟨zzA (zzA (Below.refl _ _) _) _⟩
 have HBD := ZM (fun n => zzN HB.out n)
 rcases Bool.eq_false_or_eq_true (a0_0 == a1_0 && (a0_1 == a1_1 && (a0_4 == a1_4 && a0_5 == a1_5))) with c0 | c0
 · have C0 := ZM c0
   rcases Bool.eq_false_or_eq_true (decide (l0_2 = l1_2)) with e2 | e2
   · have H2 : Aside0 (slices_Equal_int_int.f l0_2 l1_2 = some true) := ⟨congrArg some e2⟩
     have E2 := ZM e2
     clear e2
     rcases Bool.eq_false_or_eq_true (decide (l0_3 = l1_3)) with e3 | e3
     · have H3 : Aside0 (slices_Equal_int64_int64.f l0_3 l1_3 = some true) := ⟨congrArg some e3⟩
       have E3 := ZM e3
       clear e3
       rcases Bool.eq_false_or_eq_true (decide (l0_6 = l1_6)) with e6 | e6
       · have H6 : Aside0 (slices_Equal_uint64_uint64.f l0_6 l1_6 = some true) := ⟨congrArg some e6⟩
         have E6 := ZM e6
         clear e6
         rcases Bool.eq_false_or_eq_true (decide (l0_7 = l1_7)) with e7 | e7
         · have H7 : Aside0 (slices_Equal_bool_bool.f l0_7 l1_7 = some true) := ⟨congrArg some e7⟩
           have E7 := ZM e7
           clear e7
           go_enter Try.func75, Try.ntmps75
           go_wp2_with (first | (go_at_call 105; (with_reducible refine (slices_Equal_int_int.calls A0_2 c0_2 l0_2 A1_2 c1_2 l1_2 true _ (Kd.C_below HR0_2.out HB.out) HC0_2.out (Kd.C_below HR1_2.out HB.out) HC1_2.out H2.out).mono ?_); rintro ed W2 ⟨rfl, ⟨nd2, rfl⟩⟩) | (go_at_call 101; (with_reducible refine (slices_Equal_int64_int64.calls A0_3 c0_3 l0_3 A1_3 c1_3 l1_3 true _ (Kd.C_below HR0_3.out (HBD.out _)) HC0_3.out (Kd.C_below HR1_3.out (HBD.out _)) HC1_3.out H3.out).mono ?_); rintro ed W2 ⟨rfl, ⟨nd3, rfl⟩⟩) | (go_at_call 106; (with_reducible refine (slices_Equal_uint64_uint64.calls A0_6 c0_6 l0_6 A1_6 c1_6 l1_6 true _ (Kd.C_below HR0_6.out (HBD.out _)) HC0_6.out (Kd.C_below HR1_6.out (HBD.out _)) HC1_6.out H6.out).mono ?_); rintro ed W2 ⟨rfl, ⟨nd6, rfl⟩⟩) | (go_at_call 77; (with_reducible refine (slices_Equal_bool_bool.calls A0_7 c0_7 l0_7 A1_7 c1_7 l1_7 true _ (Kd.C_below HR0_7.out (HBD.out _)) HC0_7.out (Kd.C_below HR1_7.out (HBD.out _)) HC1_7.out H7.out).mono ?_); rintro ed W2 ⟨rfl, ⟨nd7, rfl⟩⟩))
           go_ret
           refine ⟨?_, by first | exact HB.out | exact HBD.out _⟩
           have hq0 := C0.out
           have hE2 := of_decide_eq_true E2.out
           have hE3 := of_decide_eq_true E3.out
           have hE6 := of_decide_eq_true E6.out
           have hE7 := of_decide_eq_true E7.out
           simp only [Bool.and_eq_true, Bool.and_eq_false_iff, beq_iff_eq, beq_eq_false_iff_ne] at hq0
           rw [decide_eq_true (show _ ∧ _ from ⟨hq0.1, hq0.2.1, hq0.2.2.1, hq0.2.2.2, hE2, hE3, hE6, hE7⟩)]
           rfl
         · have H7 : Aside0 (slices_Equal_bool_bool.f l0_7 l1_7 = some false) := ⟨congrArg some e7⟩
           have E7 := ZM e7
           clear e7
           go_enter Try.func75, Try.ntmps75
           go_wp2_with (first | (go_at_call 105; (with_reducible refine (slices_Equal_int_int.calls A0_2 c0_2 l0_2 A1_2 c1_2 l1_2 true _ (Kd.C_below HR0_2.out HB.out) HC0_2.out (Kd.C_below HR1_2.out HB.out) HC1_2.out H2.out).mono ?_); rintro ed W2 ⟨rfl, ⟨nd2, rfl⟩⟩) | (go_at_call 101; (with_reducible refine (slices_Equal_int64_int64.calls A0_3 c0_3 l0_3 A1_3 c1_3 l1_3 true _ (Kd.C_below HR0_3.out (HBD.out _)) HC0_3.out (Kd.C_below HR1_3.out (HBD.out _)) HC1_3.out H3.out).mono ?_); rintro ed W2 ⟨rfl, ⟨nd3, rfl⟩⟩) | (go_at_call 106; (with_reducible refine (slices_Equal_uint64_uint64.calls A0_6 c0_6 l0_6 A1_6 c1_6 l1_6 true _ (Kd.C_below HR0_6.out (HBD.out _)) HC0_6.out (Kd.C_below HR1_6.out (HBD.out _)) HC1_6.out H6.out).mono ?_); rintro ed W2 ⟨rfl, ⟨nd6, rfl⟩⟩) | (go_at_call 77; (with_reducible refine (slices_Equal_bool_bool.calls A0_7 c0_7 l0_7 A1_7 c1_7 l1_7 false _ (Kd.C_below HR0_7.out (HBD.out _)) HC0_7.out (Kd.C_below HR1_7.out (HBD.out _)) HC1_7.out H7.out).mono ?_); rintro ed W2 ⟨rfl, ⟨nd7, rfl⟩⟩))
           go_ret
           refine ⟨?_, by first | exact HB.out | exact HBD.out _⟩
           have hq0 := C0.out
           have hE2 := of_decide_eq_true E2.out
           have hE3 := of_decide_eq_true E3.out
           have hE6 := of_decide_eq_true E6.out
           have hE7 := of_decide_eq_false E7.out
           simp only [Bool.and_eq_true, Bool.and_eq_false_iff, beq_iff_eq, beq_eq_false_iff_ne] at hq0
           rw [decide_eq_false (fun hh => hE7 hh.2.2.2.2.2.2.2)]
           rfl
       · have H6 : Aside0 (slices_Equal_uint64_uint64.f l0_6 l1_6 = some false) := ⟨congrArg some e6⟩
         have E6 := ZM e6
         clear e6
         go_enter Try.func75, Try.ntmps75
         go_wp2_with (first | (go_at_call 105; (with_reducible refine (slices_Equal_int_int.calls A0_2 c0_2 l0_2 A1_2 c1_2 l1_2 true _ (Kd.C_below HR0_2.out HB.out) HC0_2.out (Kd.C_below HR1_2.out HB.out) HC1_2.out H2.out).mono ?_); rintro ed W2 ⟨rfl, ⟨nd2, rfl⟩⟩) | (go_at_call 101; (with_reducible refine (slices_Equal_int64_int64.calls A0_3 c0_3 l0_3 A1_3 c1_3 l1_3 true _ (Kd.C_below HR0_3.out (HBD.out _)) HC0_3.out (Kd.C_below HR1_3.out (HBD.out _)) HC1_3.out H3.out).mono ?_); rintro ed W2 ⟨rfl, ⟨nd3, rfl⟩⟩) | (go_at_call 106; (with_reducible refine (slices_Equal_uint64_uint64.calls A0_6 c0_6 l0_6 A1_6 c1_6 l1_6 false _ (Kd.C_below HR0_6.out (HBD.out _)) HC0_6.out (Kd.C_below HR1_6.out (HBD.out _)) HC1_6.out H6.out).mono ?_); rintro ed W2 ⟨rfl, ⟨nd6, rfl⟩⟩))
         go_ret
         refine ⟨?_, by first | exact HB.out | exact HBD.out _⟩
         have hq0 := C0.out
         have hE2 := of_decide_eq_true E2.out
         have hE3 := of_decide_eq_true E3.out
         have hE6 := of_decide_eq_false E6.out
         simp only [Bool.and_eq_true, Bool.and_eq_false_iff, beq_iff_eq, beq_eq_false_iff_ne] at hq0
         rw [decide_eq_false (fun hh => hE6 hh.2.2.2.2.2.2.1)]
         rfl
     · have H3 : Aside0 (slices_Equal_int64_int64.f l0_3 l1_3 = some false) := ⟨congrArg some e3⟩
       have E3 := ZM e3
       clear e3
       go_enter Try.func75, Try.ntmps75
       go_wp2_with (first | (go_at_call 105; (with_reducible refine (slices_Equal_int_int.calls A0_2 c0_2 l0_2 A1_2 c1_2 l1_2 true _ (Kd.C_below HR0_2.out HB.out) HC0_2.out (Kd.C_below HR1_2.out HB.out) HC1_2.out H2.out).mono ?_); rintro ed W2 ⟨rfl, ⟨nd2, rfl⟩⟩) | (go_at_call 101; (with_reducible refine (slices_Equal_int64_int64.calls A0_3 c0_3 l0_3 A1_3 c1_3 l1_3 false _ (Kd.C_below HR0_3.out (HBD.out _)) HC0_3.out (Kd.C_below HR1_3.out (HBD.out _)) HC1_3.out H3.out).mono ?_); rintro ed W2 ⟨rfl, ⟨nd3, rfl⟩⟩))
       go_ret
       refine ⟨?_, by first | exact HB.out | exact HBD.out _⟩
       have hq0 := C0.out
       have hE2 := of_decide_eq_true E2.out
       have hE3 := of_decide_eq_false E3.out
       simp only [Bool.and_eq_true, Bool.and_eq_false_iff, beq_iff_eq, beq_eq_false_iff_ne] at hq0
       rw [decide_eq_false (fun hh => hE3 hh.2.2.2.2.2.1)]
       rfl
   · have H2 : Aside0 (slices_Equal_int_int.f l0_2 l1_2 = some false) := ⟨congrArg some e2⟩
     have E2 := ZM e2
     clear e2
     go_enter Try.func75, Try.ntmps75
     go_wp2_with (first | (go_at_call 105; (with_reducible refine (slices_Equal_int_int.calls A0_2 c0_2 l0_2 A1_2 c1_2 l1_2 false _ (Kd.C_below HR0_2.out HB.out) HC0_2.out (Kd.C_below HR1_2.out HB.out) HC1_2.out H2.out).mono ?_); rintro ed W2 ⟨rfl, ⟨nd2, rfl⟩⟩))
     go_ret
     refine ⟨?_, by first | exact HB.out | exact HBD.out _⟩
     have hq0 := C0.out
     have hE2 := of_decide_eq_false E2.out
     simp only [Bool.and_eq_true, Bool.and_eq_false_iff, beq_iff_eq, beq_eq_false_iff_ne] at hq0
     rw [decide_eq_false (fun hh => hE2 hh.2.2.2.2.1)]
     rfl
 · have C0 := ZM c0
   go_enter Try.func75, Try.ntmps75
   go_wp2
   go_ret
   refine ⟨?_, by first | exact HB.out | exact HBD.out _⟩
   have hq0 := C0.out
   simp only [Bool.and_eq_true, Bool.and_eq_false_iff, beq_iff_eq, beq_eq_false_iff_ne] at hq0
   rw [decide_eq_false (fun hh => by omega)]
   rfl
/-! ### index_measure: function 124 -/
def index_measure.f (a0 : Int) : Option (Bool) := if a0 > 0 then (some (decide (a0 ≤ 4096))) else (some false)
set_option maxHeartbeats 8000000 in
set_option maxRecDepth 100000 in
theorem index_measure.calls (a0 : Int) (r : Bool) (w : World) (h : index_measure.f a0 = some r) :
  Calls Try.prog 124 #[.int .i64 a0] w fun e w' => e = .returned (.bool r) ∧ Drawn0 w w' := by
 have H : (if a0 > 0 then (some (decide (a0 ≤ 4096))) else (some false)) = some r := h
 clear h
 by_cases c2 : a0 > 0
 case neg =>
  rw [if_neg c2] at H
  have c2b0 : decide (0 < a0) = false := decide_eq_false c2
  clear c2
  obtain rfl := Option.some.inj H
  go_enter Try.func124, Try.ntmps124
  go_wp2
  go_ret
  exact ⟨by first | rfl | (simp; done) | (simp [*]; done), by repeat (first | exact ddR _ | apply ddS)⟩
 rw [if_pos c2] at H
 have c2b0 : decide (0 < a0) = true := decide_eq_true c2
 clear c2
 obtain rfl := Option.some.inj H
 go_enter Try.func124, Try.ntmps124
 go_wp2
 go_ret
 exact ⟨by first | rfl | (simp; done) | (simp [*]; done), by repeat (first | exact ddR _ | apply ddS)⟩
/-! ### index_risesP: function 125 -/
def index_risesP.l0 : Nat → List Int → Int → Option (Bool)
 | 0, _, _ => none
 | k + 1, x0, x3 => if x3 < (x0.length : Int) then (if 0 ≤ (wrap64 (x3 - 1)) then (if (wrap64 (x3 - 1)) < (x0.length : Int) then (if 0 ≤ x3 then (if (rd x0 (wrap64 (x3 - 1))) ≥ (rd x0 x3) then (some false) else (index_risesP.l0 k x0 (wrap64 (x3 + 1)))) else (none)) else (none)) else (none)) else (some true)
def index_risesP.f (k : Nat) (l0 : List Int) : Option (Bool) := index_risesP.l0 k l0 1
theorem index_risesP.mono_l : ∀ k, (∀ y0 y1, LeO (index_risesP.l0 k y0 y1) (index_risesP.l0 (k + 1) y0 y1))
 | 0 => fun _ _ r h => by simp [index_risesP.l0] at h
 | k + 1 => by
  have ih0 := index_risesP.mono_l k
  ·
   intro y0 y1
   unfold index_risesP.l0
   repeat' first
   | (with_reducible exact ih0 _ _)
   | (with_reducible exact LeO.refl _)
   | (with_reducible exact LeO.none _)
   | (with_reducible refine LeO.ite ?_ ?_)
   | (with_reducible refine LeO.bind ?_ (fun _ => ?_))
theorem index_risesP.mono : ∀ a0 k, LeO (index_risesP.f k a0) (index_risesP.f (k + 1) a0) := by
 intro a0 k
 have ih0 := index_risesP.mono_l k
 unfold index_risesP.f
 repeat' first
   | (with_reducible exact ih0 _ _)
   | (with_reducible exact LeO.refl _)
   | (with_reducible exact LeO.none _)
   | (with_reducible refine LeO.ite ?_ ?_)
   | (with_reducible refine LeO.bind ?_ (fun _ => ?_))
set_option maxHeartbeats 8000000 in
set_option maxRecDepth 100000 in
theorem index_risesP.calls (k : Nat) (A0 : Option Addr) (c0 : Nat) (l0 : List Int) (r : Bool) (w : World) (hr0 : Kd.C (Kd.int .i64) w A0 l0.length l0) (hc0 : l0.length ≤ c0) (h : index_risesP.f k l0 = some r) :
  Calls Try.prog 125 #[.slice A0 l0.length c0] w fun e w' => e = .returned (.bool r) ∧ Drawn0 w w' := by
 have HR0 := ZM hr0
 have HC0 := ZM hc0
 clear hr0 hc0
 have H : (index_risesP.l0 k l0 1) = some r := h
 clear h
 have H' := ZM H
 clear H
 go_enter Try.func125, Try.ntmps125
 go_wp2
 repeat (go_quiet (fail); try go_wp2)
 go_loopg [3] k (fun kq v3 w' => ∃ (x3_1 : Int), v3 = .int .i64 x3_1 ∧ Aside0 (index_risesP.l0 kq l0 x3_1 = some r) ∧ Aside0 (kq ≤ k) ∧ Drawn0 w w')
 case atStart => exact ⟨(1), Z5, H', ⟨Nat.le_refl _⟩, by repeat (first | exact ddR _ | apply ddS)⟩
 case round =>
  clear H'
  obtain ⟨x3_1, rfl, HA, HK1, ⟨m1, rfl⟩⟩ := hrel
  cases gk with
  | zero => exact absurd HA.out (by simp [index_risesP.l0])
  | succ k1 =>
   have H := HA.out
   clear HA
   simp only [index_risesP.l0] at H
   by_cases c2 : x3_1 < (l0.length : Int)
   case neg =>
    rw [if_neg c2] at H
    have c2b0 : decide (x3_1 < (l0.length : Int)) = false := decide_eq_false c2
    clear c2
    obtain rfl := Option.some.inj H
    go_wp2
    repeat (go_quiet (fail); try go_wp2)
    go_ret
    exact ⟨by first | rfl | (simp; done) | (simp [*]; done), by repeat (first | exact ddR _ | apply ddS)⟩
   rw [if_pos c2] at H
   have c2b0 : decide (x3_1 < (l0.length : Int)) = true := decide_eq_true c2
   clear c2
   obtain ⟨ji3, hji3⟩ : ∃ j_ : Int, (wrap64 (x3_1 - 1)) = j_ := ⟨_, rfl⟩
   replace H : (if 0 ≤ (ji3) then (if (ji3) < (l0.length : Int) then (if 0 ≤ x3_1 then (if (rd l0 (ji3)) ≥ (rd l0 x3_1) then (some false) else (index_risesP.l0 k1 l0 (wrap64 (x3_1 + 1)))) else (none)) else (none)) else (none)) = some r := by first | (rw [hji3] at H; exact H) | (simp only [hji3] at H ⊢; exact H)
   have hji3w : (IntKind.i64.wrap (x3_1 - 1)) = ji3 := (i64_w _).trans hji3
   by_cases c4 : 0 ≤ (ji3)
   case neg =>
    rw [if_neg c4] at H
    exact absurd H (by simp)
   rw [if_pos c4] at H
   have c4b0 : decide (0 ≤ (ji3)) = true := decide_eq_true c4
   clear c4
   by_cases c5 : (ji3) < (l0.length : Int)
   case neg =>
    rw [if_neg c5] at H
    exact absurd H (by simp)
   rw [if_pos c5] at H
   have c5b0 : decide ((ji3) < (l0.length : Int)) = true := decide_eq_true c5
   clear c5
   by_cases c6 : 0 ≤ x3_1
   case neg =>
    rw [if_neg c6] at H
    exact absurd H (by simp)
   rw [if_pos c6] at H
   have c6b0 : decide (0 ≤ x3_1) = true := decide_eq_true c6
   clear c6
   by_cases c7 : (rd l0 (ji3)) ≥ (rd l0 x3_1)
   ·
    rw [if_pos c7] at H
    have c7b0 : decide ((rd l0 x3_1) ≤ (rd l0 (ji3))) = true := decide_eq_true c7
    clear c7
    obtain rfl := Option.some.inj H
    have p179 : 0 ≤ ((ji3) : Int) := of_decide_eq_true Z2
    have q179 : (ji3) < (l0.length : Int) := of_decide_eq_true Z2
    obtain ⟨ad179, e179, hx179_0⟩ := Kd.at_int HR0.out (ji3) p179 q179
    cases e179
    replace p179 := eq_true p179
    replace q179 := eq_true q179
    have p180 : 0 ≤ (x3_1 : Int) := of_decide_eq_true Z2
    have q180 : x3_1 < (l0.length : Int) := of_decide_eq_true Z2
    obtain ⟨ad180, e180, hx180_0⟩ := Kd.at_int HR0.out x3_1 p180 q180
    obtain rfl : ad179 = ad180 := (by injection e180)
    replace p180 := eq_true p180
    replace q180 := eq_true q180
    go_wp2
    repeat (go_quiet (fail); try go_wp2)
    go_ret
    exact ⟨by first | rfl | (simp; done) | (simp only [← hji3] <;> (first | rfl | simp)) | (simp [*]; done), by repeat (first | exact ddR _ | apply ddS)⟩
   rw [if_neg c7] at H
   have c7b0 : decide ((rd l0 x3_1) ≤ (rd l0 (ji3))) = false := decide_eq_false c7
   clear c7
   have H' := ZM H
   clear H
   have p179 : 0 ≤ ((ji3) : Int) := of_decide_eq_true Z2
   have q179 : (ji3) < (l0.length : Int) := of_decide_eq_true Z2
   obtain ⟨ad179, e179, hx179_0⟩ := Kd.at_int HR0.out (ji3) p179 q179
   cases e179
   replace p179 := eq_true p179
   replace q179 := eq_true q179
   have p180 : 0 ≤ (x3_1 : Int) := of_decide_eq_true Z2
   have q180 : x3_1 < (l0.length : Int) := of_decide_eq_true Z2
   obtain ⟨ad180, e180, hx180_0⟩ := Kd.at_int HR0.out x3_1 p180 q180
   obtain rfl : ad179 = ad180 := (by injection e180)
   replace p180 := eq_true p180
   replace q180 := eq_true q180
   go_wp2
   repeat (go_quiet (fail); try go_wp2)
   go_roundg k1
   case measure => have := HK1.out; omega
   case rel => exact ⟨(wrap64 (x3_1 + 1)), Z5, H', ⟨by have := HK1.out; omega⟩, by repeat (first | exact ddR _ | apply ddS)⟩
theorem index_risesP.loop (x0 : List Int) (hb : x0.length ≤ 9223372036854775807) : ∀ (d i : Nat), x0.length ≤ d + i + 1 →
    index_risesP.l0 (d + 1) x0 ((i : Int) + 1) = some (risesB (x0.drop i)) := by
  intro d
  induction d with
  | zero =>
    intro i hd
    rw [index_risesP.l0, if_neg (by omega), risesB_short (by simp; omega)]
  | succ d ih =>
    intro i hd
    rw [index_risesP.l0]
    by_cases c : ((i : Int) + 1) < (x0.length : Int)
    · have hi : i < x0.length := by omega
      have hi1 : i + 1 < x0.length := by omega
      rw [if_pos c, show wrap64 ((i : Int) + 1 - 1) = (i : Int) by rw [wrap64_of (by unfold I64; omega)]; omega, if_pos (by omega), if_pos (by omega), if_pos (by omega), show rd x0 (i : Int) = x0[i] from rd_nat hi, show rd x0 ((i : Int) + 1) = x0[i + 1] from by rw [show (i : Int) + 1 = ((i + 1 : Nat) : Int) by omega]; exact rd_nat hi1, List.drop_eq_getElem_cons hi, List.drop_eq_getElem_cons hi1]
      simp only [risesB]
      by_cases c2 : x0[i] < x0[i + 1]
      · rw [if_neg (by omega), wrap64_of (by unfold I64; omega), show (i : Int) + 1 + 1 = ((i + 1 : Nat) : Int) + 1 by omega, ih (i + 1) (by omega), List.drop_eq_getElem_cons hi1]
        simp [c2]
      · rw [if_pos (by omega)]; simp [c2]
    · rw [if_neg c, risesB_short (by simp; omega)]
def index_rises.f (l0 : List Int) : Option Bool := some (risesB l0)
theorem index_rises.calls (A0 : Option Addr) (c0 : Nat) (l0 : List Int) (r : Bool) (w : World) (hr0 : Kd.C (Kd.int .i64) w A0 l0.length l0) (hc0 : l0.length ≤ c0) (h : index_rises.f l0 = some r) :
    Calls Try.prog 125 #[.slice A0 l0.length c0] w fun e w' => e = .returned (.bool r) ∧ Drawn0 w w' := by
  refine index_risesP.calls (l0.length + 1) A0 c0 l0 r w hr0 hc0 (Eq.trans ?_ h)
  have hm := Kd.C_max hr0
  unfold index_risesP.f index_rises.f
  exact (index_risesP.loop l0 hm l0.length 0 (by omega)).trans (by simp)


/-! ### index_CheckP: function 114 -/
def index_CheckP.f (a0 : Int) (l1 : List Int) : Option (Int) := (index_measure.f a0).bind fun t181 => (if t181 = true then ((index_rises.f l1).bind fun t182 => (if t182 = true then (if (l1.length : Int) > 0 then (if 0 < (l1.length : Int) then (if (rd l1 0) < 0 then (some 1) else (if 0 ≤ (wrap64 ((l1.length : Int) - 1)) then (if (wrap64 ((l1.length : Int) - 1)) < (l1.length : Int) then (if (rd l1 (wrap64 ((l1.length : Int) - 1))) ≥ a0 then (some 1) else (some 0)) else (none)) else (none))) else (none)) else (some 0)) else (some 1))) else (some 1))
set_option maxHeartbeats 8000000 in
set_option maxRecDepth 100000 in
theorem index_CheckP.calls (a0 : Int) (A1 : Option Addr) (c1 : Nat) (l1 : List Int) (r : Int) (w : World) (hr1 : Kd.C (Kd.int .i64) w A1 l1.length l1) (hc1 : l1.length ≤ c1) (h : index_CheckP.f a0 l1 = some r) :
  Calls Try.prog 114 #[.int .i64 a0, .slice A1 l1.length c1] w fun e w' => e = .returned (.int .i64 r) ∧ Drawn0 w w' := by
 have HR1 := ZM hr1
 have HC1 := ZM hc1
 clear hr1 hc1
 have H : ((index_measure.f a0).bind fun t181 => (if t181 = true then ((index_rises.f l1).bind fun t182 => (if t182 = true then (if (l1.length : Int) > 0 then (if 0 < (l1.length : Int) then (if (rd l1 0) < 0 then (some 1) else (if 0 ≤ (wrap64 ((l1.length : Int) - 1)) then (if (wrap64 ((l1.length : Int) - 1)) < (l1.length : Int) then (if (rd l1 (wrap64 ((l1.length : Int) - 1))) ≥ a0 then (some 1) else (some 0)) else (none)) else (none))) else (none)) else (some 0)) else (some 1))) else (some 1))) = some r := h
 clear h
 replace H := Option.bind_eq_some_iff.mp H
 obtain ⟨t181, A30, H⟩ := H
 replace H : (if t181 = true then ((index_rises.f l1).bind fun t182 => (if t182 = true then (if (l1.length : Int) > 0 then (if 0 < (l1.length : Int) then (if (rd l1 0) < 0 then (some 1) else (if 0 ≤ (wrap64 ((l1.length : Int) - 1)) then (if (wrap64 ((l1.length : Int) - 1)) < (l1.length : Int) then (if (rd l1 (wrap64 ((l1.length : Int) - 1))) ≥ a0 then (some 1) else (some 0)) else (none)) else (none))) else (none)) else (some 0)) else (some 1))) else (some 1)) = some r := H
 have A3 := ZM A30
 clear A30
 by_cases c4 : t181 = true
 case neg =>
  replace c4 := Bool.eq_false_iff.mpr c4
  subst c4
  have H1 : (some 1) = some r := by rw [if_neg (show ¬ (false = true) by decide)] at H; exact H
  clear H
  have H := H1
  clear H1
  obtain rfl := Option.some.inj H
  go_enter Try.func114, Try.ntmps114
  go_wp2_with (first | ((with_reducible refine gate_callee (f := 124) rfl ?_); refine goesL_ (some 9) rfl rfl Try.func124 (by kernel_rfl) rfl #[.int .i64 a0] rfl Z1 ?_; (with_reducible refine (index_measure.calls a0 false _ A3.out).mono ?_); rintro e w' ⟨rfl, ⟨nd, rfl⟩⟩; refine ⟨_, rfl, ?_⟩))
  go_ret
  exact ⟨by first | rfl | (simp; done) | (simp [*]; done), by repeat (first | exact ddR _ | apply ddS)⟩
 subst c4
 have H1 : ((index_rises.f l1).bind fun t182 => (if t182 = true then (if (l1.length : Int) > 0 then (if 0 < (l1.length : Int) then (if (rd l1 0) < 0 then (some 1) else (if 0 ≤ (wrap64 ((l1.length : Int) - 1)) then (if (wrap64 ((l1.length : Int) - 1)) < (l1.length : Int) then (if (rd l1 (wrap64 ((l1.length : Int) - 1))) ≥ a0 then (some 1) else (some 0)) else (none)) else (none))) else (none)) else (some 0)) else (some 1))) = some r := by rw [if_pos rfl] at H; exact H
 clear H
 have H := H1
 clear H1
 replace H := Option.bind_eq_some_iff.mp H
 obtain ⟨t182, A50, H⟩ := H
 replace H : (if t182 = true then (if (l1.length : Int) > 0 then (if 0 < (l1.length : Int) then (if (rd l1 0) < 0 then (some 1) else (if 0 ≤ (wrap64 ((l1.length : Int) - 1)) then (if (wrap64 ((l1.length : Int) - 1)) < (l1.length : Int) then (if (rd l1 (wrap64 ((l1.length : Int) - 1))) ≥ a0 then (some 1) else (some 0)) else (none)) else (none))) else (none)) else (some 0)) else (some 1)) = some r := H
 have A5 := ZM A50
 clear A50
 by_cases c6 : t182 = true
 case neg =>
  replace c6 := Bool.eq_false_iff.mpr c6
  subst c6
  have H1 : (some 1) = some r := by rw [if_neg (show ¬ (false = true) by decide)] at H; exact H
  clear H
  have H := H1
  clear H1
  obtain rfl := Option.some.inj H
  go_enter Try.func114, Try.ntmps114
  go_wp2_with (first | ((with_reducible refine gate_callee (f := 124) rfl ?_); refine goesL_ (some 9) rfl rfl Try.func124 (by kernel_rfl) rfl #[.int .i64 a0] rfl Z1 ?_; (with_reducible refine (index_measure.calls a0 true _ A3.out).mono ?_); rintro e w' ⟨rfl, ⟨nd, rfl⟩⟩; refine ⟨_, rfl, ?_⟩) | (go_at_call 125; (with_reducible refine (index_rises.calls _ _ l1 false _ ?side1 ?side2 A5.out).mono ?_); (case side1 => exact Z32); (case side2 => exact HC1.out); rintro e w' ⟨rfl, ⟨nd, rfl⟩⟩))
  go_ret
  exact ⟨by first | rfl | (simp; done) | (simp [*]; done), by repeat (first | exact ddR _ | apply ddS)⟩
 subst c6
 have H1 : (if (l1.length : Int) > 0 then (if 0 < (l1.length : Int) then (if (rd l1 0) < 0 then (some 1) else (if 0 ≤ (wrap64 ((l1.length : Int) - 1)) then (if (wrap64 ((l1.length : Int) - 1)) < (l1.length : Int) then (if (rd l1 (wrap64 ((l1.length : Int) - 1))) ≥ a0 then (some 1) else (some 0)) else (none)) else (none))) else (none)) else (some 0)) = some r := by rw [if_pos rfl] at H; exact H
 clear H
 have H := H1
 clear H1
 by_cases c7 : (l1.length : Int) > 0
 case neg =>
  rw [if_neg c7] at H
  have c7b0 : decide (0 < (l1.length : Int)) = false := decide_eq_false c7
  have c7b1 : decide (0 < l1.length) = false := decide_eq_false (by omega)
  clear c7
  obtain rfl := Option.some.inj H
  go_enter Try.func114, Try.ntmps114
  go_wp2_with (first | ((with_reducible refine gate_callee (f := 124) rfl ?_); refine goesL_ (some 9) rfl rfl Try.func124 (by kernel_rfl) rfl #[.int .i64 a0] rfl Z1 ?_; (with_reducible refine (index_measure.calls a0 true _ A3.out).mono ?_); rintro e w' ⟨rfl, ⟨nd, rfl⟩⟩; refine ⟨_, rfl, ?_⟩) | (go_at_call 125; (with_reducible refine (index_rises.calls _ _ l1 true _ ?side1 ?side2 A5.out).mono ?_); (case side1 => exact Z32); (case side2 => exact HC1.out); rintro e w' ⟨rfl, ⟨nd, rfl⟩⟩))
  go_ret
  exact ⟨by first | rfl | (simp; done) | (simp [*]; done), by repeat (first | exact ddR _ | apply ddS)⟩
 rw [if_pos c7] at H
 have c7b0 : decide (0 < (l1.length : Int)) = true := decide_eq_true c7
 have c7b1 : decide (0 < l1.length) = true := decide_eq_true (by omega)
 clear c7
 by_cases c8 : 0 < (l1.length : Int)
 case neg =>
  rw [if_neg c8] at H
  exact absurd H (by simp)
 rw [if_pos c8] at H
 have c8b0 : decide (0 < (l1.length : Int)) = true := decide_eq_true c8
 have c8b1 : decide (0 < l1.length) = true := decide_eq_true (by omega)
 clear c8
 by_cases c9 : (rd l1 0) < 0
 ·
  rw [if_pos c9] at H
  have c9b0 : decide ((rd l1 0) < 0) = true := decide_eq_true c9
  clear c9
  obtain rfl := Option.some.inj H
  go_enter Try.func114, Try.ntmps114
  go_wp2_with (first | ((with_reducible refine gate_callee (f := 124) rfl ?_); refine goesL_ (some 9) rfl rfl Try.func124 (by kernel_rfl) rfl #[.int .i64 a0] rfl Z1 ?_; (with_reducible refine (index_measure.calls a0 true _ A3.out).mono ?_); rintro e w' ⟨rfl, ⟨nd, rfl⟩⟩; refine ⟨_, rfl, ?_⟩) | (go_at_call 125; (with_reducible refine (index_rises.calls _ _ l1 true _ ?side1 ?side2 A5.out).mono ?_); (case side1 => exact Z32); (case side2 => exact HC1.out); rintro e w' ⟨rfl, ⟨nd, rfl⟩⟩; have p183 : 0 ≤ (0 : Int) := (by omega); have q183 : 0 < (l1.length : Int) := of_decide_eq_true Z2; obtain ⟨ad183, e183, hx183_0⟩ := Kd.at_int HR1.out 0 p183 q183; cases e183; have qi183 : (0 < l1.length) = True := eq_true (by omega); (try rw [show ((0 : Int)).toNat = 0 from rfl] at hx183_0); (try rw [Addr.add_zero'] at hx183_0); replace p183 := eq_true p183; replace q183 := eq_true q183))
  go_ret
  exact ⟨by first | rfl | (simp; done) | (simp [*]; done), by repeat (first | exact ddR _ | apply ddS)⟩
 rw [if_neg c9] at H
 have c9b0 : decide ((rd l1 0) < 0) = false := decide_eq_false c9
 clear c9
 obtain ⟨ji10, hji10⟩ : ∃ j_ : Int, (wrap64 ((l1.length : Int) - 1)) = j_ := ⟨_, rfl⟩
 replace H : (if 0 ≤ (ji10) then (if (ji10) < (l1.length : Int) then (if (rd l1 (ji10)) ≥ a0 then (some 1) else (some 0)) else (none)) else (none)) = some r := by first | (rw [hji10] at H; exact H) | (simp only [hji10] at H ⊢; exact H)
 (try rw [hji10] at A3)
 (try rw [hji10] at A5)
 have hji10w : (IntKind.i64.wrap ((l1.length : Int) - 1)) = ji10 := (i64_w _).trans hji10
 by_cases c11 : 0 ≤ (ji10)
 case neg =>
  rw [if_neg c11] at H
  exact absurd H (by simp)
 rw [if_pos c11] at H
 have c11b0 : decide (0 ≤ (ji10)) = true := decide_eq_true c11
 clear c11
 by_cases c12 : (ji10) < (l1.length : Int)
 case neg =>
  rw [if_neg c12] at H
  exact absurd H (by simp)
 rw [if_pos c12] at H
 have c12b0 : decide ((ji10) < (l1.length : Int)) = true := decide_eq_true c12
 clear c12
 by_cases c13 : (rd l1 (ji10)) ≥ a0
 case neg =>
  rw [if_neg c13] at H
  have c13b0 : decide (a0 ≤ (rd l1 (ji10))) = false := decide_eq_false c13
  clear c13
  obtain rfl := Option.some.inj H
  go_enter Try.func114, Try.ntmps114
  go_wp2_with (first | ((with_reducible refine gate_callee (f := 124) rfl ?_); refine goesL_ (some 9) rfl rfl Try.func124 (by kernel_rfl) rfl #[.int .i64 a0] rfl Z1 ?_; (with_reducible refine (index_measure.calls a0 true _ A3.out).mono ?_); rintro e w' ⟨rfl, ⟨nd, rfl⟩⟩; refine ⟨_, rfl, ?_⟩) | (go_at_call 125; (with_reducible refine (index_rises.calls _ _ l1 true _ ?side1 ?side2 A5.out).mono ?_); (case side1 => exact Z32); (case side2 => exact HC1.out); rintro e w' ⟨rfl, ⟨nd, rfl⟩⟩; have p183 : 0 ≤ (0 : Int) := (by omega); have q183 : 0 < (l1.length : Int) := of_decide_eq_true Z2; obtain ⟨ad183, e183, hx183_0⟩ := Kd.at_int HR1.out 0 p183 q183; cases e183; have qi183 : (0 < l1.length) = True := eq_true (by omega); (try rw [show ((0 : Int)).toNat = 0 from rfl] at hx183_0); (try rw [Addr.add_zero'] at hx183_0); replace p183 := eq_true p183; replace q183 := eq_true q183; have p184 : 0 ≤ ((ji10) : Int) := of_decide_eq_true Z2; have q184 : (ji10) < (l1.length : Int) := of_decide_eq_true Z2; obtain ⟨ad184, e184, hx184_0⟩ := Kd.at_int HR1.out (ji10) p184 q184; obtain rfl : ad183 = ad184 := (by injection e184); replace p184 := eq_true p184; replace q184 := eq_true q184))
  go_ret
  exact ⟨by first | rfl | (simp; done) | (simp only [← hji10] <;> (first | rfl | simp)) | (simp [*]; done), by repeat (first | exact ddR _ | apply ddS)⟩
 rw [if_pos c13] at H
 have c13b0 : decide (a0 ≤ (rd l1 (ji10))) = true := decide_eq_true c13
 clear c13
 obtain rfl := Option.some.inj H
 go_enter Try.func114, Try.ntmps114
 go_wp2_with (first | ((with_reducible refine gate_callee (f := 124) rfl ?_); refine goesL_ (some 9) rfl rfl Try.func124 (by kernel_rfl) rfl #[.int .i64 a0] rfl Z1 ?_; (with_reducible refine (index_measure.calls a0 true _ A3.out).mono ?_); rintro e w' ⟨rfl, ⟨nd, rfl⟩⟩; refine ⟨_, rfl, ?_⟩) | (go_at_call 125; (with_reducible refine (index_rises.calls _ _ l1 true _ ?side1 ?side2 A5.out).mono ?_); (case side1 => exact Z32); (case side2 => exact HC1.out); rintro e w' ⟨rfl, ⟨nd, rfl⟩⟩; have p183 : 0 ≤ (0 : Int) := (by omega); have q183 : 0 < (l1.length : Int) := of_decide_eq_true Z2; obtain ⟨ad183, e183, hx183_0⟩ := Kd.at_int HR1.out 0 p183 q183; cases e183; have qi183 : (0 < l1.length) = True := eq_true (by omega); (try rw [show ((0 : Int)).toNat = 0 from rfl] at hx183_0); (try rw [Addr.add_zero'] at hx183_0); replace p183 := eq_true p183; replace q183 := eq_true q183; have p184 : 0 ≤ ((ji10) : Int) := of_decide_eq_true Z2; have q184 : (ji10) < (l1.length : Int) := of_decide_eq_true Z2; obtain ⟨ad184, e184, hx184_0⟩ := Kd.at_int HR1.out (ji10) p184 q184; obtain rfl : ad183 = ad184 := (by injection e184); replace p184 := eq_true p184; replace q184 := eq_true q184))
 go_ret
 exact ⟨by first | rfl | (simp; done) | (simp only [← hji10] <;> (first | rfl | simp)) | (simp [*]; done), by repeat (first | exact ddR _ | apply ddS)⟩
def index_Check.f (a0 : Int) (l1 : List Int) : Option Int := some (checkI a0 l1)
theorem index_Check.calls (a0 : Int) (A1 : Option Addr) (c1 : Nat) (l1 : List Int) (r : Int) (w : World) (hr1 : Kd.C (Kd.int .i64) w A1 l1.length l1) (hc1 : l1.length ≤ c1) (h : index_Check.f a0 l1 = some r) :
    Calls Try.prog 114 #[.int .i64 a0, .slice A1 l1.length c1] w fun e w' => e = .returned (.int .i64 r) ∧ Drawn0 w w' := by
  refine index_CheckP.calls a0 A1 c1 l1 r w hr1 hc1 (Eq.trans ?_ h)
  have hm := Kd.C_max hr1
  unfold index_CheckP.f index_Check.f index_measure.f index_rises.f checkI
  by_cases c1 : 1 ≤ a0
  · rw [if_pos (by omega)]
    simp only [Option.bind_some]
    by_cases c2 : a0 ≤ 4096
    · rw [if_pos (decide_eq_true c2)]
      by_cases c3 : risesB l1 = true
      · rw [if_pos c3]
        cases l1 with
        | nil => simp [c1, c2, c3]
        | cons x l =>
          have hne : x :: l ≠ [] := by simp
          have hl := risesB_last (x :: l) hne c3
          have hh := risesB_head l x c3
          have e0 : rd (x :: l) 0 = x := rfl
          have hln : 0 < (x :: l).length := by simp
          have e1 : rd (x :: l) (wrap64 (((x :: l).length : Int) - 1)) = (x :: l).getLast hne := by
            rw [wrap64_of (by unfold I64; omega), show ((x :: l).length : Int) - 1 = (((x :: l).length - 1 : Nat) : Int) by simp, rd_nat (by simp), List.getLast_eq_getElem]
          rw [e0, e1, wrap64_of (by unfold I64; omega), if_pos (by omega), if_pos (by omega)]
          have hm1 := hl _ (List.mem_cons_self)
          have hm2 : (x :: l).getLast hne ∈ x :: l := List.getLast_mem hne
          by_cases c4 : x < 0
          · rw [if_pos c4, if_neg (fun hh => by have := (hh.2.2.2 x (by simp)).1; omega)]
          · rw [if_neg c4, if_pos (by omega), if_pos (by omega)]
            by_cases c5 : (x :: l).getLast hne ≥ a0
            · rw [if_pos c5, if_neg (fun hh => by have := (hh.2.2.2 _ hm2).2; omega)]
            · rw [if_neg c5, if_pos ⟨c1, c2, c3, fun y hy => ⟨by rcases List.mem_cons.1 hy with e | e; (rw [e]; omega); (have := hh y e; omega), by have := hl y hy; omega⟩⟩]
      · rw [if_neg c3, if_neg (fun hh => c3 hh.2.2.1)]
    · rw [if_neg (by simp; omega), if_neg (fun hh => by omega)]
  · rw [if_neg (by omega)]
    simp only [Option.bind_some]
    rw [if_neg (by simp), if_neg (fun hh => by omega)]


/-! ### slices_IndexFunc_uint64_uint64: function 126 -/
set_option maxHeartbeats 2000000 in
set_option maxRecDepth 100000 in
theorem slices_IndexFunc_uint64_uint64.gen (K : Nat) (caps : Array Value) (g : Int → Bool) (A0 : Option Addr) (c0 : Nat) (l0 : List Int) (w : World)
    (hent : ∀ (args : Array Value) (w : World), (callFunc K args).run Try.prog w = .ok (.enter K args) w)
    (hr0 : Kd.C (Kd.int .u64) w A0 l0.length l0)
    (H : TellsD Try.prog K caps l0.length (fun i => Value.int .u64 (l0.getD i default)) (fun i => Value.bool (g (l0.getD i default))) w) :
    Calls Try.prog 126 #[.slice A0 l0.length c0, .func (.func K) #[] caps] w fun e w' => (∃ r : Int, e = .returned (.int .i64 r) ∧ decide (0 ≤ r) = l0.any g) ∧ Drawn0 w w' := by
  have hm := Kd.C_max hr0
  have HH := ZM H
  have HR := ZM hr0
  clear H hr0
  go_enter Try.func126, Try.ntmps126
  go_wp2_with fail
  go_loopw [8] (fun i W => ∃ (k m : Nat), i = .int .i64 k ∧ W = w.drewN m ∧ Aside0 (k ≤ l0.length) ∧ Aside0 ((l0.take k).any g = false)) (fun i _ => l0.length - (intOf i).toNat)
  case atStart => exact ⟨0, 0, rfl, rfl, ⟨Nat.zero_le _⟩, ⟨by simp⟩⟩
  case round =>
    obtain ⟨k, m, rfl, rfl, ⟨hk⟩, HN⟩ := hrel
    by_cases hlt : k < l0.length
    · obtain ⟨ad, rfl, hc⟩ := Kd.at_int HR.out (k : Int) (by omega) (by omega)
      simp only [Int.toNat_natCast] at hc
      rw [show rd l0 (k : Int) = l0.getD k default from rfl] at hc
      obtain ⟨x, hx⟩ : ∃ x, l0.getD k default = x := ⟨_, rfl⟩
      have hxe : l0[k] = x := by rw [← hx]; simp [List.getD_eq_getElem?_getD, List.getElem?_eq_getElem hlt]
      have hcl := HH.out k m hlt
      simp only [hx] at hcl hc
      by_cases hg : g x = true
      · rw [hg] at hcl
        have HC := ZM hcl
        have HA : Aside0 (l0.any g = true) := ⟨List.any_eq_true.2 ⟨x, by rw [← hxe]; exact List.getElem_mem hlt, hg⟩⟩
        clear hcl hx hxe hg
        go_wp2_with (go_at_fn K; refine HC.out.mono ?_; rintro ed W1 ⟨rfl, ⟨nd, rfl⟩⟩)
        go_ret
        exact ⟨⟨_, rfl, by rw [HA.out]; exact decide_eq_true (Int.natCast_nonneg _)⟩, by first | exact ⟨_, rfl⟩ | exact ⟨_, wwN _ _ _⟩⟩
      · have hgf : g x = false := by simpa using hg
        rw [hgf] at hcl
        have HC := ZM hcl
        have HA : Aside0 ((l0.take (k + 1)).any g = false) := ⟨by rw [List.take_add_one, List.getElem?_eq_getElem hlt, List.any_append, HN.out]; simp [hxe, hgf]⟩
        clear hcl hx hxe hg hgf hk
        go_wp2_with (go_at_fn K; refine HC.out.mono ?_; rintro ed W1 ⟨rfl, ⟨nd, rfl⟩⟩)
        exact ⟨⟨k + 1, m + nd, by first | rfl | (rw [wrap64_of (show I64 ((k : Int) + 1) by unfold I64; omega)]; rfl), by first | rfl | exact wwN _ _ _, ⟨hlt⟩, HA⟩, by (try rw [wrap64_of (show I64 ((k : Int) + 1) by unfold I64; omega)]); simp [intOf]; omega⟩
    · have hkn : k = l0.length := by omega
      subst hkn
      have HA := HN.out
      rw [List.take_length] at HA
      have HA := ZM HA
      clear hk
      go_wp2
      go_ret
      exact ⟨⟨_, rfl, by rw [HA.out]; rfl⟩, ⟨_, rfl⟩⟩


/-! ### slices_ContainsFunc_uint64_uint64: function 115 -/
set_option maxHeartbeats 2000000 in
set_option maxRecDepth 100000 in
theorem slices_ContainsFunc_uint64_uint64.gen (K : Nat) (caps : Array Value) (g : Int → Bool) (A0 : Option Addr) (c0 : Nat) (l0 : List Int) (w : World)
    (hent : ∀ (args : Array Value) (w : World), (callFunc K args).run Try.prog w = .ok (.enter K args) w)
    (hr0 : Kd.C (Kd.int .u64) w A0 l0.length l0)
    (H : TellsD Try.prog K caps l0.length (fun i => Value.int .u64 (l0.getD i default)) (fun i => Value.bool (g (l0.getD i default))) w) :
    Calls Try.prog 115 #[.slice A0 l0.length c0, .func (.func K) #[] caps] w fun e w' => e = .returned (.bool (l0.any g)) ∧ Drawn0 w w' := by
  have HH := ZM H
  have HR := ZM hr0
  have HE := ZM hent
  clear H hr0 hent
  go_enter Try.func115, Try.ntmps115
  go_wp2_with (go_at_call 126; (with_reducible refine (slices_IndexFunc_uint64_uint64.gen K caps g A0 c0 l0 _ HE.out HR.out HH.out).mono ?_); rintro ed W2 ⟨⟨r, rfl, hr⟩, ⟨nd, rfl⟩⟩; have HRR := ZM hr; clear hr)
  go_ret
  exact ⟨by rw [← HRR.out]; rfl, ⟨_, rfl⟩⟩


/-! ### plane_Width: function 117 -/
def plane_Width.f (a0 : Int) : Option (Int) := (bits_Len64.f a0).bind fun t185 => (some t185)
set_option maxHeartbeats 8000000 in
set_option maxRecDepth 100000 in
theorem plane_Width.calls (a0 : Int) (r : Int) (w : World) (h : plane_Width.f a0 = some r) :
  Calls Try.prog 117 #[.int .u64 a0] w fun e w' => e = .returned (.int .i64 r) ∧ Drawn0 w w' := by
 have H : ((bits_Len64.f a0).bind fun t185 => (some t185)) = some r := h
 clear h
 replace H := Option.bind_eq_some_iff.mp H
 obtain ⟨t185, A20, H⟩ := H
 replace H : (some t185) = some r := H
 have A2 := ZM A20
 clear A20
 obtain rfl := Option.some.inj H
 go_enter Try.func117, Try.ntmps117
 go_wp2_with (first | ((with_reducible refine gate_callee (f := 122) rfl ?_); refine goesL_ (some 4) rfl rfl Try.func122 (by kernel_rfl) rfl #[.int .u64 a0] rfl Z1 ?_; (with_reducible refine (bits_Len64.calls a0 t185 _ A2.out).mono ?_); rintro e w' ⟨rfl, ⟨nd, rfl⟩⟩; refine ⟨_, rfl, ?_⟩))
 go_ret
 exact ⟨by first | rfl | (simp; done) | (simp [*]; done), by repeat (first | exact ddR _ | apply ddS)⟩
theorem plane_Width.of (n : Int) (h : U64 n) : plane_Width.f n = some (bl n.toNat : Int) := by
  unfold plane_Width.f
  rw [bits_Len64.of n h]; rfl


-- NOT PRINTED: function 116 (frame_bare_1)

end Go.Proofs.Ytkfhdpnfcaghbaa.HQ
