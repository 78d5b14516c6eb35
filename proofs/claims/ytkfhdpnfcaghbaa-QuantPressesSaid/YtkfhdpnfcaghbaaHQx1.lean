/- What Go functions do, each as a plain Lean function with the same answers, and the proof of it, in every world: printed by the session's driver over the kit's print, with texts by hand. -/
import Derived.Test.YtkfhdpnfcaghbaaHQx0
import Derived.Test.YtkfhdpnfcaghbaaMini
namespace Go.Proofs.Ytkfhdpnfcaghbaa.HQ
open Go.RowKit Go.Proofs.YtkfhdpnfcaghbaaW.PrintWords Go.Proofs.YtkfhdpnfcaghbaaW.PrintLast Go.Proofs.YtkfhdpnfcaghbaaW.PrintMore
attribute [local go_sem] max2_int min2_int max_two min_two max_three min_three max_four min_four   -- for this text's walks alone
open Go.Proofs.Ytkfhdpnfcaghbaa.Sp
attribute [local go_sem] Go.Proofs.Ytkfhdpnfcaghbaa.Sp.u64_not
set_option linter.unusedVariables false
set_option linter.unusedSimpArgs false

/-! ### thrumref07_Big: function 17 -/
def thrumref07_Big.f (a0_0 : Int) (a0_1 : Int) (l0_2 : List Int) (l0_3 : List Int) (a0_4 : Int) (a0_5 : Int) (l0_6 : List Int) (l0_7 : List Bool) : Option (Bool) := if (l0_2.length : Int) > 500 then (some true) else (if (l0_3.length : Int) > 500 then (some true) else (if (l0_6.length : Int) > 500 then (some true) else (some (decide ((l0_7.length : Int) > 500)))))
set_option maxHeartbeats 8000000 in
set_option maxRecDepth 100000 in
theorem thrumref07_Big.calls (a0_0 : Int) (a0_1 : Int) (A0_2 : Option Addr) (c0_2 : Nat) (l0_2 : List Int) (A0_3 : Option Addr) (c0_3 : Nat) (l0_3 : List Int) (a0_4 : Int) (a0_5 : Int) (A0_6 : Option Addr) (c0_6 : Nat) (l0_6 : List Int) (A0_7 : Option Addr) (c0_7 : Nat) (l0_7 : List Bool) (r : Bool) (w : World) (hr0_2 : Kd.C (Kd.int .i64) w A0_2 l0_2.length l0_2) (hc0_2 : l0_2.length ≤ c0_2) (hr0_3 : Kd.C (Kd.int .i64) w A0_3 l0_3.length l0_3) (hc0_3 : l0_3.length ≤ c0_3) (hr0_6 : Kd.C (Kd.int .u64) w A0_6 l0_6.length l0_6) (hc0_6 : l0_6.length ≤ c0_6) (hr0_7 : Kd.C Kd.bool w A0_7 l0_7.length l0_7) (hc0_7 : l0_7.length ≤ c0_7) (h : thrumref07_Big.f a0_0 a0_1 l0_2 l0_3 a0_4 a0_5 l0_6 l0_7 = some r) :
  Calls Try.prog 17 #[.agg #[.int .i64 a0_0, .int .i64 a0_1, .slice A0_2 l0_2.length c0_2, .slice A0_3 l0_3.length c0_3, .int .i64 a0_4, .int .i64 a0_5, .slice A0_6 l0_6.length c0_6, .slice A0_7 l0_7.length c0_7]] w fun e w' => e = .returned (.bool r) ∧ Below w.heap.size w w' := by
 have hu30 := Try.underlying30
 have HR0_2 := ZM hr0_2
 have HC0_2 := ZM hc0_2
 clear hr0_2 hc0_2
 have HR0_3 := ZM hr0_3
 have HC0_3 := ZM hc0_3
 clear hr0_3 hc0_3
 have HR0_6 := ZM hr0_6
 have HC0_6 := ZM hc0_6
 clear hr0_6 hc0_6
 have HR0_7 := ZM hr0_7
 have HC0_7 := ZM hc0_7
 clear hr0_7 hc0_7
 have HB := ZM (Below.refl w.heap.size w)
 have H : (if (l0_2.length : Int) > 500 then (some true) else (if (l0_3.length : Int) > 500 then (some true) else (if (l0_6.length : Int) > 500 then (some true) else (some (decide ((l0_7.length : Int) > 500)))))) = some r := h
 clear h
 by_cases c2 : (l0_2.length : Int) > 500
 ·
  rw [if_pos c2] at H
  have c2b0 : decide (500 < (l0_2.length : Int)) = true := decide_eq_true c2
  have c2b1 : decide (500 < l0_2.length) = true := decide_eq_true (by omega)
  clear c2
  obtain rfl := Option.some.inj H
  go_enter Try.func17, Try.ntmps17
  go_wp2_with (first | ((with_reducible refine gate_dst (N := 1) rfl ?_); (try (refine gate_guard (by rfl) ?_; dsimp only)); refine box_event ?hg (N := 1) ?hd (cs := #[.int .i64 a0_0, .int .i64 a0_1, .slice A0_2 l0_2.length c0_2, .slice A0_3 l0_3.length c0_3, .int .i64 a0_4, .int .i64 a0_5, .slice A0_6 l0_6.length c0_6, .slice A0_7 l0_7.length c0_7]) (t := 30) ?hr ?_; (case hd => rfl); (case hg => rfl); (case hr => exact Z12); intro gb101 hg w3 hbox hb; have BK101 := ZM (hbox); have GW101 := ZM ((by rw [hg]; exact (zzS Z3) : w.heap.size ≤ gb101)); have GE101 := ZM ((by rw [hg]; exact (zzS Z3) : w.heap.size ≤ gb101)); replace HB := ZM (zzT Z3 hb); clear hb hbox hg; obtain ⟨hcz4_0, hcz4_1, hcz4_2, hcz4_3, hcz4_4, hcz4_5, hcz4_6, hcz4_7, hfz4_0, hfz4_1, hfz4_2, hfz4_3, hfz4_4, hfz4_5, hfz4_6, hfz4_7⟩ := Y8f BK101))
  go_ret
  exact ⟨by first | rfl | (simp [errW_none, errW_some] <;> rfl) | (simp [*, errW_none, errW_some] <;> rfl), by repeat (first | (with_reducible first | exact HB.out | apply zzA | apply zzN | apply zzD | refine below_set ?_ GE101.out) | exact HB.out)⟩
 rw [if_neg c2] at H
 have c2b0 : decide (500 < (l0_2.length : Int)) = false := decide_eq_false c2
 have c2b1 : decide (500 < l0_2.length) = false := decide_eq_false (by omega)
 clear c2
 by_cases c5 : (l0_3.length : Int) > 500
 ·
  rw [if_pos c5] at H
  have c5b0 : decide (500 < (l0_3.length : Int)) = true := decide_eq_true c5
  have c5b1 : decide (500 < l0_3.length) = true := decide_eq_true (by omega)
  clear c5
  obtain rfl := Option.some.inj H
  go_enter Try.func17, Try.ntmps17
  go_wp2_with (first | ((with_reducible refine gate_dst (N := 1) rfl ?_); (try (refine gate_guard (by rfl) ?_; dsimp only)); refine box_event ?hg (N := 1) ?hd (cs := #[.int .i64 a0_0, .int .i64 a0_1, .slice A0_2 l0_2.length c0_2, .slice A0_3 l0_3.length c0_3, .int .i64 a0_4, .int .i64 a0_5, .slice A0_6 l0_6.length c0_6, .slice A0_7 l0_7.length c0_7]) (t := 30) ?hr ?_; (case hd => rfl); (case hg => rfl); (case hr => exact Z12); intro gb101 hg w6 hbox hb; have BK101 := ZM (hbox); have GW101 := ZM ((by rw [hg]; exact (zzS Z3) : w.heap.size ≤ gb101)); have GE101 := ZM ((by rw [hg]; exact (zzS Z3) : w.heap.size ≤ gb101)); replace HB := ZM (zzT Z3 hb); clear hb hbox hg; obtain ⟨hcz7_0, hcz7_1, hcz7_2, hcz7_3, hcz7_4, hcz7_5, hcz7_6, hcz7_7, hfz7_0, hfz7_1, hfz7_2, hfz7_3, hfz7_4, hfz7_5, hfz7_6, hfz7_7⟩ := Y8f BK101))
  go_ret
  exact ⟨by first | rfl | (simp [errW_none, errW_some] <;> rfl) | (simp [*, errW_none, errW_some] <;> rfl), by repeat (first | (with_reducible first | exact HB.out | apply zzA | apply zzN | apply zzD | refine below_set ?_ GE101.out) | exact HB.out)⟩
 rw [if_neg c5] at H
 have c5b0 : decide (500 < (l0_3.length : Int)) = false := decide_eq_false c5
 have c5b1 : decide (500 < l0_3.length) = false := decide_eq_false (by omega)
 clear c5
 by_cases c8 : (l0_6.length : Int) > 500
 case neg =>
  rw [if_neg c8] at H
  have c8b0 : decide (500 < (l0_6.length : Int)) = false := decide_eq_false c8
  have c8b1 : decide (500 < l0_6.length) = false := decide_eq_false (by omega)
  clear c8
  obtain rfl := Option.some.inj H
  go_enter Try.func17, Try.ntmps17
  go_wp2_with (first | ((with_reducible refine gate_dst (N := 1) rfl ?_); (try (refine gate_guard (by rfl) ?_; dsimp only)); refine box_event ?hg (N := 1) ?hd (cs := #[.int .i64 a0_0, .int .i64 a0_1, .slice A0_2 l0_2.length c0_2, .slice A0_3 l0_3.length c0_3, .int .i64 a0_4, .int .i64 a0_5, .slice A0_6 l0_6.length c0_6, .slice A0_7 l0_7.length c0_7]) (t := 30) ?hr ?_; (case hd => rfl); (case hg => rfl); (case hr => exact Z12); intro gb101 hg w11 hbox hb; have BK101 := ZM (hbox); have GW101 := ZM ((by rw [hg]; exact (zzS Z3) : w.heap.size ≤ gb101)); have GE101 := ZM ((by rw [hg]; exact (zzS Z3) : w.heap.size ≤ gb101)); replace HB := ZM (zzT Z3 hb); clear hb hbox hg; obtain ⟨hcz12_0, hcz12_1, hcz12_2, hcz12_3, hcz12_4, hcz12_5, hcz12_6, hcz12_7, hfz12_0, hfz12_1, hfz12_2, hfz12_3, hfz12_4, hfz12_5, hfz12_6, hfz12_7⟩ := Y8f BK101))
  go_ret
  exact ⟨by first | rfl | (simp [errW_none, errW_some] <;> rfl) | (simp [*, errW_none, errW_some] <;> rfl), by repeat (first | (with_reducible first | exact HB.out | apply zzA | apply zzN | apply zzD | refine below_set ?_ GE101.out) | exact HB.out)⟩
 rw [if_pos c8] at H
 have c8b0 : decide (500 < (l0_6.length : Int)) = true := decide_eq_true c8
 have c8b1 : decide (500 < l0_6.length) = true := decide_eq_true (by omega)
 clear c8
 obtain rfl := Option.some.inj H
 go_enter Try.func17, Try.ntmps17
 go_wp2_with (first | ((with_reducible refine gate_dst (N := 1) rfl ?_); (try (refine gate_guard (by rfl) ?_; dsimp only)); refine box_event ?hg (N := 1) ?hd (cs := #[.int .i64 a0_0, .int .i64 a0_1, .slice A0_2 l0_2.length c0_2, .slice A0_3 l0_3.length c0_3, .int .i64 a0_4, .int .i64 a0_5, .slice A0_6 l0_6.length c0_6, .slice A0_7 l0_7.length c0_7]) (t := 30) ?hr ?_; (case hd => rfl); (case hg => rfl); (case hr => exact Z12); intro gb101 hg w9 hbox hb; have BK101 := ZM (hbox); have GW101 := ZM ((by rw [hg]; exact (zzS Z3) : w.heap.size ≤ gb101)); have GE101 := ZM ((by rw [hg]; exact (zzS Z3) : w.heap.size ≤ gb101)); replace HB := ZM (zzT Z3 hb); clear hb hbox hg; obtain ⟨hcz10_0, hcz10_1, hcz10_2, hcz10_3, hcz10_4, hcz10_5, hcz10_6, hcz10_7, hfz10_0, hfz10_1, hfz10_2, hfz10_3, hfz10_4, hfz10_5, hfz10_6, hfz10_7⟩ := Y8f BK101))
 go_ret
 exact ⟨by first | rfl | (simp [errW_none, errW_some] <;> rfl) | (simp [*, errW_none, errW_some] <;> rfl), by repeat (first | (with_reducible first | exact HB.out | apply zzA | apply zzN | apply zzD | refine below_set ?_ GE101.out) | exact HB.out)⟩
/-! ### thrumref06_EqualP: function 40 -/
def thrumref06_EqualP.l0 : Nat → List Int → List Int → Int → Int → Option (Bool)
 | 0, _, _, _, _ => none
 | k + 1, x0, x1, x12, x13 => if x13 < x12 then (if 0 ≤ x13 then (if x13 < (x0.length : Int) then (if x13 < (x1.length : Int) then (if (rd x0 x13) = (rd x1 x13) then (thrumref06_EqualP.l0 k x0 x1 x12 (wrap64 (x13 + 1))) else (some false)) else (none)) else (none)) else (none)) else (some true)
def thrumref06_EqualP.f (k : Nat) (l0 : List Int) (l1 : List Int) : Option (Bool) := if (l0.length : Int) = (l1.length : Int) then (thrumref06_EqualP.l0 k l0 l1 (l0.length : Int) 0) else (some false)
theorem thrumref06_EqualP.mono_l : ∀ k, (∀ y0 y1 y2 y3, LeO (thrumref06_EqualP.l0 k y0 y1 y2 y3) (thrumref06_EqualP.l0 (k + 1) y0 y1 y2 y3))
 | 0 => fun _ _ _ _ r h => by simp [thrumref06_EqualP.l0] at h
 | k + 1 => by
  have ih0 := thrumref06_EqualP.mono_l k
  ·
   intro y0 y1 y2 y3
   unfold thrumref06_EqualP.l0
   repeat' first
   | (with_reducible exact ih0 _ _ _ _)
   | (with_reducible exact LeO.refl _)
   | (with_reducible exact LeO.none _)
   | (with_reducible refine LeO.ite ?_ ?_)
   | (with_reducible refine LeO.bind ?_ (fun _ => ?_))
theorem thrumref06_EqualP.mono : ∀ a0 a1 k, LeO (thrumref06_EqualP.f k a0 a1) (thrumref06_EqualP.f (k + 1) a0 a1) := by
 intro a0 a1 k
 have ih0 := thrumref06_EqualP.mono_l k
 unfold thrumref06_EqualP.f
 repeat' first
   | (with_reducible exact ih0 _ _ _ _)
   | (with_reducible exact LeO.refl _)
   | (with_reducible exact LeO.none _)
   | (with_reducible refine LeO.ite ?_ ?_)
   | (with_reducible refine LeO.bind ?_ (fun _ => ?_))
set_option maxHeartbeats 8000000 in
set_option maxRecDepth 100000 in
theorem thrumref06_EqualP.calls (k : Nat) (A0 : Option Addr) (c0 : Nat) (l0 : List Int) (A1 : Option Addr) (c1 : Nat) (l1 : List Int) (r : Bool) (w : World) (hr0 : Kd.C (Kd.int .i64) w A0 l0.length l0) (hc0 : l0.length ≤ c0) (hr1 : Kd.C (Kd.int .i64) w A1 l1.length l1) (hc1 : l1.length ≤ c1) (h : thrumref06_EqualP.f k l0 l1 = some r) :
  Calls Try.prog 40 #[.slice A0 l0.length c0, .slice A1 l1.length c1] w fun e w' => e = .returned (.bool r) ∧ Drawn0 w w' := by
 have HR0 := ZM hr0
 have HC0 := ZM hc0
 clear hr0 hc0
 have HR1 := ZM hr1
 have HC1 := ZM hc1
 clear hr1 hc1
 have H : (if (l0.length : Int) = (l1.length : Int) then (thrumref06_EqualP.l0 k l0 l1 (l0.length : Int) 0) else (some false)) = some r := h
 clear h
 by_cases c3 : (l0.length : Int) = (l1.length : Int)
 case neg =>
  rw [if_neg c3] at H
  have c3b0 : ((l0.length : Int) == (l1.length : Int)) = false := beq_eq_false_iff_ne.mpr c3
  have c3b1 : ((l0.length : Int) != (l1.length : Int)) = true := bne_iff_ne.mpr c3
  have c3b2 : (l0.length == l1.length) = false := by first | simpa using c3 | (simp at c3 ⊢; omega)
  obtain rfl := Option.some.inj H
  go_enter Try.func40, Try.ntmps40
  go_wp2
  repeat (go_quiet (fail); try go_wp2)
  go_ret
  exact ⟨by first | rfl | (simp; done) | (simp [*]; done), by repeat (first | exact ddR _ | apply ddS)⟩
 rw [if_pos c3] at H
 have c3b0 : ((l0.length : Int) == (l1.length : Int)) = true := beq_iff_eq.mpr c3
 have c3b1 : ((l0.length : Int) != (l1.length : Int)) = false := bne_eq_false_iff_eq.mpr c3
 have c3b2 : (l0.length == l1.length) = true := by first | simpa using c3 | (simp at c3 ⊢; omega)
 clear c3
 have H' := ZM H
 clear H
 go_enter Try.func40, Try.ntmps40
 go_wp2
 repeat (go_quiet (fail); try go_wp2)
 go_loopg [13] k (fun kq v13 w' => ∃ (x13_1 : Int), v13 = .int .i64 x13_1 ∧ Aside0 (thrumref06_EqualP.l0 kq l0 l1 (l0.length : Int) x13_1 = some r) ∧ Aside0 (kq ≤ k) ∧ Drawn0 w w')
 case atStart => exact ⟨(0), Z5, H', ⟨Nat.le_refl _⟩, by repeat (first | exact ddR _ | apply ddS)⟩
 case round =>
  clear H'
  try clear c1
  try clear c3
  try clear c3b0
  try clear c3b1
  try clear c3b2
  obtain ⟨x13_1, rfl, HA, HK1, ⟨m1, rfl⟩⟩ := hrel
  cases gk with
  | zero => exact absurd HA.out (by simp [thrumref06_EqualP.l0])
  | succ k1 =>
   have H := HA.out
   clear HA
   simp only [thrumref06_EqualP.l0] at H
   by_cases c4 : x13_1 < (l0.length : Int)
   case neg =>
    rw [if_neg c4] at H
    have c4b0 : decide (x13_1 < (l0.length : Int)) = false := decide_eq_false c4
    clear c4
    obtain rfl := Option.some.inj H
    go_wp2
    repeat (go_quiet (fail); try go_wp2)
    go_ret
    exact ⟨by first | rfl | (simp; done) | (simp [*]; done), by repeat (first | exact ddR _ | apply ddS)⟩
   rw [if_pos c4] at H
   have c4b0 : decide (x13_1 < (l0.length : Int)) = true := decide_eq_true c4
   clear c4
   by_cases c5 : 0 ≤ x13_1
   case neg =>
    rw [if_neg c5] at H
    exact absurd H (by simp)
   rw [if_pos c5] at H
   have c5b0 : decide (0 ≤ x13_1) = true := decide_eq_true c5
   clear c5
   by_cases c6 : x13_1 < (l0.length : Int)
   case neg =>
    rw [if_neg c6] at H
    exact absurd H (by simp)
   rw [if_pos c6] at H
   have c6b0 : decide (x13_1 < (l0.length : Int)) = true := decide_eq_true c6
   clear c6
   by_cases c7 : x13_1 < (l1.length : Int)
   case neg =>
    rw [if_neg c7] at H
    exact absurd H (by simp)
   rw [if_pos c7] at H
   have c7b0 : decide (x13_1 < (l1.length : Int)) = true := decide_eq_true c7
   clear c7
   by_cases c8 : (rd l0 x13_1) = (rd l1 x13_1)
   case neg =>
    rw [if_neg c8] at H
    have c8b0 : ((rd l0 x13_1) == (rd l1 x13_1)) = false := beq_eq_false_iff_ne.mpr c8
    have c8b1 : ((rd l0 x13_1) != (rd l1 x13_1)) = true := bne_iff_ne.mpr c8
    obtain rfl := Option.some.inj H
    have p102 : 0 ≤ (x13_1 : Int) := of_decide_eq_true Z2
    have q102 : x13_1 < (l0.length : Int) := of_decide_eq_true Z2
    obtain ⟨ad102, e102, hx102_0⟩ := Kd.at_int HR0.out x13_1 p102 q102
    cases e102
    replace p102 := eq_true p102
    replace q102 := eq_true q102
    have p103 : 0 ≤ (x13_1 : Int) := of_decide_eq_true Z2
    have q103 : x13_1 < (l1.length : Int) := of_decide_eq_true Z2
    obtain ⟨ad103, e103, hx103_0⟩ := Kd.at_int HR1.out x13_1 p103 q103
    cases e103
    replace p103 := eq_true p103
    replace q103 := eq_true q103
    go_wp2
    repeat (go_quiet (fail); try go_wp2)
    go_ret
    exact ⟨by first | rfl | (simp; done) | (simp [*]; done), by repeat (first | exact ddR _ | apply ddS)⟩
   rw [if_pos c8] at H
   have c8b0 : ((rd l0 x13_1) == (rd l1 x13_1)) = true := beq_iff_eq.mpr c8
   have c8b1 : ((rd l0 x13_1) != (rd l1 x13_1)) = false := bne_eq_false_iff_eq.mpr c8
   clear c8
   have H' := ZM H
   clear H
   have p102 : 0 ≤ (x13_1 : Int) := of_decide_eq_true Z2
   have q102 : x13_1 < (l0.length : Int) := of_decide_eq_true Z2
   obtain ⟨ad102, e102, hx102_0⟩ := Kd.at_int HR0.out x13_1 p102 q102
   cases e102
   replace p102 := eq_true p102
   replace q102 := eq_true q102
   have p103 : 0 ≤ (x13_1 : Int) := of_decide_eq_true Z2
   have q103 : x13_1 < (l1.length : Int) := of_decide_eq_true Z2
   obtain ⟨ad103, e103, hx103_0⟩ := Kd.at_int HR1.out x13_1 p103 q103
   cases e103
   replace p103 := eq_true p103
   replace q103 := eq_true q103
   go_wp2
   repeat (go_quiet (fail); try go_wp2)
   go_roundg k1
   case measure => have := HK1.out; omega
   case rel => exact ⟨(wrap64 (x13_1 + 1)), Z5, H', ⟨by have := HK1.out; omega⟩, by repeat (first | exact ddR _ | apply ddS)⟩
theorem thrumref06_EqualP.loop (x0 x1 : List Int) (hl : x0.length = x1.length) (hb : x0.length ≤ 9223372036854775807) : ∀ (d i : Nat), d + i = x0.length →
    thrumref06_EqualP.l0 (d + 1) x0 x1 (x0.length : Int) (i : Int) = some (decide (x0.drop i = x1.drop i)) := by
  intro d
  induction d with
  | zero =>
    intro i hd
    rw [thrumref06_EqualP.l0, if_neg (by omega), List.drop_eq_nil_of_le (by omega), List.drop_eq_nil_of_le (by omega)]; simp
  | succ d ih =>
    intro i hd
    have hi : i < x0.length := by omega
    have hi1 : i < x1.length := by omega
    rw [thrumref06_EqualP.l0, if_pos (by omega), if_pos (by omega), if_pos (by omega), if_pos (by omega), List.drop_eq_getElem_cons hi, List.drop_eq_getElem_cons hi1, show rd x0 (i : Int) = x0[i] from rd_nat hi, show rd x1 (i : Int) = x1[i] from rd_nat hi1]
    by_cases c : x0[i] = x1[i]
    · rw [if_pos c, wrap64_of (by unfold I64; omega), show (i : Int) + 1 = ((i + 1 : Nat) : Int) by omega, ih (i + 1) (by omega)]
      simp only [List.cons.injEq, c, true_and]
    · rw [if_neg c]; simp only [List.cons.injEq, c, false_and, decide_false]
def thrumref06_Equal.f (l0 l1 : List Int) : Option Bool := some (decide (l0 = l1))
theorem thrumref06_Equal.calls (A0 : Option Addr) (c0 : Nat) (l0 : List Int) (A1 : Option Addr) (c1 : Nat) (l1 : List Int) (r : Bool) (w : World) (hr0 : Kd.C (Kd.int .i64) w A0 l0.length l0) (hc0 : l0.length ≤ c0) (hr1 : Kd.C (Kd.int .i64) w A1 l1.length l1) (hc1 : l1.length ≤ c1) (h : thrumref06_Equal.f l0 l1 = some r) :
    Calls Try.prog 40 #[.slice A0 l0.length c0, .slice A1 l1.length c1] w fun e w' => e = .returned (.bool r) ∧ Drawn0 w w' := by
  refine thrumref06_EqualP.calls (l0.length + 1) A0 c0 l0 A1 c1 l1 r w hr0 hc0 hr1 hc1 (Eq.trans ?_ h)
  have hm := Kd.C_max hr0
  unfold thrumref06_EqualP.f thrumref06_Equal.f
  by_cases c : l0.length = l1.length
  · rw [if_pos (by omega)]
    exact (thrumref06_EqualP.loop l0 l1 c hm l0.length 0 (by omega)).trans (by simp)
  · rw [if_neg (by omega)]
    have : l0 ≠ l1 := fun e => c (by rw [e])
    simp [this]


/-! ### thrumref02_SameP: function 57 -/
def thrumref02_SameP.l0 : Nat → List Int → List Int → Int → Int → Option (Bool)
 | 0, _, _, _, _ => none
 | k + 1, x0, x1, x12, x13 => if x13 < x12 then (if 0 ≤ x13 then (if x13 < (x0.length : Int) then (if x13 < (x1.length : Int) then (if (rd x0 x13) = (rd x1 x13) then (thrumref02_SameP.l0 k x0 x1 x12 (wrap64 (x13 + 1))) else (some false)) else (none)) else (none)) else (none)) else (some true)
def thrumref02_SameP.f (k : Nat) (l0 : List Int) (l1 : List Int) : Option (Bool) := if (l0.length : Int) = (l1.length : Int) then (thrumref02_SameP.l0 k l0 l1 (l0.length : Int) 0) else (some false)
theorem thrumref02_SameP.mono_l : ∀ k, (∀ y0 y1 y2 y3, LeO (thrumref02_SameP.l0 k y0 y1 y2 y3) (thrumref02_SameP.l0 (k + 1) y0 y1 y2 y3))
 | 0 => fun _ _ _ _ r h => by simp [thrumref02_SameP.l0] at h
 | k + 1 => by
  have ih0 := thrumref02_SameP.mono_l k
  ·
   intro y0 y1 y2 y3
   unfold thrumref02_SameP.l0
   repeat' first
   | (with_reducible exact ih0 _ _ _ _)
   | (with_reducible exact LeO.refl _)
   | (with_reducible exact LeO.none _)
   | (with_reducible refine LeO.ite ?_ ?_)
   | (with_reducible refine LeO.bind ?_ (fun _ => ?_))
theorem thrumref02_SameP.mono : ∀ a0 a1 k, LeO (thrumref02_SameP.f k a0 a1) (thrumref02_SameP.f (k + 1) a0 a1) := by
 intro a0 a1 k
 have ih0 := thrumref02_SameP.mono_l k
 unfold thrumref02_SameP.f
 repeat' first
   | (with_reducible exact ih0 _ _ _ _)
   | (with_reducible exact LeO.refl _)
   | (with_reducible exact LeO.none _)
   | (with_reducible refine LeO.ite ?_ ?_)
   | (with_reducible refine LeO.bind ?_ (fun _ => ?_))
set_option maxHeartbeats 8000000 in
set_option maxRecDepth 100000 in
theorem thrumref02_SameP.calls (k : Nat) (A0 : Option Addr) (c0 : Nat) (l0 : List Int) (A1 : Option Addr) (c1 : Nat) (l1 : List Int) (r : Bool) (w : World) (hr0 : Kd.C (Kd.int .i64) w A0 l0.length l0) (hc0 : l0.length ≤ c0) (hr1 : Kd.C (Kd.int .i64) w A1 l1.length l1) (hc1 : l1.length ≤ c1) (h : thrumref02_SameP.f k l0 l1 = some r) :
  Calls Try.prog 57 #[.slice A0 l0.length c0, .slice A1 l1.length c1] w fun e w' => e = .returned (.bool r) ∧ Drawn0 w w' := by
 have HR0 := ZM hr0
 have HC0 := ZM hc0
 clear hr0 hc0
 have HR1 := ZM hr1
 have HC1 := ZM hc1
 clear hr1 hc1
 have H : (if (l0.length : Int) = (l1.length : Int) then (thrumref02_SameP.l0 k l0 l1 (l0.length : Int) 0) else (some false)) = some r := h
 clear h
 by_cases c3 : (l0.length : Int) = (l1.length : Int)
 case neg =>
  rw [if_neg c3] at H
  have c3b0 : ((l0.length : Int) == (l1.length : Int)) = false := beq_eq_false_iff_ne.mpr c3
  have c3b1 : ((l0.length : Int) != (l1.length : Int)) = true := bne_iff_ne.mpr c3
  have c3b2 : (l0.length == l1.length) = false := by first | simpa using c3 | (simp at c3 ⊢; omega)
  obtain rfl := Option.some.inj H
  go_enter Try.func57, Try.ntmps57
  go_wp2
  repeat (go_quiet (fail); try go_wp2)
  go_ret
  exact ⟨by first | rfl | (simp; done) | (simp [*]; done), by repeat (first | exact ddR _ | apply ddS)⟩
 rw [if_pos c3] at H
 have c3b0 : ((l0.length : Int) == (l1.length : Int)) = true := beq_iff_eq.mpr c3
 have c3b1 : ((l0.length : Int) != (l1.length : Int)) = false := bne_eq_false_iff_eq.mpr c3
 have c3b2 : (l0.length == l1.length) = true := by first | simpa using c3 | (simp at c3 ⊢; omega)
 clear c3
 have H' := ZM H
 clear H
 go_enter Try.func57, Try.ntmps57
 go_wp2
 repeat (go_quiet (fail); try go_wp2)
 go_loopg [13] k (fun kq v13 w' => ∃ (x13_1 : Int), v13 = .int .i64 x13_1 ∧ Aside0 (thrumref02_SameP.l0 kq l0 l1 (l0.length : Int) x13_1 = some r) ∧ Aside0 (kq ≤ k) ∧ Drawn0 w w')
 case atStart => exact ⟨(0), Z5, H', ⟨Nat.le_refl _⟩, by repeat (first | exact ddR _ | apply ddS)⟩
 case round =>
  clear H'
  try clear c1
  try clear c3
  try clear c3b0
  try clear c3b1
  try clear c3b2
  obtain ⟨x13_1, rfl, HA, HK1, ⟨m1, rfl⟩⟩ := hrel
  cases gk with
  | zero => exact absurd HA.out (by simp [thrumref02_SameP.l0])
  | succ k1 =>
   have H := HA.out
   clear HA
   simp only [thrumref02_SameP.l0] at H
   by_cases c4 : x13_1 < (l0.length : Int)
   case neg =>
    rw [if_neg c4] at H
    have c4b0 : decide (x13_1 < (l0.length : Int)) = false := decide_eq_false c4
    clear c4
    obtain rfl := Option.some.inj H
    go_wp2
    repeat (go_quiet (fail); try go_wp2)
    go_ret
    exact ⟨by first | rfl | (simp; done) | (simp [*]; done), by repeat (first | exact ddR _ | apply ddS)⟩
   rw [if_pos c4] at H
   have c4b0 : decide (x13_1 < (l0.length : Int)) = true := decide_eq_true c4
   clear c4
   by_cases c5 : 0 ≤ x13_1
   case neg =>
    rw [if_neg c5] at H
    exact absurd H (by simp)
   rw [if_pos c5] at H
   have c5b0 : decide (0 ≤ x13_1) = true := decide_eq_true c5
   clear c5
   by_cases c6 : x13_1 < (l0.length : Int)
   case neg =>
    rw [if_neg c6] at H
    exact absurd H (by simp)
   rw [if_pos c6] at H
   have c6b0 : decide (x13_1 < (l0.length : Int)) = true := decide_eq_true c6
   clear c6
   by_cases c7 : x13_1 < (l1.length : Int)
   case neg =>
    rw [if_neg c7] at H
    exact absurd H (by simp)
   rw [if_pos c7] at H
   have c7b0 : decide (x13_1 < (l1.length : Int)) = true := decide_eq_true c7
   clear c7
   by_cases c8 : (rd l0 x13_1) = (rd l1 x13_1)
   case neg =>
    rw [if_neg c8] at H
    have c8b0 : ((rd l0 x13_1) == (rd l1 x13_1)) = false := beq_eq_false_iff_ne.mpr c8
    have c8b1 : ((rd l0 x13_1) != (rd l1 x13_1)) = true := bne_iff_ne.mpr c8
    obtain rfl := Option.some.inj H
    have p104 : 0 ≤ (x13_1 : Int) := of_decide_eq_true Z2
    have q104 : x13_1 < (l0.length : Int) := of_decide_eq_true Z2
    obtain ⟨ad104, e104, hx104_0⟩ := Kd.at_int HR0.out x13_1 p104 q104
    cases e104
    replace p104 := eq_true p104
    replace q104 := eq_true q104
    have p105 : 0 ≤ (x13_1 : Int) := of_decide_eq_true Z2
    have q105 : x13_1 < (l1.length : Int) := of_decide_eq_true Z2
    obtain ⟨ad105, e105, hx105_0⟩ := Kd.at_int HR1.out x13_1 p105 q105
    cases e105
    replace p105 := eq_true p105
    replace q105 := eq_true q105
    go_wp2
    repeat (go_quiet (fail); try go_wp2)
    go_ret
    exact ⟨by first | rfl | (simp; done) | (simp [*]; done), by repeat (first | exact ddR _ | apply ddS)⟩
   rw [if_pos c8] at H
   have c8b0 : ((rd l0 x13_1) == (rd l1 x13_1)) = true := beq_iff_eq.mpr c8
   have c8b1 : ((rd l0 x13_1) != (rd l1 x13_1)) = false := bne_eq_false_iff_eq.mpr c8
   clear c8
   have H' := ZM H
   clear H
   have p104 : 0 ≤ (x13_1 : Int) := of_decide_eq_true Z2
   have q104 : x13_1 < (l0.length : Int) := of_decide_eq_true Z2
   obtain ⟨ad104, e104, hx104_0⟩ := Kd.at_int HR0.out x13_1 p104 q104
   cases e104
   replace p104 := eq_true p104
   replace q104 := eq_true q104
   have p105 : 0 ≤ (x13_1 : Int) := of_decide_eq_true Z2
   have q105 : x13_1 < (l1.length : Int) := of_decide_eq_true Z2
   obtain ⟨ad105, e105, hx105_0⟩ := Kd.at_int HR1.out x13_1 p105 q105
   cases e105
   replace p105 := eq_true p105
   replace q105 := eq_true q105
   go_wp2
   repeat (go_quiet (fail); try go_wp2)
   go_roundg k1
   case measure => have := HK1.out; omega
   case rel => exact ⟨(wrap64 (x13_1 + 1)), Z5, H', ⟨by have := HK1.out; omega⟩, by repeat (first | exact ddR _ | apply ddS)⟩
theorem thrumref02_SameP.loop (x0 x1 : List Int) (hl : x0.length = x1.length) (hb : x0.length ≤ 9223372036854775807) : ∀ (d i : Nat), d + i = x0.length →
    thrumref02_SameP.l0 (d + 1) x0 x1 (x0.length : Int) (i : Int) = some (decide (x0.drop i = x1.drop i)) := by
  intro d
  induction d with
  | zero =>
    intro i hd
    rw [thrumref02_SameP.l0, if_neg (by omega), List.drop_eq_nil_of_le (by omega), List.drop_eq_nil_of_le (by omega)]; simp
  | succ d ih =>
    intro i hd
    have hi : i < x0.length := by omega
    have hi1 : i < x1.length := by omega
    rw [thrumref02_SameP.l0, if_pos (by omega), if_pos (by omega), if_pos (by omega), if_pos (by omega), List.drop_eq_getElem_cons hi, List.drop_eq_getElem_cons hi1, show rd x0 (i : Int) = x0[i] from rd_nat hi, show rd x1 (i : Int) = x1[i] from rd_nat hi1]
    by_cases c : x0[i] = x1[i]
    · rw [if_pos c, wrap64_of (by unfold I64; omega), show (i : Int) + 1 = ((i + 1 : Nat) : Int) by omega, ih (i + 1) (by omega)]
      simp only [List.cons.injEq, c, true_and]
    · rw [if_neg c]; simp only [List.cons.injEq, c, false_and, decide_false]
def thrumref02_Same.f (l0 l1 : List Int) : Option Bool := some (decide (l0 = l1))
theorem thrumref02_Same.calls (A0 : Option Addr) (c0 : Nat) (l0 : List Int) (A1 : Option Addr) (c1 : Nat) (l1 : List Int) (r : Bool) (w : World) (hr0 : Kd.C (Kd.int .i64) w A0 l0.length l0) (hc0 : l0.length ≤ c0) (hr1 : Kd.C (Kd.int .i64) w A1 l1.length l1) (hc1 : l1.length ≤ c1) (h : thrumref02_Same.f l0 l1 = some r) :
    Calls Try.prog 57 #[.slice A0 l0.length c0, .slice A1 l1.length c1] w fun e w' => e = .returned (.bool r) ∧ Drawn0 w w' := by
  refine thrumref02_SameP.calls (l0.length + 1) A0 c0 l0 A1 c1 l1 r w hr0 hc0 hr1 hc1 (Eq.trans ?_ h)
  have hm := Kd.C_max hr0
  unfold thrumref02_SameP.f thrumref02_Same.f
  by_cases c : l0.length = l1.length
  · rw [if_pos (by omega)]
    exact (thrumref02_SameP.loop l0 l1 c hm l0.length 0 (by omega)).trans (by simp)
  · rw [if_neg (by omega)]
    have : l0 ≠ l1 := fun e => c (by rw [e])
    simp [this]


/-! ### thrumref05_SameSignsP: function 74 -/
def thrumref05_SameSignsP.l0 : Nat → List Bool → List Bool → Int → Int → Option (Bool)
 | 0, _, _, _, _ => none
 | k + 1, x0, x1, x12, x13 => if x13 < x12 then (if 0 ≤ x13 then (if x13 < (x0.length : Int) then (if x13 < (x1.length : Int) then (if ((rdOf false x0 x13) != (rdOf false x1 x13)) = true then (some false) else (thrumref05_SameSignsP.l0 k x0 x1 x12 (wrap64 (x13 + 1)))) else (none)) else (none)) else (none)) else (some true)
def thrumref05_SameSignsP.f (k : Nat) (l0 : List Bool) (l1 : List Bool) : Option (Bool) := if (l0.length : Int) = (l1.length : Int) then (thrumref05_SameSignsP.l0 k l0 l1 (l0.length : Int) 0) else (some false)
theorem thrumref05_SameSignsP.mono_l : ∀ k, (∀ y0 y1 y2 y3, LeO (thrumref05_SameSignsP.l0 k y0 y1 y2 y3) (thrumref05_SameSignsP.l0 (k + 1) y0 y1 y2 y3))
 | 0 => fun _ _ _ _ r h => by simp [thrumref05_SameSignsP.l0] at h
 | k + 1 => by
  have ih0 := thrumref05_SameSignsP.mono_l k
  ·
   intro y0 y1 y2 y3
   unfold thrumref05_SameSignsP.l0
   repeat' first
   | (with_reducible exact ih0 _ _ _ _)
   | (with_reducible exact LeO.refl _)
   | (with_reducible exact LeO.none _)
   | (with_reducible refine LeO.ite ?_ ?_)
   | (with_reducible refine LeO.bind ?_ (fun _ => ?_))
theorem thrumref05_SameSignsP.mono : ∀ a0 a1 k, LeO (thrumref05_SameSignsP.f k a0 a1) (thrumref05_SameSignsP.f (k + 1) a0 a1) := by
 intro a0 a1 k
 have ih0 := thrumref05_SameSignsP.mono_l k
 unfold thrumref05_SameSignsP.f
 repeat' first
   | (with_reducible exact ih0 _ _ _ _)
   | (with_reducible exact LeO.refl _)
   | (with_reducible exact LeO.none _)
   | (with_reducible refine LeO.ite ?_ ?_)
   | (with_reducible refine LeO.bind ?_ (fun _ => ?_))
set_option maxHeartbeats 8000000 in
set_option maxRecDepth 100000 in
theorem thrumref05_SameSignsP.calls (k : Nat) (A0 : Option Addr) (c0 : Nat) (l0 : List Bool) (A1 : Option Addr) (c1 : Nat) (l1 : List Bool) (r : Bool) (w : World) (hr0 : Kd.C Kd.bool w A0 l0.length l0) (hc0 : l0.length ≤ c0) (hr1 : Kd.C Kd.bool w A1 l1.length l1) (hc1 : l1.length ≤ c1) (h : thrumref05_SameSignsP.f k l0 l1 = some r) :
  Calls Try.prog 74 #[.slice A0 l0.length c0, .slice A1 l1.length c1] w fun e w' => e = .returned (.bool r) ∧ Drawn0 w w' := by
 have HR0 := ZM hr0
 have HC0 := ZM hc0
 clear hr0 hc0
 have HR1 := ZM hr1
 have HC1 := ZM hc1
 clear hr1 hc1
 have H : (if (l0.length : Int) = (l1.length : Int) then (thrumref05_SameSignsP.l0 k l0 l1 (l0.length : Int) 0) else (some false)) = some r := h
 clear h
 by_cases c3 : (l0.length : Int) = (l1.length : Int)
 case neg =>
  rw [if_neg c3] at H
  have c3b0 : ((l0.length : Int) == (l1.length : Int)) = false := beq_eq_false_iff_ne.mpr c3
  have c3b1 : ((l0.length : Int) != (l1.length : Int)) = true := bne_iff_ne.mpr c3
  have c3b2 : (l0.length == l1.length) = false := by first | simpa using c3 | (simp at c3 ⊢; omega)
  obtain rfl := Option.some.inj H
  go_enter Try.func74, Try.ntmps74
  go_wp2
  repeat (go_quiet (fail); try go_wp2)
  go_ret
  exact ⟨by first | rfl | (simp; done) | (simp [*]; done), by repeat (first | exact ddR _ | apply ddS)⟩
 rw [if_pos c3] at H
 have c3b0 : ((l0.length : Int) == (l1.length : Int)) = true := beq_iff_eq.mpr c3
 have c3b1 : ((l0.length : Int) != (l1.length : Int)) = false := bne_eq_false_iff_eq.mpr c3
 have c3b2 : (l0.length == l1.length) = true := by first | simpa using c3 | (simp at c3 ⊢; omega)
 clear c3
 have H' := ZM H
 clear H
 go_enter Try.func74, Try.ntmps74
 go_wp2
 repeat (go_quiet (fail); try go_wp2)
 go_loopg [13] k (fun kq v13 w' => ∃ (x13_1 : Int), v13 = .int .i64 x13_1 ∧ Aside0 (thrumref05_SameSignsP.l0 kq l0 l1 (l0.length : Int) x13_1 = some r) ∧ Aside0 (kq ≤ k) ∧ Drawn0 w w')
 case atStart => exact ⟨(0), Z5, H', ⟨Nat.le_refl _⟩, by repeat (first | exact ddR _ | apply ddS)⟩
 case round =>
  clear H'
  try clear c1
  try clear c3
  try clear c3b0
  try clear c3b1
  try clear c3b2
  obtain ⟨x13_1, rfl, HA, HK1, ⟨m1, rfl⟩⟩ := hrel
  cases gk with
  | zero => exact absurd HA.out (by simp [thrumref05_SameSignsP.l0])
  | succ k1 =>
   have H := HA.out
   clear HA
   simp only [thrumref05_SameSignsP.l0] at H
   by_cases c4 : x13_1 < (l0.length : Int)
   case neg =>
    rw [if_neg c4] at H
    have c4b0 : decide (x13_1 < (l0.length : Int)) = false := decide_eq_false c4
    clear c4
    obtain rfl := Option.some.inj H
    go_wp2
    repeat (go_quiet (fail); try go_wp2)
    go_ret
    exact ⟨by first | rfl | (simp; done) | (simp [*]; done), by repeat (first | exact ddR _ | apply ddS)⟩
   rw [if_pos c4] at H
   have c4b0 : decide (x13_1 < (l0.length : Int)) = true := decide_eq_true c4
   clear c4
   by_cases c5 : 0 ≤ x13_1
   case neg =>
    rw [if_neg c5] at H
    exact absurd H (by simp)
   rw [if_pos c5] at H
   have c5b0 : decide (0 ≤ x13_1) = true := decide_eq_true c5
   clear c5
   by_cases c6 : x13_1 < (l0.length : Int)
   case neg =>
    rw [if_neg c6] at H
    exact absurd H (by simp)
   rw [if_pos c6] at H
   have c6b0 : decide (x13_1 < (l0.length : Int)) = true := decide_eq_true c6
   clear c6
   by_cases c7 : x13_1 < (l1.length : Int)
   case neg =>
    rw [if_neg c7] at H
    exact absurd H (by simp)
   rw [if_pos c7] at H
   have c7b0 : decide (x13_1 < (l1.length : Int)) = true := decide_eq_true c7
   clear c7
   by_cases c8 : ((rdOf false l0 x13_1) != (rdOf false l1 x13_1)) = true
   ·
    rw [if_pos c8] at H
    have c8b0 : ((rdOf false l0 x13_1) != (rdOf false l1 x13_1)) = true := c8
    (try (have c8b1 : decide ((rdOf false l0 x13_1) = (rdOf false l1 x13_1)) = false := by simpa using c8))
    (try (have c8b2 : ((rdOf false l0 x13_1) == (rdOf false l1 x13_1)) = false := by simpa using c8))
    (try (have c8b3 : ¬ ((rdOf false l0 x13_1) = (rdOf false l1 x13_1)) := by simpa using c8))
    clear c8
    obtain rfl := Option.some.inj H
    have p106 : 0 ≤ (x13_1 : Int) := of_decide_eq_true Z2
    have q106 : x13_1 < (l0.length : Int) := of_decide_eq_true Z2
    obtain ⟨ad106, e106, hx106_0⟩ := Kd.at_bool HR0.out x13_1 p106 q106
    cases e106
    replace p106 := eq_true p106
    replace q106 := eq_true q106
    have p107 : 0 ≤ (x13_1 : Int) := of_decide_eq_true Z2
    have q107 : x13_1 < (l1.length : Int) := of_decide_eq_true Z2
    obtain ⟨ad107, e107, hx107_0⟩ := Kd.at_bool HR1.out x13_1 p107 q107
    cases e107
    replace p107 := eq_true p107
    replace q107 := eq_true q107
    go_wp2
    repeat (go_quiet (fail); try go_wp2)
    go_ret
    exact ⟨by first | rfl | (simp; done) | (simp [*]; done), by repeat (first | exact ddR _ | apply ddS)⟩
   rw [if_neg c8] at H
   have c8b0 : ((rdOf false l0 x13_1) != (rdOf false l1 x13_1)) = false := by simpa using c8
   (try (have c8b1 : decide ((rdOf false l0 x13_1) = (rdOf false l1 x13_1)) = true := by simpa using c8))
   (try (have c8b2 : ((rdOf false l0 x13_1) == (rdOf false l1 x13_1)) = true := by simpa using c8))
   clear c8
   have H' := ZM H
   clear H
   have p106 : 0 ≤ (x13_1 : Int) := of_decide_eq_true Z2
   have q106 : x13_1 < (l0.length : Int) := of_decide_eq_true Z2
   obtain ⟨ad106, e106, hx106_0⟩ := Kd.at_bool HR0.out x13_1 p106 q106
   cases e106
   replace p106 := eq_true p106
   replace q106 := eq_true q106
   have p107 : 0 ≤ (x13_1 : Int) := of_decide_eq_true Z2
   have q107 : x13_1 < (l1.length : Int) := of_decide_eq_true Z2
   obtain ⟨ad107, e107, hx107_0⟩ := Kd.at_bool HR1.out x13_1 p107 q107
   cases e107
   replace p107 := eq_true p107
   replace q107 := eq_true q107
   go_wp2
   repeat (go_quiet (fail); try go_wp2)
   go_roundg k1
   case measure => have := HK1.out; omega
   case rel => exact ⟨(wrap64 (x13_1 + 1)), Z5, H', ⟨by have := HK1.out; omega⟩, by repeat (first | exact ddR _ | apply ddS)⟩
theorem thrumref05_SameSignsP.loop (x0 x1 : List Bool) (hl : x0.length = x1.length) (hb : x0.length ≤ 9223372036854775807) : ∀ (d i : Nat), d + i = x0.length →
    thrumref05_SameSignsP.l0 (d + 1) x0 x1 (x0.length : Int) (i : Int) = some (decide (x0.drop i = x1.drop i)) := by
  intro d
  induction d with
  | zero =>
    intro i hd
    rw [thrumref05_SameSignsP.l0, if_neg (by omega), List.drop_eq_nil_of_le (by omega), List.drop_eq_nil_of_le (by omega)]; simp
  | succ d ih =>
    intro i hd
    have hi : i < x0.length := by omega
    have hi1 : i < x1.length := by omega
    rw [thrumref05_SameSignsP.l0, if_pos (by omega), if_pos (by omega), if_pos (by omega), if_pos (by omega), List.drop_eq_getElem_cons hi, List.drop_eq_getElem_cons hi1, show rdOf false x0 (i : Int) = x0[i] from rdb_nat hi, show rdOf false x1 (i : Int) = x1[i] from rdb_nat hi1]
    by_cases c : x0[i] = x1[i]
    · rw [if_neg (by simp [c]), wrap64_of (by unfold I64; omega), show (i : Int) + 1 = ((i + 1 : Nat) : Int) by omega, ih (i + 1) (by omega)]
      simp only [List.cons.injEq, c, true_and]
    · rw [if_pos (by simpa using c)]; simp only [List.cons.injEq, c, false_and, decide_false]
def thrumref05_SameSigns.f (l0 l1 : List Bool) : Option Bool := some (decide (l0 = l1))
theorem thrumref05_SameSigns.calls (A0 : Option Addr) (c0 : Nat) (l0 : List Bool) (A1 : Option Addr) (c1 : Nat) (l1 : List Bool) (r : Bool) (w : World) (hr0 : Kd.C Kd.bool w A0 l0.length l0) (hc0 : l0.length ≤ c0) (hr1 : Kd.C Kd.bool w A1 l1.length l1) (hc1 : l1.length ≤ c1) (h : thrumref05_SameSigns.f l0 l1 = some r) :
    Calls Try.prog 74 #[.slice A0 l0.length c0, .slice A1 l1.length c1] w fun e w' => e = .returned (.bool r) ∧ Drawn0 w w' := by
  refine thrumref05_SameSignsP.calls (l0.length + 1) A0 c0 l0 A1 c1 l1 r w hr0 hc0 hr1 hc1 (Eq.trans ?_ h)
  have hm := Kd.C_max hr0
  unfold thrumref05_SameSignsP.f thrumref05_SameSigns.f
  by_cases c : l0.length = l1.length
  · rw [if_pos (by omega)]
    exact (thrumref05_SameSignsP.loop l0 l1 c hm l0.length 0 (by omega)).trans (by simp)
  · rw [if_neg (by omega)]
    have : l0 ≠ l1 := fun e => c (by rw [e])
    simp [this]


/-! ### thrumref03_SameNumbersP: function 76 -/
def thrumref03_SameNumbersP.l0 : Nat → List Int → List Int → Int → Int → Option (Bool)
 | 0, _, _, _, _ => none
 | k + 1, x0, x1, x12, x13 => if x13 < x12 then (if 0 ≤ x13 then (if x13 < (x0.length : Int) then (if x13 < (x1.length : Int) then (if (rd x0 x13) = (rd x1 x13) then (thrumref03_SameNumbersP.l0 k x0 x1 x12 (wrap64 (x13 + 1))) else (some false)) else (none)) else (none)) else (none)) else (some true)
def thrumref03_SameNumbersP.f (k : Nat) (l0 : List Int) (l1 : List Int) : Option (Bool) := if (l0.length : Int) = (l1.length : Int) then (thrumref03_SameNumbersP.l0 k l0 l1 (l0.length : Int) 0) else (some false)
theorem thrumref03_SameNumbersP.mono_l : ∀ k, (∀ y0 y1 y2 y3, LeO (thrumref03_SameNumbersP.l0 k y0 y1 y2 y3) (thrumref03_SameNumbersP.l0 (k + 1) y0 y1 y2 y3))
 | 0 => fun _ _ _ _ r h => by simp [thrumref03_SameNumbersP.l0] at h
 | k + 1 => by
  have ih0 := thrumref03_SameNumbersP.mono_l k
  ·
   intro y0 y1 y2 y3
   unfold thrumref03_SameNumbersP.l0
   repeat' first
   | (with_reducible exact ih0 _ _ _ _)
   | (with_reducible exact LeO.refl _)
   | (with_reducible exact LeO.none _)
   | (with_reducible refine LeO.ite ?_ ?_)
   | (with_reducible refine LeO.bind ?_ (fun _ => ?_))
theorem thrumref03_SameNumbersP.mono : ∀ a0 a1 k, LeO (thrumref03_SameNumbersP.f k a0 a1) (thrumref03_SameNumbersP.f (k + 1) a0 a1) := by
 intro a0 a1 k
 have ih0 := thrumref03_SameNumbersP.mono_l k
 unfold thrumref03_SameNumbersP.f
 repeat' first
   | (with_reducible exact ih0 _ _ _ _)
   | (with_reducible exact LeO.refl _)
   | (with_reducible exact LeO.none _)
   | (with_reducible refine LeO.ite ?_ ?_)
   | (with_reducible refine LeO.bind ?_ (fun _ => ?_))
set_option maxHeartbeats 8000000 in
set_option maxRecDepth 100000 in
theorem thrumref03_SameNumbersP.calls (k : Nat) (A0 : Option Addr) (c0 : Nat) (l0 : List Int) (A1 : Option Addr) (c1 : Nat) (l1 : List Int) (r : Bool) (w : World) (hr0 : Kd.C (Kd.int .u64) w A0 l0.length l0) (hc0 : l0.length ≤ c0) (hr1 : Kd.C (Kd.int .u64) w A1 l1.length l1) (hc1 : l1.length ≤ c1) (h : thrumref03_SameNumbersP.f k l0 l1 = some r) :
  Calls Try.prog 76 #[.slice A0 l0.length c0, .slice A1 l1.length c1] w fun e w' => e = .returned (.bool r) ∧ Drawn0 w w' := by
 have HR0 := ZM hr0
 have HC0 := ZM hc0
 clear hr0 hc0
 have HR1 := ZM hr1
 have HC1 := ZM hc1
 clear hr1 hc1
 have H : (if (l0.length : Int) = (l1.length : Int) then (thrumref03_SameNumbersP.l0 k l0 l1 (l0.length : Int) 0) else (some false)) = some r := h
 clear h
 by_cases c3 : (l0.length : Int) = (l1.length : Int)
 case neg =>
  rw [if_neg c3] at H
  have c3b0 : ((l0.length : Int) == (l1.length : Int)) = false := beq_eq_false_iff_ne.mpr c3
  have c3b1 : ((l0.length : Int) != (l1.length : Int)) = true := bne_iff_ne.mpr c3
  have c3b2 : (l0.length == l1.length) = false := by first | simpa using c3 | (simp at c3 ⊢; omega)
  obtain rfl := Option.some.inj H
  go_enter Try.func76, Try.ntmps76
  go_wp2
  repeat (go_quiet (fail); try go_wp2)
  go_ret
  exact ⟨by first | rfl | (simp; done) | (simp [*]; done), by repeat (first | exact ddR _ | apply ddS)⟩
 rw [if_pos c3] at H
 have c3b0 : ((l0.length : Int) == (l1.length : Int)) = true := beq_iff_eq.mpr c3
 have c3b1 : ((l0.length : Int) != (l1.length : Int)) = false := bne_eq_false_iff_eq.mpr c3
 have c3b2 : (l0.length == l1.length) = true := by first | simpa using c3 | (simp at c3 ⊢; omega)
 clear c3
 have H' := ZM H
 clear H
 go_enter Try.func76, Try.ntmps76
 go_wp2
 repeat (go_quiet (fail); try go_wp2)
 go_loopg [13] k (fun kq v13 w' => ∃ (x13_1 : Int), v13 = .int .i64 x13_1 ∧ Aside0 (thrumref03_SameNumbersP.l0 kq l0 l1 (l0.length : Int) x13_1 = some r) ∧ Aside0 (kq ≤ k) ∧ Drawn0 w w')
 case atStart => exact ⟨(0), Z5, H', ⟨Nat.le_refl _⟩, by repeat (first | exact ddR _ | apply ddS)⟩
 case round =>
  clear H'
  try clear c1
  try clear c3
  try clear c3b0
  try clear c3b1
  try clear c3b2
  obtain ⟨x13_1, rfl, HA, HK1, ⟨m1, rfl⟩⟩ := hrel
  cases gk with
  | zero => exact absurd HA.out (by simp [thrumref03_SameNumbersP.l0])
  | succ k1 =>
   have H := HA.out
   clear HA
   simp only [thrumref03_SameNumbersP.l0] at H
   by_cases c4 : x13_1 < (l0.length : Int)
   case neg =>
    rw [if_neg c4] at H
    have c4b0 : decide (x13_1 < (l0.length : Int)) = false := decide_eq_false c4
    clear c4
    obtain rfl := Option.some.inj H
    go_wp2
    repeat (go_quiet (fail); try go_wp2)
    go_ret
    exact ⟨by first | rfl | (simp; done) | (simp [*]; done), by repeat (first | exact ddR _ | apply ddS)⟩
   rw [if_pos c4] at H
   have c4b0 : decide (x13_1 < (l0.length : Int)) = true := decide_eq_true c4
   clear c4
   by_cases c5 : 0 ≤ x13_1
   case neg =>
    rw [if_neg c5] at H
    exact absurd H (by simp)
   rw [if_pos c5] at H
   have c5b0 : decide (0 ≤ x13_1) = true := decide_eq_true c5
   clear c5
   by_cases c6 : x13_1 < (l0.length : Int)
   case neg =>
    rw [if_neg c6] at H
    exact absurd H (by simp)
   rw [if_pos c6] at H
   have c6b0 : decide (x13_1 < (l0.length : Int)) = true := decide_eq_true c6
   clear c6
   by_cases c7 : x13_1 < (l1.length : Int)
   case neg =>
    rw [if_neg c7] at H
    exact absurd H (by simp)
   rw [if_pos c7] at H
   have c7b0 : decide (x13_1 < (l1.length : Int)) = true := decide_eq_true c7
   clear c7
   by_cases c8 : (rd l0 x13_1) = (rd l1 x13_1)
   case neg =>
    rw [if_neg c8] at H
    have c8b0 : ((rd l0 x13_1) == (rd l1 x13_1)) = false := beq_eq_false_iff_ne.mpr c8
    have c8b1 : ((rd l0 x13_1) != (rd l1 x13_1)) = true := bne_iff_ne.mpr c8
    obtain rfl := Option.some.inj H
    have p108 : 0 ≤ (x13_1 : Int) := of_decide_eq_true Z2
    have q108 : x13_1 < (l0.length : Int) := of_decide_eq_true Z2
    obtain ⟨ad108, e108, hx108_0⟩ := Kd.at_int HR0.out x13_1 p108 q108
    cases e108
    replace p108 := eq_true p108
    replace q108 := eq_true q108
    have p109 : 0 ≤ (x13_1 : Int) := of_decide_eq_true Z2
    have q109 : x13_1 < (l1.length : Int) := of_decide_eq_true Z2
    obtain ⟨ad109, e109, hx109_0⟩ := Kd.at_int HR1.out x13_1 p109 q109
    cases e109
    replace p109 := eq_true p109
    replace q109 := eq_true q109
    go_wp2
    repeat (go_quiet (fail); try go_wp2)
    go_ret
    exact ⟨by first | rfl | (simp; done) | (simp [*]; done), by repeat (first | exact ddR _ | apply ddS)⟩
   rw [if_pos c8] at H
   have c8b0 : ((rd l0 x13_1) == (rd l1 x13_1)) = true := beq_iff_eq.mpr c8
   have c8b1 : ((rd l0 x13_1) != (rd l1 x13_1)) = false := bne_eq_false_iff_eq.mpr c8
   clear c8
   have H' := ZM H
   clear H
   have p108 : 0 ≤ (x13_1 : Int) := of_decide_eq_true Z2
   have q108 : x13_1 < (l0.length : Int) := of_decide_eq_true Z2
   obtain ⟨ad108, e108, hx108_0⟩ := Kd.at_int HR0.out x13_1 p108 q108
   cases e108
   replace p108 := eq_true p108
   replace q108 := eq_true q108
   have p109 : 0 ≤ (x13_1 : Int) := of_decide_eq_true Z2
   have q109 : x13_1 < (l1.length : Int) := of_decide_eq_true Z2
   obtain ⟨ad109, e109, hx109_0⟩ := Kd.at_int HR1.out x13_1 p109 q109
   cases e109
   replace p109 := eq_true p109
   replace q109 := eq_true q109
   go_wp2
   repeat (go_quiet (fail); try go_wp2)
   go_roundg k1
   case measure => have := HK1.out; omega
   case rel => exact ⟨(wrap64 (x13_1 + 1)), Z5, H', ⟨by have := HK1.out; omega⟩, by repeat (first | exact ddR _ | apply ddS)⟩
theorem thrumref03_SameNumbersP.loop (x0 x1 : List Int) (hl : x0.length = x1.length) (hb : x0.length ≤ 9223372036854775807) : ∀ (d i : Nat), d + i = x0.length →
    thrumref03_SameNumbersP.l0 (d + 1) x0 x1 (x0.length : Int) (i : Int) = some (decide (x0.drop i = x1.drop i)) := by
  intro d
  induction d with
  | zero =>
    intro i hd
    rw [thrumref03_SameNumbersP.l0, if_neg (by omega), List.drop_eq_nil_of_le (by omega), List.drop_eq_nil_of_le (by omega)]; simp
  | succ d ih =>
    intro i hd
    have hi : i < x0.length := by omega
    have hi1 : i < x1.length := by omega
    rw [thrumref03_SameNumbersP.l0, if_pos (by omega), if_pos (by omega), if_pos (by omega), if_pos (by omega), List.drop_eq_getElem_cons hi, List.drop_eq_getElem_cons hi1, show rd x0 (i : Int) = x0[i] from rd_nat hi, show rd x1 (i : Int) = x1[i] from rd_nat hi1]
    by_cases c : x0[i] = x1[i]
    · rw [if_pos c, wrap64_of (by unfold I64; omega), show (i : Int) + 1 = ((i + 1 : Nat) : Int) by omega, ih (i + 1) (by omega)]
      simp only [List.cons.injEq, c, true_and]
    · rw [if_neg c]; simp only [List.cons.injEq, c, false_and, decide_false]
def thrumref03_SameNumbers.f (l0 l1 : List Int) : Option Bool := some (decide (l0 = l1))
theorem thrumref03_SameNumbers.calls (A0 : Option Addr) (c0 : Nat) (l0 : List Int) (A1 : Option Addr) (c1 : Nat) (l1 : List Int) (r : Bool) (w : World) (hr0 : Kd.C (Kd.int .u64) w A0 l0.length l0) (hc0 : l0.length ≤ c0) (hr1 : Kd.C (Kd.int .u64) w A1 l1.length l1) (hc1 : l1.length ≤ c1) (h : thrumref03_SameNumbers.f l0 l1 = some r) :
    Calls Try.prog 76 #[.slice A0 l0.length c0, .slice A1 l1.length c1] w fun e w' => e = .returned (.bool r) ∧ Drawn0 w w' := by
  refine thrumref03_SameNumbersP.calls (l0.length + 1) A0 c0 l0 A1 c1 l1 r w hr0 hc0 hr1 hc1 (Eq.trans ?_ h)
  have hm := Kd.C_max hr0
  unfold thrumref03_SameNumbersP.f thrumref03_SameNumbers.f
  by_cases c : l0.length = l1.length
  · rw [if_pos (by omega)]
    exact (thrumref03_SameNumbersP.loop l0 l1 c hm l0.length 0 (by omega)).trans (by simp)
  · rw [if_neg (by omega)]
    have : l0 ≠ l1 := fun e => c (by rw [e])
    simp [this]


end Go.Proofs.Ytkfhdpnfcaghbaa.HQ
