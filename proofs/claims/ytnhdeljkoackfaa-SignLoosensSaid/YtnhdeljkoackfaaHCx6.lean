/- What Go functions do, each as a plain Lean function with the same answers, and the proof of it, in every world: printed by the session's driver over the kit's print, with texts by hand. -/
import Derived.Test.YtnhdeljkoackfaaHCx0
import Derived.Test.YtnhdeljkoackfaaHCx5
namespace Go.Proofs.Ytnhdeljkoackfaa.HC
open Go.RowKit Go.Proofs.YtnhdeljkoackfaaW.PrintWords Go.Proofs.YtnhdeljkoackfaaW.PrintLast Go.Proofs.YtnhdeljkoackfaaW.PrintMore
attribute [local go_sem] max2_int min2_int max_two min_two max_three min_three max_four min_four   -- for this text's walks alone
open Go.Proofs.Ytnhdeljkoackfaa.Sp
attribute [local go_sem] Go.Proofs.Ytnhdeljkoackfaa.Sp.u64_not
set_option linter.unusedVariables false
set_option linter.unusedSimpArgs false

/-! ### slices_Equal_int64_int64P: function 46 -/
def slices_Equal_int64_int64P.l0 : Nat → List Int → List Int → Int → Int → Option (Bool)
  | 0, _, _, _, _ => none
  | k + 1, x0, x1, x12, x13 => if x13 < x12 then (if 0 ≤ x13 then (if x13 < (x0.length : Int) then (if x13 < (x1.length : Int) then (if (rd x0 x13) = (rd x1 x13) then (slices_Equal_int64_int64P.l0 k x0 x1 x12 (wrap64 (x13 + 1))) else (some false)) else (none)) else (none)) else (none)) else (some true)
def slices_Equal_int64_int64P.f (k : Nat) (l0 : List Int) (l1 : List Int) : Option (Bool) := if (l0.length : Int) = (l1.length : Int) then (slices_Equal_int64_int64P.l0 k l0 l1 (l0.length : Int) 0) else (some false)
theorem slices_Equal_int64_int64P.mono_l : ∀ k, (∀ y0 y1 y2 y3, LeO (slices_Equal_int64_int64P.l0 k y0 y1 y2 y3) (slices_Equal_int64_int64P.l0 (k + 1) y0 y1 y2 y3))
  | 0 => fun _ _ _ _ r h => by simp [slices_Equal_int64_int64P.l0] at h
  | k + 1 => by
    have ih0 := slices_Equal_int64_int64P.mono_l k
    · intro y0 y1 y2 y3
      unfold slices_Equal_int64_int64P.l0
      repeat' first
      | (with_reducible exact ih0 _ _ _ _)
      | (with_reducible exact LeO.refl _)
      | (with_reducible exact LeO.none _)
      | (with_reducible refine LeO.ite ?_ ?_)
      | (with_reducible refine LeO.bind ?_ (fun _ => ?_))
      | exact ih0 _ _ _ _
      | exact LeO.none _
      | refine LeO.ite ?_ ?_
      | refine LeO.bind ?_ (fun _ => ?_)
theorem slices_Equal_int64_int64P.mono : ∀ a0 a1 k, LeO (slices_Equal_int64_int64P.f k a0 a1) (slices_Equal_int64_int64P.f (k + 1) a0 a1) := by
  intro a0 a1 k
  have ih0 := slices_Equal_int64_int64P.mono_l k
  unfold slices_Equal_int64_int64P.f
  repeat' first
      | (with_reducible exact ih0 _ _ _ _)
      | (with_reducible exact LeO.refl _)
      | (with_reducible exact LeO.none _)
      | (with_reducible refine LeO.ite ?_ ?_)
      | (with_reducible refine LeO.bind ?_ (fun _ => ?_))
      | exact ih0 _ _ _ _
      | exact LeO.none _
      | refine LeO.ite ?_ ?_
      | refine LeO.bind ?_ (fun _ => ?_)
set_option maxHeartbeats 8000000 in
set_option maxRecDepth 100000 in
theorem slices_Equal_int64_int64P.calls (k : Nat) (A0 : Option Addr) (c0 : Nat) (l0 : List Int) (A1 : Option Addr) (c1 : Nat) (l1 : List Int) (r : Bool) (w : World) (hr0 : Kd.C (Kd.int .i64) w A0 l0.length l0) (hc0 : l0.length ≤ c0) (hr1 : Kd.C (Kd.int .i64) w A1 l1.length l1) (hc1 : l1.length ≤ c1) (h : slices_Equal_int64_int64P.f k l0 l1 = some r) :
    Calls Try.prog 46 #[.slice A0 l0.length c0, .slice A1 l1.length c1] w fun e w' => e = .returned (.bool r) ∧ Drawn0 w w' := by
  have HR0 := Aside0.mk hr0
  have HC0 := Aside0.mk hc0
  clear hr0 hc0
  have HR1 := Aside0.mk hr1
  have HC1 := Aside0.mk hc1
  clear hr1 hc1
  have H : (if (l0.length : Int) = (l1.length : Int) then (slices_Equal_int64_int64P.l0 k l0 l1 (l0.length : Int) 0) else (some false)) = some r := h
  clear h
  by_cases c3 : (l0.length : Int) = (l1.length : Int)
  · rw [if_pos c3] at H
    have c3b0 : ((l0.length : Int) == (l1.length : Int)) = true := beq_iff_eq.mpr c3
    have c3b1 : ((l0.length : Int) != (l1.length : Int)) = false := bne_eq_false_iff_eq.mpr c3
    have c3b2 : (l0.length == l1.length) = true := by first | simpa using c3 | (simp at c3 ⊢; omega)
    clear c3
    have H' := Aside0.mk H
    clear H
    go_enter Try.func46, Try.ntmps46
    go_wp2
    repeat (go_quiet (fail); try go_wp2)
    go_loopg [13] k (fun kq v13 w' => ∃ (x13_1 : Int), v13 = .int .i64 x13_1 ∧ Aside0 (slices_Equal_int64_int64P.l0 kq l0 l1 (l0.length : Int) x13_1 = some r) ∧ Aside0 (kq ≤ k) ∧ Drawn0 w w')
    case atStart => exact ⟨(0), (by first | rfl | (simp; done) | (simp [*]; done)), H', ⟨Nat.le_refl _⟩, by repeat (first | exact Drawn0.refl _ | apply Drawn0.step)⟩
    case round =>
      clear H'
      try clear c1
      try clear p2
      try clear c3
      try clear c3b0
      try clear c3b1
      try clear c3b2
      obtain ⟨x13_1, rfl, HA, HK1, ⟨m1, rfl⟩⟩ := hrel
      cases gk with
      | zero => exact absurd HA.out (by simp [slices_Equal_int64_int64P.l0])
      | succ k1 =>
        have H := HA.out
        clear HA
        simp only [slices_Equal_int64_int64P.l0] at H
        by_cases c4 : x13_1 < (l0.length : Int)
        · rw [if_pos c4] at H
          have c4b0 : decide (x13_1 < (l0.length : Int)) = true := decide_eq_true c4
          clear c4
          by_cases c5 : 0 ≤ x13_1
          · rw [if_pos c5] at H
            have c5b0 : decide (0 ≤ x13_1) = true := decide_eq_true c5
            clear c5
            by_cases c6 : x13_1 < (l0.length : Int)
            · rw [if_pos c6] at H
              have c6b0 : decide (x13_1 < (l0.length : Int)) = true := decide_eq_true c6
              clear c6
              by_cases c7 : x13_1 < (l1.length : Int)
              · rw [if_pos c7] at H
                have c7b0 : decide (x13_1 < (l1.length : Int)) = true := decide_eq_true c7
                clear c7
                by_cases c8 : (rd l0 x13_1) = (rd l1 x13_1)
                · rw [if_pos c8] at H
                  have c8b0 : ((rd l0 x13_1) == (rd l1 x13_1)) = true := beq_iff_eq.mpr c8
                  have c8b1 : ((rd l0 x13_1) != (rd l1 x13_1)) = false := bne_eq_false_iff_eq.mpr c8
                  clear c8
                  have H' := Aside0.mk H
                  clear H
                  have p124 : 0 ≤ (x13_1 : Int) := of_decide_eq_true (by first | (with_reducible assumption) | assumption)
                  have q124 : x13_1 < (l0.length : Int) := of_decide_eq_true (by first | (with_reducible assumption) | assumption)
                  obtain ⟨ad124, e124, hx124_0⟩ := Kd.at_int HR0.out x13_1 p124 q124
                  cases e124
                  replace p124 := eq_true p124
                  replace q124 := eq_true q124
                  have p125 : 0 ≤ (x13_1 : Int) := of_decide_eq_true (by first | (with_reducible assumption) | assumption)
                  have q125 : x13_1 < (l1.length : Int) := of_decide_eq_true (by first | (with_reducible assumption) | assumption)
                  obtain ⟨ad125, e125, hx125_0⟩ := Kd.at_int HR1.out x13_1 p125 q125
                  cases e125
                  replace p125 := eq_true p125
                  replace q125 := eq_true q125
                  go_wp2
                  repeat (go_quiet (fail); try go_wp2)
                  go_roundg k1
                  case measure => have := HK1.out; omega
                  case rel => exact ⟨(wrap64 (x13_1 + 1)), (by first | rfl | (simp; done) | (simp [*]; done)), H', ⟨by have := HK1.out; omega⟩, by repeat (first | exact Drawn0.refl _ | apply Drawn0.step)⟩
                · rw [if_neg c8] at H
                  have c8b0 : ((rd l0 x13_1) == (rd l1 x13_1)) = false := beq_eq_false_iff_ne.mpr c8
                  have c8b1 : ((rd l0 x13_1) != (rd l1 x13_1)) = true := bne_iff_ne.mpr c8
                  obtain rfl := Option.some.inj H
                  have p124 : 0 ≤ (x13_1 : Int) := of_decide_eq_true (by first | (with_reducible assumption) | assumption)
                  have q124 : x13_1 < (l0.length : Int) := of_decide_eq_true (by first | (with_reducible assumption) | assumption)
                  obtain ⟨ad124, e124, hx124_0⟩ := Kd.at_int HR0.out x13_1 p124 q124
                  cases e124
                  replace p124 := eq_true p124
                  replace q124 := eq_true q124
                  have p125 : 0 ≤ (x13_1 : Int) := of_decide_eq_true (by first | (with_reducible assumption) | assumption)
                  have q125 : x13_1 < (l1.length : Int) := of_decide_eq_true (by first | (with_reducible assumption) | assumption)
                  obtain ⟨ad125, e125, hx125_0⟩ := Kd.at_int HR1.out x13_1 p125 q125
                  cases e125
                  replace p125 := eq_true p125
                  replace q125 := eq_true q125
                  go_wp2
                  repeat (go_quiet (fail); try go_wp2)
                  go_ret
                  exact ⟨by first | rfl | (simp; done) | (simp [*]; done), by repeat (first | exact Drawn0.refl _ | apply Drawn0.step)⟩
              · rw [if_neg c7] at H
                exact absurd H (by simp)
            · rw [if_neg c6] at H
              exact absurd H (by simp)
          · rw [if_neg c5] at H
            exact absurd H (by simp)
        · rw [if_neg c4] at H
          have c4b0 : decide (x13_1 < (l0.length : Int)) = false := decide_eq_false c4
          clear c4
          obtain rfl := Option.some.inj H
          go_wp2
          repeat (go_quiet (fail); try go_wp2)
          go_ret
          exact ⟨by first | rfl | (simp; done) | (simp [*]; done), by repeat (first | exact Drawn0.refl _ | apply Drawn0.step)⟩
  · rw [if_neg c3] at H
    have c3b0 : ((l0.length : Int) == (l1.length : Int)) = false := beq_eq_false_iff_ne.mpr c3
    have c3b1 : ((l0.length : Int) != (l1.length : Int)) = true := bne_iff_ne.mpr c3
    have c3b2 : (l0.length == l1.length) = false := by first | simpa using c3 | (simp at c3 ⊢; omega)
    obtain rfl := Option.some.inj H
    go_enter Try.func46, Try.ntmps46
    go_wp2
    repeat (go_quiet (fail); try go_wp2)
    go_ret
    exact ⟨by first | rfl | (simp; done) | (simp [*]; done), by repeat (first | exact Drawn0.refl _ | apply Drawn0.step)⟩

theorem slices_Equal_int64_int64P.loop (x0 x1 : List Int) (hl : x0.length = x1.length) (hb : x0.length ≤ 9223372036854775807) : ∀ (d i : Nat), d + i = x0.length →
    slices_Equal_int64_int64P.l0 (d + 1) x0 x1 (x0.length : Int) (i : Int) = some (decide (x0.drop i = x1.drop i)) := by
  intro d
  induction d with
  | zero =>
    intro i hd
    rw [slices_Equal_int64_int64P.l0, if_neg (by omega), List.drop_eq_nil_of_le (by omega), List.drop_eq_nil_of_le (by omega)]; simp
  | succ d ih =>
    intro i hd
    have hi : i < x0.length := by omega
    have hi1 : i < x1.length := by omega
    rw [slices_Equal_int64_int64P.l0, if_pos (by omega), if_pos (by omega), if_pos (by omega), if_pos (by omega), List.drop_eq_getElem_cons hi, List.drop_eq_getElem_cons hi1, show rd x0 (i : Int) = x0[i] from rd_nat hi, show rd x1 (i : Int) = x1[i] from rd_nat hi1]
    by_cases c : x0[i] = x1[i]
    · rw [if_pos c, wrap64_of (by unfold I64; omega), show (i : Int) + 1 = ((i + 1 : Nat) : Int) by omega, ih (i + 1) (by omega)]
      simp only [List.cons.injEq, c, true_and]
    · rw [if_neg c]; simp only [List.cons.injEq, c, false_and, decide_false]
def slices_Equal_int64_int64.f (l0 l1 : List Int) : Option Bool := some (decide (l0 = l1))
theorem slices_Equal_int64_int64.calls (A0 : Option Addr) (c0 : Nat) (l0 : List Int) (A1 : Option Addr) (c1 : Nat) (l1 : List Int) (r : Bool) (w : World) (hr0 : Kd.C (Kd.int .i64) w A0 l0.length l0) (hc0 : l0.length ≤ c0) (hr1 : Kd.C (Kd.int .i64) w A1 l1.length l1) (hc1 : l1.length ≤ c1) (h : slices_Equal_int64_int64.f l0 l1 = some r) :
    Calls Try.prog 46 #[.slice A0 l0.length c0, .slice A1 l1.length c1] w fun e w' => e = .returned (.bool r) ∧ Drawn0 w w' := by
  refine slices_Equal_int64_int64P.calls (l0.length + 1) A0 c0 l0 A1 c1 l1 r w hr0 hc0 hr1 hc1 (Eq.trans ?_ h)
  have hm := Kd.C_max hr0
  unfold slices_Equal_int64_int64P.f slices_Equal_int64_int64.f
  by_cases c : l0.length = l1.length
  · rw [if_pos (by omega)]
    exact (slices_Equal_int64_int64P.loop l0 l1 c hm l0.length 0 (by omega)).trans (by simp)
  · rw [if_neg (by omega)]
    have : l0 ≠ l1 := fun e => c (by rw [e])
    simp [this]


/-! ### slices_Equal_uint64_uint64P: function 47 -/
def slices_Equal_uint64_uint64P.l0 : Nat → List Int → List Int → Int → Int → Option (Bool)
  | 0, _, _, _, _ => none
  | k + 1, x0, x1, x12, x13 => if x13 < x12 then (if 0 ≤ x13 then (if x13 < (x0.length : Int) then (if x13 < (x1.length : Int) then (if (rd x0 x13) = (rd x1 x13) then (slices_Equal_uint64_uint64P.l0 k x0 x1 x12 (wrap64 (x13 + 1))) else (some false)) else (none)) else (none)) else (none)) else (some true)
def slices_Equal_uint64_uint64P.f (k : Nat) (l0 : List Int) (l1 : List Int) : Option (Bool) := if (l0.length : Int) = (l1.length : Int) then (slices_Equal_uint64_uint64P.l0 k l0 l1 (l0.length : Int) 0) else (some false)
theorem slices_Equal_uint64_uint64P.mono_l : ∀ k, (∀ y0 y1 y2 y3, LeO (slices_Equal_uint64_uint64P.l0 k y0 y1 y2 y3) (slices_Equal_uint64_uint64P.l0 (k + 1) y0 y1 y2 y3))
  | 0 => fun _ _ _ _ r h => by simp [slices_Equal_uint64_uint64P.l0] at h
  | k + 1 => by
    have ih0 := slices_Equal_uint64_uint64P.mono_l k
    · intro y0 y1 y2 y3
      unfold slices_Equal_uint64_uint64P.l0
      repeat' first
      | (with_reducible exact ih0 _ _ _ _)
      | (with_reducible exact LeO.refl _)
      | (with_reducible exact LeO.none _)
      | (with_reducible refine LeO.ite ?_ ?_)
      | (with_reducible refine LeO.bind ?_ (fun _ => ?_))
      | exact ih0 _ _ _ _
      | exact LeO.none _
      | refine LeO.ite ?_ ?_
      | refine LeO.bind ?_ (fun _ => ?_)
theorem slices_Equal_uint64_uint64P.mono : ∀ a0 a1 k, LeO (slices_Equal_uint64_uint64P.f k a0 a1) (slices_Equal_uint64_uint64P.f (k + 1) a0 a1) := by
  intro a0 a1 k
  have ih0 := slices_Equal_uint64_uint64P.mono_l k
  unfold slices_Equal_uint64_uint64P.f
  repeat' first
      | (with_reducible exact ih0 _ _ _ _)
      | (with_reducible exact LeO.refl _)
      | (with_reducible exact LeO.none _)
      | (with_reducible refine LeO.ite ?_ ?_)
      | (with_reducible refine LeO.bind ?_ (fun _ => ?_))
      | exact ih0 _ _ _ _
      | exact LeO.none _
      | refine LeO.ite ?_ ?_
      | refine LeO.bind ?_ (fun _ => ?_)
set_option maxHeartbeats 8000000 in
set_option maxRecDepth 100000 in
theorem slices_Equal_uint64_uint64P.calls (k : Nat) (A0 : Option Addr) (c0 : Nat) (l0 : List Int) (A1 : Option Addr) (c1 : Nat) (l1 : List Int) (r : Bool) (w : World) (hr0 : Kd.C (Kd.int .u64) w A0 l0.length l0) (hc0 : l0.length ≤ c0) (hr1 : Kd.C (Kd.int .u64) w A1 l1.length l1) (hc1 : l1.length ≤ c1) (h : slices_Equal_uint64_uint64P.f k l0 l1 = some r) :
    Calls Try.prog 47 #[.slice A0 l0.length c0, .slice A1 l1.length c1] w fun e w' => e = .returned (.bool r) ∧ Drawn0 w w' := by
  have HR0 := Aside0.mk hr0
  have HC0 := Aside0.mk hc0
  clear hr0 hc0
  have HR1 := Aside0.mk hr1
  have HC1 := Aside0.mk hc1
  clear hr1 hc1
  have H : (if (l0.length : Int) = (l1.length : Int) then (slices_Equal_uint64_uint64P.l0 k l0 l1 (l0.length : Int) 0) else (some false)) = some r := h
  clear h
  by_cases c3 : (l0.length : Int) = (l1.length : Int)
  · rw [if_pos c3] at H
    have c3b0 : ((l0.length : Int) == (l1.length : Int)) = true := beq_iff_eq.mpr c3
    have c3b1 : ((l0.length : Int) != (l1.length : Int)) = false := bne_eq_false_iff_eq.mpr c3
    have c3b2 : (l0.length == l1.length) = true := by first | simpa using c3 | (simp at c3 ⊢; omega)
    clear c3
    have H' := Aside0.mk H
    clear H
    go_enter Try.func47, Try.ntmps47
    go_wp2
    repeat (go_quiet (fail); try go_wp2)
    go_loopg [13] k (fun kq v13 w' => ∃ (x13_1 : Int), v13 = .int .i64 x13_1 ∧ Aside0 (slices_Equal_uint64_uint64P.l0 kq l0 l1 (l0.length : Int) x13_1 = some r) ∧ Aside0 (kq ≤ k) ∧ Drawn0 w w')
    case atStart => exact ⟨(0), (by first | rfl | (simp; done) | (simp [*]; done)), H', ⟨Nat.le_refl _⟩, by repeat (first | exact Drawn0.refl _ | apply Drawn0.step)⟩
    case round =>
      clear H'
      try clear c1
      try clear p2
      try clear c3
      try clear c3b0
      try clear c3b1
      try clear c3b2
      obtain ⟨x13_1, rfl, HA, HK1, ⟨m1, rfl⟩⟩ := hrel
      cases gk with
      | zero => exact absurd HA.out (by simp [slices_Equal_uint64_uint64P.l0])
      | succ k1 =>
        have H := HA.out
        clear HA
        simp only [slices_Equal_uint64_uint64P.l0] at H
        by_cases c4 : x13_1 < (l0.length : Int)
        · rw [if_pos c4] at H
          have c4b0 : decide (x13_1 < (l0.length : Int)) = true := decide_eq_true c4
          clear c4
          by_cases c5 : 0 ≤ x13_1
          · rw [if_pos c5] at H
            have c5b0 : decide (0 ≤ x13_1) = true := decide_eq_true c5
            clear c5
            by_cases c6 : x13_1 < (l0.length : Int)
            · rw [if_pos c6] at H
              have c6b0 : decide (x13_1 < (l0.length : Int)) = true := decide_eq_true c6
              clear c6
              by_cases c7 : x13_1 < (l1.length : Int)
              · rw [if_pos c7] at H
                have c7b0 : decide (x13_1 < (l1.length : Int)) = true := decide_eq_true c7
                clear c7
                by_cases c8 : (rd l0 x13_1) = (rd l1 x13_1)
                · rw [if_pos c8] at H
                  have c8b0 : ((rd l0 x13_1) == (rd l1 x13_1)) = true := beq_iff_eq.mpr c8
                  have c8b1 : ((rd l0 x13_1) != (rd l1 x13_1)) = false := bne_eq_false_iff_eq.mpr c8
                  clear c8
                  have H' := Aside0.mk H
                  clear H
                  have p126 : 0 ≤ (x13_1 : Int) := of_decide_eq_true (by first | (with_reducible assumption) | assumption)
                  have q126 : x13_1 < (l0.length : Int) := of_decide_eq_true (by first | (with_reducible assumption) | assumption)
                  obtain ⟨ad126, e126, hx126_0⟩ := Kd.at_int HR0.out x13_1 p126 q126
                  cases e126
                  replace p126 := eq_true p126
                  replace q126 := eq_true q126
                  have p127 : 0 ≤ (x13_1 : Int) := of_decide_eq_true (by first | (with_reducible assumption) | assumption)
                  have q127 : x13_1 < (l1.length : Int) := of_decide_eq_true (by first | (with_reducible assumption) | assumption)
                  obtain ⟨ad127, e127, hx127_0⟩ := Kd.at_int HR1.out x13_1 p127 q127
                  cases e127
                  replace p127 := eq_true p127
                  replace q127 := eq_true q127
                  go_wp2
                  repeat (go_quiet (fail); try go_wp2)
                  go_roundg k1
                  case measure => have := HK1.out; omega
                  case rel => exact ⟨(wrap64 (x13_1 + 1)), (by first | rfl | (simp; done) | (simp [*]; done)), H', ⟨by have := HK1.out; omega⟩, by repeat (first | exact Drawn0.refl _ | apply Drawn0.step)⟩
                · rw [if_neg c8] at H
                  have c8b0 : ((rd l0 x13_1) == (rd l1 x13_1)) = false := beq_eq_false_iff_ne.mpr c8
                  have c8b1 : ((rd l0 x13_1) != (rd l1 x13_1)) = true := bne_iff_ne.mpr c8
                  obtain rfl := Option.some.inj H
                  have p126 : 0 ≤ (x13_1 : Int) := of_decide_eq_true (by first | (with_reducible assumption) | assumption)
                  have q126 : x13_1 < (l0.length : Int) := of_decide_eq_true (by first | (with_reducible assumption) | assumption)
                  obtain ⟨ad126, e126, hx126_0⟩ := Kd.at_int HR0.out x13_1 p126 q126
                  cases e126
                  replace p126 := eq_true p126
                  replace q126 := eq_true q126
                  have p127 : 0 ≤ (x13_1 : Int) := of_decide_eq_true (by first | (with_reducible assumption) | assumption)
                  have q127 : x13_1 < (l1.length : Int) := of_decide_eq_true (by first | (with_reducible assumption) | assumption)
                  obtain ⟨ad127, e127, hx127_0⟩ := Kd.at_int HR1.out x13_1 p127 q127
                  cases e127
                  replace p127 := eq_true p127
                  replace q127 := eq_true q127
                  go_wp2
                  repeat (go_quiet (fail); try go_wp2)
                  go_ret
                  exact ⟨by first | rfl | (simp; done) | (simp [*]; done), by repeat (first | exact Drawn0.refl _ | apply Drawn0.step)⟩
              · rw [if_neg c7] at H
                exact absurd H (by simp)
            · rw [if_neg c6] at H
              exact absurd H (by simp)
          · rw [if_neg c5] at H
            exact absurd H (by simp)
        · rw [if_neg c4] at H
          have c4b0 : decide (x13_1 < (l0.length : Int)) = false := decide_eq_false c4
          clear c4
          obtain rfl := Option.some.inj H
          go_wp2
          repeat (go_quiet (fail); try go_wp2)
          go_ret
          exact ⟨by first | rfl | (simp; done) | (simp [*]; done), by repeat (first | exact Drawn0.refl _ | apply Drawn0.step)⟩
  · rw [if_neg c3] at H
    have c3b0 : ((l0.length : Int) == (l1.length : Int)) = false := beq_eq_false_iff_ne.mpr c3
    have c3b1 : ((l0.length : Int) != (l1.length : Int)) = true := bne_iff_ne.mpr c3
    have c3b2 : (l0.length == l1.length) = false := by first | simpa using c3 | (simp at c3 ⊢; omega)
    obtain rfl := Option.some.inj H
    go_enter Try.func47, Try.ntmps47
    go_wp2
    repeat (go_quiet (fail); try go_wp2)
    go_ret
    exact ⟨by first | rfl | (simp; done) | (simp [*]; done), by repeat (first | exact Drawn0.refl _ | apply Drawn0.step)⟩

theorem slices_Equal_uint64_uint64P.loop (x0 x1 : List Int) (hl : x0.length = x1.length) (hb : x0.length ≤ 9223372036854775807) : ∀ (d i : Nat), d + i = x0.length →
    slices_Equal_uint64_uint64P.l0 (d + 1) x0 x1 (x0.length : Int) (i : Int) = some (decide (x0.drop i = x1.drop i)) := by
  intro d
  induction d with
  | zero =>
    intro i hd
    rw [slices_Equal_uint64_uint64P.l0, if_neg (by omega), List.drop_eq_nil_of_le (by omega), List.drop_eq_nil_of_le (by omega)]; simp
  | succ d ih =>
    intro i hd
    have hi : i < x0.length := by omega
    have hi1 : i < x1.length := by omega
    rw [slices_Equal_uint64_uint64P.l0, if_pos (by omega), if_pos (by omega), if_pos (by omega), if_pos (by omega), List.drop_eq_getElem_cons hi, List.drop_eq_getElem_cons hi1, show rd x0 (i : Int) = x0[i] from rd_nat hi, show rd x1 (i : Int) = x1[i] from rd_nat hi1]
    by_cases c : x0[i] = x1[i]
    · rw [if_pos c, wrap64_of (by unfold I64; omega), show (i : Int) + 1 = ((i + 1 : Nat) : Int) by omega, ih (i + 1) (by omega)]
      simp only [List.cons.injEq, c, true_and]
    · rw [if_neg c]; simp only [List.cons.injEq, c, false_and, decide_false]
def slices_Equal_uint64_uint64.f (l0 l1 : List Int) : Option Bool := some (decide (l0 = l1))
theorem slices_Equal_uint64_uint64.calls (A0 : Option Addr) (c0 : Nat) (l0 : List Int) (A1 : Option Addr) (c1 : Nat) (l1 : List Int) (r : Bool) (w : World) (hr0 : Kd.C (Kd.int .u64) w A0 l0.length l0) (hc0 : l0.length ≤ c0) (hr1 : Kd.C (Kd.int .u64) w A1 l1.length l1) (hc1 : l1.length ≤ c1) (h : slices_Equal_uint64_uint64.f l0 l1 = some r) :
    Calls Try.prog 47 #[.slice A0 l0.length c0, .slice A1 l1.length c1] w fun e w' => e = .returned (.bool r) ∧ Drawn0 w w' := by
  refine slices_Equal_uint64_uint64P.calls (l0.length + 1) A0 c0 l0 A1 c1 l1 r w hr0 hc0 hr1 hc1 (Eq.trans ?_ h)
  have hm := Kd.C_max hr0
  unfold slices_Equal_uint64_uint64P.f slices_Equal_uint64_uint64.f
  by_cases c : l0.length = l1.length
  · rw [if_pos (by omega)]
    exact (slices_Equal_uint64_uint64P.loop l0 l1 c hm l0.length 0 (by omega)).trans (by simp)
  · rw [if_neg (by omega)]
    have : l0 ≠ l1 := fun e => c (by rw [e])
    simp [this]


/-! ### frame_same: function 32 -/
def frame_same.f (a0_0 : Int) (a0_1 : Int) (l0_2 : List Int) (l0_3 : List Int) (a0_4 : Int) (a0_5 : Int) (l0_6 : List Int) (l0_7 : List Bool) (a1_0 : Int) (a1_1 : Int) (l1_2 : List Int) (l1_3 : List Int) (a1_4 : Int) (a1_5 : Int) (l1_6 : List Int) (l1_7 : List Bool) : Option Bool := some (decide (a0_0 = a1_0 ∧ a0_1 = a1_1 ∧ a0_4 = a1_4 ∧ a0_5 = a1_5 ∧ l0_2 = l1_2 ∧ l0_3 = l1_3 ∧ l0_6 = l1_6 ∧ l0_7 = l1_7))
set_option maxHeartbeats 4000000 in
set_option maxRecDepth 100000 in
theorem frame_same.calls (a0_0 : Int) (a0_1 : Int) (A0_2 : Option Addr) (c0_2 : Nat) (l0_2 : List Int) (A0_3 : Option Addr) (c0_3 : Nat) (l0_3 : List Int) (a0_4 : Int) (a0_5 : Int) (A0_6 : Option Addr) (c0_6 : Nat) (l0_6 : List Int) (A0_7 : Option Addr) (c0_7 : Nat) (l0_7 : List Bool) (a1_0 : Int) (a1_1 : Int) (A1_2 : Option Addr) (c1_2 : Nat) (l1_2 : List Int) (A1_3 : Option Addr) (c1_3 : Nat) (l1_3 : List Int) (a1_4 : Int) (a1_5 : Int) (A1_6 : Option Addr) (c1_6 : Nat) (l1_6 : List Int) (A1_7 : Option Addr) (c1_7 : Nat) (l1_7 : List Bool) (r : Bool) (w : World) (hr0_2 : Kd.C (Kd.int .i64) w A0_2 l0_2.length l0_2) (hc0_2 : l0_2.length ≤ c0_2) (hr0_3 : Kd.C (Kd.int .i64) w A0_3 l0_3.length l0_3) (hc0_3 : l0_3.length ≤ c0_3) (hr0_6 : Kd.C (Kd.int .u64) w A0_6 l0_6.length l0_6) (hc0_6 : l0_6.length ≤ c0_6) (hr0_7 : Kd.C Kd.bool w A0_7 l0_7.length l0_7) (hc0_7 : l0_7.length ≤ c0_7) (hr1_2 : Kd.C (Kd.int .i64) w A1_2 l1_2.length l1_2) (hc1_2 : l1_2.length ≤ c1_2) (hr1_3 : Kd.C (Kd.int .i64) w A1_3 l1_3.length l1_3) (hc1_3 : l1_3.length ≤ c1_3) (hr1_6 : Kd.C (Kd.int .u64) w A1_6 l1_6.length l1_6) (hc1_6 : l1_6.length ≤ c1_6) (hr1_7 : Kd.C Kd.bool w A1_7 l1_7.length l1_7) (hc1_7 : l1_7.length ≤ c1_7) (h : frame_same.f a0_0 a0_1 l0_2 l0_3 a0_4 a0_5 l0_6 l0_7 a1_0 a1_1 l1_2 l1_3 a1_4 a1_5 l1_6 l1_7 = some r) :
    Calls Try.prog 32 #[.agg #[.int .i64 a0_0, .int .i64 a0_1, .slice A0_2 l0_2.length c0_2, .slice A0_3 l0_3.length c0_3, .int .i64 a0_4, .int .i64 a0_5, .slice A0_6 l0_6.length c0_6, .slice A0_7 l0_7.length c0_7], .agg #[.int .i64 a1_0, .int .i64 a1_1, .slice A1_2 l1_2.length c1_2, .slice A1_3 l1_3.length c1_3, .int .i64 a1_4, .int .i64 a1_5, .slice A1_6 l1_6.length c1_6, .slice A1_7 l1_7.length c1_7]] w fun e w' => e = .returned (.bool r) ∧ Below w.heap.size w w' := by
  cases h
  obtain ⟨i, hi_⟩ : ∃ i, Try.prog.info? 2 = some i := by have := info2; cases h : Try.prog.info? 2 with | none => rw [h] at this; cases this | some i => exact ⟨i, rfl⟩
  have hq := fun (a b c d a' b' c' d' : Int) (w : World) => run_eq_arr4 (P := Try.prog) (t := 62) (e := 2) (k := .i64) Try.underlying62 hi_ Try.underlying2 (by kernel_rfl) (by kernel_rfl) a b c d a' b' c' d' w
  clear hi_
  have hu := Try.underlying29
  have hu2 := Try.underlying62
  have HR0_2 := Aside0.mk hr0_2
  have HC0_2 := Aside0.mk hc0_2
  have HR0_3 := Aside0.mk hr0_3
  have HC0_3 := Aside0.mk hc0_3
  have HR0_6 := Aside0.mk hr0_6
  have HC0_6 := Aside0.mk hc0_6
  have HR0_7 := Aside0.mk hr0_7
  have HC0_7 := Aside0.mk hc0_7
  have HR1_2 := Aside0.mk hr1_2
  have HC1_2 := Aside0.mk hc1_2
  have HR1_3 := Aside0.mk hr1_3
  have HC1_3 := Aside0.mk hc1_3
  have HR1_6 := Aside0.mk hr1_6
  have HC1_6 := Aside0.mk hc1_6
  have HR1_7 := Aside0.mk hr1_7
  have HC1_7 := Aside0.mk hc1_7
  clear hr0_2 hc0_2 hr0_3 hc0_3 hr0_6 hc0_6 hr0_7 hc0_7 hr1_2 hc1_2 hr1_3 hc1_3 hr1_6 hc1_6 hr1_7 hc1_7
  have HB : Aside0 (Below w.heap.size w ((w.alloc (Obj.cells #[Value.int .i64 a0_0, Value.int .i64 a0_1, Value.slice A0_2 l0_2.length c0_2, Value.slice A0_3 l0_3.length c0_3, Value.int .i64 a0_4, Value.int .i64 a0_5, Value.slice A0_6 l0_6.length c0_6, Value.slice A0_7 l0_7.length c0_7] 29)).alloc (Obj.cells #[Value.int .i64 a1_0, Value.int .i64 a1_1, Value.slice A1_2 l1_2.length c1_2, Value.slice A1_3 l1_3.length c1_3, Value.int .i64 a1_4, Value.int .i64 a1_5, Value.slice A1_6 l1_6.length c1_6, Value.slice A1_7 l1_7.length c1_7] 29))) := ⟨below_alloc (below_alloc (Below.refl _ _) _) _⟩
  have HBD := Aside0.mk (fun n => pw_below_drewN HB.out n)
  rcases Bool.eq_false_or_eq_true (a0_0 == a1_0 && (a0_1 == a1_1 && (a0_4 == a1_4 && a0_5 == a1_5))) with c0 | c0
  · have C0 := Aside0.mk c0
    rcases Bool.eq_false_or_eq_true (decide (l0_2 = l1_2)) with e2 | e2
    · have H2 : Aside0 (slices_Equal_int_int.f l0_2 l1_2 = some true) := ⟨congrArg some e2⟩
      have E2 := Aside0.mk e2
      clear e2
      rcases Bool.eq_false_or_eq_true (decide (l0_3 = l1_3)) with e3 | e3
      · have H3 : Aside0 (slices_Equal_int64_int64.f l0_3 l1_3 = some true) := ⟨congrArg some e3⟩
        have E3 := Aside0.mk e3
        clear e3
        rcases Bool.eq_false_or_eq_true (decide (l0_6 = l1_6)) with e6 | e6
        · have H6 : Aside0 (slices_Equal_uint64_uint64.f l0_6 l1_6 = some true) := ⟨congrArg some e6⟩
          have E6 := Aside0.mk e6
          clear e6
          rcases Bool.eq_false_or_eq_true (decide (l0_7 = l1_7)) with e7 | e7
          · have H7 : Aside0 (slices_Equal_bool_bool.f l0_7 l1_7 = some true) := ⟨congrArg some e7⟩
            have E7 := Aside0.mk e7
            clear e7
            go_enter Try.func32, Try.ntmps32
            go_wp2_with (first | (go_at_call 45; (with_reducible refine (slices_Equal_int_int.calls A0_2 c0_2 l0_2 A1_2 c1_2 l1_2 true _ (Kd.C_below HR0_2.out HB.out) HC0_2.out (Kd.C_below HR1_2.out HB.out) HC1_2.out H2.out).mono ?_); rintro ed W2 ⟨rfl, ⟨nd2, rfl⟩⟩) | (go_at_call 46; (with_reducible refine (slices_Equal_int64_int64.calls A0_3 c0_3 l0_3 A1_3 c1_3 l1_3 true _ (Kd.C_below HR0_3.out (HBD.out _)) HC0_3.out (Kd.C_below HR1_3.out (HBD.out _)) HC1_3.out H3.out).mono ?_); rintro ed W2 ⟨rfl, ⟨nd3, rfl⟩⟩) | (go_at_call 47; (with_reducible refine (slices_Equal_uint64_uint64.calls A0_6 c0_6 l0_6 A1_6 c1_6 l1_6 true _ (Kd.C_below HR0_6.out (HBD.out _)) HC0_6.out (Kd.C_below HR1_6.out (HBD.out _)) HC1_6.out H6.out).mono ?_); rintro ed W2 ⟨rfl, ⟨nd6, rfl⟩⟩) | (go_at_call 30; (with_reducible refine (slices_Equal_bool_bool.calls A0_7 c0_7 l0_7 A1_7 c1_7 l1_7 true _ (Kd.C_below HR0_7.out (HBD.out _)) HC0_7.out (Kd.C_below HR1_7.out (HBD.out _)) HC1_7.out H7.out).mono ?_); rintro ed W2 ⟨rfl, ⟨nd7, rfl⟩⟩))
            go_ret
            refine ⟨?_, by first | exact HB.out | exact HBD.out _⟩
            have hq0 := C0.out
            have hE2 := of_decide_eq_true E2.out
            have hE3 := of_decide_eq_true E3.out
            have hE6 := of_decide_eq_true E6.out
            have hE7 := of_decide_eq_true E7.out
            simp only [Bool.and_eq_true, Bool.and_eq_false_iff, beq_iff_eq, beq_eq_false_iff_ne] at hq0
            rw [decide_eq_true (show _ ∧ _ from ⟨hq0.1, hq0.2.1, hq0.2.2.1, hq0.2.2.2, hE2, hE3, hE6, hE7⟩)]
            rfl
          · have H7 : Aside0 (slices_Equal_bool_bool.f l0_7 l1_7 = some false) := ⟨congrArg some e7⟩
            have E7 := Aside0.mk e7
            clear e7
            go_enter Try.func32, Try.ntmps32
            go_wp2_with (first | (go_at_call 45; (with_reducible refine (slices_Equal_int_int.calls A0_2 c0_2 l0_2 A1_2 c1_2 l1_2 true _ (Kd.C_below HR0_2.out HB.out) HC0_2.out (Kd.C_below HR1_2.out HB.out) HC1_2.out H2.out).mono ?_); rintro ed W2 ⟨rfl, ⟨nd2, rfl⟩⟩) | (go_at_call 46; (with_reducible refine (slices_Equal_int64_int64.calls A0_3 c0_3 l0_3 A1_3 c1_3 l1_3 true _ (Kd.C_below HR0_3.out (HBD.out _)) HC0_3.out (Kd.C_below HR1_3.out (HBD.out _)) HC1_3.out H3.out).mono ?_); rintro ed W2 ⟨rfl, ⟨nd3, rfl⟩⟩) | (go_at_call 47; (with_reducible refine (slices_Equal_uint64_uint64.calls A0_6 c0_6 l0_6 A1_6 c1_6 l1_6 true _ (Kd.C_below HR0_6.out (HBD.out _)) HC0_6.out (Kd.C_below HR1_6.out (HBD.out _)) HC1_6.out H6.out).mono ?_); rintro ed W2 ⟨rfl, ⟨nd6, rfl⟩⟩) | (go_at_call 30; (with_reducible refine (slices_Equal_bool_bool.calls A0_7 c0_7 l0_7 A1_7 c1_7 l1_7 false _ (Kd.C_below HR0_7.out (HBD.out _)) HC0_7.out (Kd.C_below HR1_7.out (HBD.out _)) HC1_7.out H7.out).mono ?_); rintro ed W2 ⟨rfl, ⟨nd7, rfl⟩⟩))
            go_ret
            refine ⟨?_, by first | exact HB.out | exact HBD.out _⟩
            have hq0 := C0.out
            have hE2 := of_decide_eq_true E2.out
            have hE3 := of_decide_eq_true E3.out
            have hE6 := of_decide_eq_true E6.out
            have hE7 := of_decide_eq_false E7.out
            simp only [Bool.and_eq_true, Bool.and_eq_false_iff, beq_iff_eq, beq_eq_false_iff_ne] at hq0
            rw [decide_eq_false (fun hh => hE7 hh.2.2.2.2.2.2.2)]
            rfl
        · have H6 : Aside0 (slices_Equal_uint64_uint64.f l0_6 l1_6 = some false) := ⟨congrArg some e6⟩
          have E6 := Aside0.mk e6
          clear e6
          go_enter Try.func32, Try.ntmps32
          go_wp2_with (first | (go_at_call 45; (with_reducible refine (slices_Equal_int_int.calls A0_2 c0_2 l0_2 A1_2 c1_2 l1_2 true _ (Kd.C_below HR0_2.out HB.out) HC0_2.out (Kd.C_below HR1_2.out HB.out) HC1_2.out H2.out).mono ?_); rintro ed W2 ⟨rfl, ⟨nd2, rfl⟩⟩) | (go_at_call 46; (with_reducible refine (slices_Equal_int64_int64.calls A0_3 c0_3 l0_3 A1_3 c1_3 l1_3 true _ (Kd.C_below HR0_3.out (HBD.out _)) HC0_3.out (Kd.C_below HR1_3.out (HBD.out _)) HC1_3.out H3.out).mono ?_); rintro ed W2 ⟨rfl, ⟨nd3, rfl⟩⟩) | (go_at_call 47; (with_reducible refine (slices_Equal_uint64_uint64.calls A0_6 c0_6 l0_6 A1_6 c1_6 l1_6 false _ (Kd.C_below HR0_6.out (HBD.out _)) HC0_6.out (Kd.C_below HR1_6.out (HBD.out _)) HC1_6.out H6.out).mono ?_); rintro ed W2 ⟨rfl, ⟨nd6, rfl⟩⟩))
          go_ret
          refine ⟨?_, by first | exact HB.out | exact HBD.out _⟩
          have hq0 := C0.out
          have hE2 := of_decide_eq_true E2.out
          have hE3 := of_decide_eq_true E3.out
          have hE6 := of_decide_eq_false E6.out
          simp only [Bool.and_eq_true, Bool.and_eq_false_iff, beq_iff_eq, beq_eq_false_iff_ne] at hq0
          rw [decide_eq_false (fun hh => hE6 hh.2.2.2.2.2.2.1)]
          rfl
      · have H3 : Aside0 (slices_Equal_int64_int64.f l0_3 l1_3 = some false) := ⟨congrArg some e3⟩
        have E3 := Aside0.mk e3
        clear e3
        go_enter Try.func32, Try.ntmps32
        go_wp2_with (first | (go_at_call 45; (with_reducible refine (slices_Equal_int_int.calls A0_2 c0_2 l0_2 A1_2 c1_2 l1_2 true _ (Kd.C_below HR0_2.out HB.out) HC0_2.out (Kd.C_below HR1_2.out HB.out) HC1_2.out H2.out).mono ?_); rintro ed W2 ⟨rfl, ⟨nd2, rfl⟩⟩) | (go_at_call 46; (with_reducible refine (slices_Equal_int64_int64.calls A0_3 c0_3 l0_3 A1_3 c1_3 l1_3 false _ (Kd.C_below HR0_3.out (HBD.out _)) HC0_3.out (Kd.C_below HR1_3.out (HBD.out _)) HC1_3.out H3.out).mono ?_); rintro ed W2 ⟨rfl, ⟨nd3, rfl⟩⟩))
        go_ret
        refine ⟨?_, by first | exact HB.out | exact HBD.out _⟩
        have hq0 := C0.out
        have hE2 := of_decide_eq_true E2.out
        have hE3 := of_decide_eq_false E3.out
        simp only [Bool.and_eq_true, Bool.and_eq_false_iff, beq_iff_eq, beq_eq_false_iff_ne] at hq0
        rw [decide_eq_false (fun hh => hE3 hh.2.2.2.2.2.1)]
        rfl
    · have H2 : Aside0 (slices_Equal_int_int.f l0_2 l1_2 = some false) := ⟨congrArg some e2⟩
      have E2 := Aside0.mk e2
      clear e2
      go_enter Try.func32, Try.ntmps32
      go_wp2_with (first | (go_at_call 45; (with_reducible refine (slices_Equal_int_int.calls A0_2 c0_2 l0_2 A1_2 c1_2 l1_2 false _ (Kd.C_below HR0_2.out HB.out) HC0_2.out (Kd.C_below HR1_2.out HB.out) HC1_2.out H2.out).mono ?_); rintro ed W2 ⟨rfl, ⟨nd2, rfl⟩⟩))
      go_ret
      refine ⟨?_, by first | exact HB.out | exact HBD.out _⟩
      have hq0 := C0.out
      have hE2 := of_decide_eq_false E2.out
      simp only [Bool.and_eq_true, Bool.and_eq_false_iff, beq_iff_eq, beq_eq_false_iff_ne] at hq0
      rw [decide_eq_false (fun hh => hE2 hh.2.2.2.2.1)]
      rfl
  · have C0 := Aside0.mk c0
    go_enter Try.func32, Try.ntmps32
    go_wp2
    go_ret
    refine ⟨?_, by first | exact HB.out | exact HBD.out _⟩
    have hq0 := C0.out
    simp only [Bool.and_eq_true, Bool.and_eq_false_iff, beq_iff_eq, beq_eq_false_iff_ne] at hq0
    rw [decide_eq_false (fun hh => by omega)]
    rfl


end Go.Proofs.Ytnhdeljkoackfaa.HC
