/- What Go functions do, each as a plain Lean function with the same answers, and the proof of it, in every world: printed by the session's driver over the kit's print, with texts by hand. -/
import Derived.Test.YtkfhdpnfcaghbaaHQx0
import Derived.Test.YtkfhdpnfcaghbaaMini
namespace Go.Proofs.Ytkfhdpnfcaghbaa.HQ
open Go.RowKit Go.Proofs.YtkfhdpnfcaghbaaW.PrintWords Go.Proofs.YtkfhdpnfcaghbaaW.PrintLast Go.Proofs.YtkfhdpnfcaghbaaW.PrintMore
attribute [local go_sem] max2_int min2_int max_two min_two max_three min_three max_four min_four   -- for this text's walks alone
open Go.Proofs.Ytkfhdpnfcaghbaa.Sp
attribute [local go_sem] Go.Proofs.Ytkfhdpnfcaghbaa.Sp.u64_not
set_option linter.unusedVariables false
set_option linter.unusedSimpArgs false

/-! ### slices_Equal_bool_boolP: function 77 -/
def slices_Equal_bool_boolP.l0 : Nat → List Bool → List Bool → Int → Int → Option (Bool)
 | 0, _, _, _, _ => none
 | k + 1, x0, x1, x12, x13 => if x13 < x12 then (if 0 ≤ x13 then (if x13 < (x0.length : Int) then (if x13 < (x1.length : Int) then (if ((rdOf false x0 x13) != (rdOf false x1 x13)) = true then (some false) else (slices_Equal_bool_boolP.l0 k x0 x1 x12 (wrap64 (x13 + 1)))) else (none)) else (none)) else (none)) else (some true)
def slices_Equal_bool_boolP.f (k : Nat) (l0 : List Bool) (l1 : List Bool) : Option (Bool) := if (l0.length : Int) = (l1.length : Int) then (slices_Equal_bool_boolP.l0 k l0 l1 (l0.length : Int) 0) else (some false)
theorem slices_Equal_bool_boolP.mono_l : ∀ k, (∀ y0 y1 y2 y3, LeO (slices_Equal_bool_boolP.l0 k y0 y1 y2 y3) (slices_Equal_bool_boolP.l0 (k + 1) y0 y1 y2 y3))
 | 0 => fun _ _ _ _ r h => by simp [slices_Equal_bool_boolP.l0] at h
 | k + 1 => by
  have ih0 := slices_Equal_bool_boolP.mono_l k
  ·
   intro y0 y1 y2 y3
   unfold slices_Equal_bool_boolP.l0
   repeat' first
   | (with_reducible exact ih0 _ _ _ _)
   | (with_reducible exact LeO.refl _)
   | (with_reducible exact LeO.none _)
   | (with_reducible refine LeO.ite ?_ ?_)
   | (with_reducible refine LeO.bind ?_ (fun _ => ?_))
theorem slices_Equal_bool_boolP.mono : ∀ a0 a1 k, LeO (slices_Equal_bool_boolP.f k a0 a1) (slices_Equal_bool_boolP.f (k + 1) a0 a1) := by
 intro a0 a1 k
 have ih0 := slices_Equal_bool_boolP.mono_l k
 unfold slices_Equal_bool_boolP.f
 repeat' first
   | (with_reducible exact ih0 _ _ _ _)
   | (with_reducible exact LeO.refl _)
   | (with_reducible exact LeO.none _)
   | (with_reducible refine LeO.ite ?_ ?_)
   | (with_reducible refine LeO.bind ?_ (fun _ => ?_))
set_option maxHeartbeats 8000000 in
set_option maxRecDepth 100000 in
theorem slices_Equal_bool_boolP.calls (k : Nat) (A0 : Option Addr) (c0 : Nat) (l0 : List Bool) (A1 : Option Addr) (c1 : Nat) (l1 : List Bool) (r : Bool) (w : World) (hr0 : Kd.C Kd.bool w A0 l0.length l0) (hc0 : l0.length ≤ c0) (hr1 : Kd.C Kd.bool w A1 l1.length l1) (hc1 : l1.length ≤ c1) (h : slices_Equal_bool_boolP.f k l0 l1 = some r) :
  Calls Try.prog 77 #[.slice A0 l0.length c0, .slice A1 l1.length c1] w fun e w' => e = .returned (.bool r) ∧ Drawn0 w w' := by
 have HR0 := ZM hr0
 have HC0 := ZM hc0
 clear hr0 hc0
 have HR1 := ZM hr1
 have HC1 := ZM hc1
 clear hr1 hc1
 have H : (if (l0.length : Int) = (l1.length : Int) then (slices_Equal_bool_boolP.l0 k l0 l1 (l0.length : Int) 0) else (some false)) = some r := h
 clear h
 by_cases c3 : (l0.length : Int) = (l1.length : Int)
 case neg =>
  rw [if_neg c3] at H
  have c3b0 : ((l0.length : Int) == (l1.length : Int)) = false := beq_eq_false_iff_ne.mpr c3
  have c3b1 : ((l0.length : Int) != (l1.length : Int)) = true := bne_iff_ne.mpr c3
  have c3b2 : (l0.length == l1.length) = false := by first | simpa using c3 | (simp at c3 ⊢; omega)
  obtain rfl := Option.some.inj H
  go_enter Try.func77, Try.ntmps77
  go_wp2
  repeat (go_quiet (fail); try go_wp2)
  go_ret
  exact ⟨by first | rfl | (simp; done) | (simp [*]; done), by repeat (first | exact ddR _ | apply ddS)⟩
 rw [if_pos c3] at H
 have c3b0 : ((l0.length : Int) == (l1.length : Int)) = true := beq_iff_eq.mpr c3
 have c3b1 : ((l0.length : Int) != (l1.length : Int)) = false := bne_eq_false_iff_eq.mpr c3
 have c3b2 : (l0.length == l1.length) = true := by first | simpa using c3 | (simp at c3 ⊢; omega)
 clear c3
 have H' := ZM H
 clear H
 go_enter Try.func77, Try.ntmps77
 go_wp2
 repeat (go_quiet (fail); try go_wp2)
 go_loopg [13] k (fun kq v13 w' => ∃ (x13_1 : Int), v13 = .int .i64 x13_1 ∧ Aside0 (slices_Equal_bool_boolP.l0 kq l0 l1 (l0.length : Int) x13_1 = some r) ∧ Aside0 (kq ≤ k) ∧ Drawn0 w w')
 case atStart => exact ⟨(0), Z5, H', ⟨Nat.le_refl _⟩, by repeat (first | exact ddR _ | apply ddS)⟩
 case round =>
  clear H'
  try clear c1
  try clear c3
  try clear c3b0
  try clear c3b1
  try clear c3b2
  obtain ⟨x13_1, rfl, HA, HK1, ⟨m1, rfl⟩⟩ := hrel
  cases gk with
  | zero => exact absurd HA.out (by simp [slices_Equal_bool_boolP.l0])
  | succ k1 =>
   have H := HA.out
   clear HA
   simp only [slices_Equal_bool_boolP.l0] at H
   by_cases c4 : x13_1 < (l0.length : Int)
   case neg =>
    rw [if_neg c4] at H
    have c4b0 : decide (x13_1 < (l0.length : Int)) = false := decide_eq_false c4
    clear c4
    obtain rfl := Option.some.inj H
    go_wp2
    repeat (go_quiet (fail); try go_wp2)
    go_ret
    exact ⟨by first | rfl | (simp; done) | (simp [*]; done), by repeat (first | exact ddR _ | apply ddS)⟩
   rw [if_pos c4] at H
   have c4b0 : decide (x13_1 < (l0.length : Int)) = true := decide_eq_true c4
   clear c4
   by_cases c5 : 0 ≤ x13_1
   case neg =>
    rw [if_neg c5] at H
    exact absurd H (by simp)
   rw [if_pos c5] at H
   have c5b0 : decide (0 ≤ x13_1) = true := decide_eq_true c5
   clear c5
   by_cases c6 : x13_1 < (l0.length : Int)
   case neg =>
    rw [if_neg c6] at H
    exact absurd H (by simp)
   rw [if_pos c6] at H
   have c6b0 : decide (x13_1 < (l0.length : Int)) = true := decide_eq_true c6
   clear c6
   by_cases c7 : x13_1 < (l1.length : Int)
   case neg =>
    rw [if_neg c7] at H
    exact absurd H (by simp)
   rw [if_pos c7] at H
   have c7b0 : decide (x13_1 < (l1.length : Int)) = true := decide_eq_true c7
   clear c7
   by_cases c8 : ((rdOf false l0 x13_1) != (rdOf false l1 x13_1)) = true
   ·
    rw [if_pos c8] at H
    have c8b0 : ((rdOf false l0 x13_1) != (rdOf false l1 x13_1)) = true := c8
    (try (have c8b1 : decide ((rdOf false l0 x13_1) = (rdOf false l1 x13_1)) = false := by simpa using c8))
    (try (have c8b2 : ((rdOf false l0 x13_1) == (rdOf false l1 x13_1)) = false := by simpa using c8))
    (try (have c8b3 : ¬ ((rdOf false l0 x13_1) = (rdOf false l1 x13_1)) := by simpa using c8))
    clear c8
    obtain rfl := Option.some.inj H
    have p171 : 0 ≤ (x13_1 : Int) := of_decide_eq_true Z2
    have q171 : x13_1 < (l0.length : Int) := of_decide_eq_true Z2
    obtain ⟨ad171, e171, hx171_0⟩ := Kd.at_bool HR0.out x13_1 p171 q171
    cases e171
    replace p171 := eq_true p171
    replace q171 := eq_true q171
    have p172 : 0 ≤ (x13_1 : Int) := of_decide_eq_true Z2
    have q172 : x13_1 < (l1.length : Int) := of_decide_eq_true Z2
    obtain ⟨ad172, e172, hx172_0⟩ := Kd.at_bool HR1.out x13_1 p172 q172
    cases e172
    replace p172 := eq_true p172
    replace q172 := eq_true q172
    go_wp2
    repeat (go_quiet (fail); try go_wp2)
    go_ret
    exact ⟨by first | rfl | (simp; done) | (simp [*]; done), by repeat (first | exact ddR _ | apply ddS)⟩
   rw [if_neg c8] at H
   have c8b0 : ((rdOf false l0 x13_1) != (rdOf false l1 x13_1)) = false := by simpa using c8
   (try (have c8b1 : decide ((rdOf false l0 x13_1) = (rdOf false l1 x13_1)) = true := by simpa using c8))
   (try (have c8b2 : ((rdOf false l0 x13_1) == (rdOf false l1 x13_1)) = true := by simpa using c8))
   clear c8
   have H' := ZM H
   clear H
   have p171 : 0 ≤ (x13_1 : Int) := of_decide_eq_true Z2
   have q171 : x13_1 < (l0.length : Int) := of_decide_eq_true Z2
   obtain ⟨ad171, e171, hx171_0⟩ := Kd.at_bool HR0.out x13_1 p171 q171
   cases e171
   replace p171 := eq_true p171
   replace q171 := eq_true q171
   have p172 : 0 ≤ (x13_1 : Int) := of_decide_eq_true Z2
   have q172 : x13_1 < (l1.length : Int) := of_decide_eq_true Z2
   obtain ⟨ad172, e172, hx172_0⟩ := Kd.at_bool HR1.out x13_1 p172 q172
   cases e172
   replace p172 := eq_true p172
   replace q172 := eq_true q172
   go_wp2
   repeat (go_quiet (fail); try go_wp2)
   go_roundg k1
   case measure => have := HK1.out; omega
   case rel => exact ⟨(wrap64 (x13_1 + 1)), Z5, H', ⟨by have := HK1.out; omega⟩, by repeat (first | exact ddR _ | apply ddS)⟩
theorem slices_Equal_bool_boolP.loop (x0 x1 : List Bool) (hl : x0.length = x1.length) (hb : x0.length ≤ 9223372036854775807) : ∀ (d i : Nat), d + i = x0.length →
    slices_Equal_bool_boolP.l0 (d + 1) x0 x1 (x0.length : Int) (i : Int) = some (decide (x0.drop i = x1.drop i)) := by
  intro d
  induction d with
  | zero =>
    intro i hd
    rw [slices_Equal_bool_boolP.l0, if_neg (by omega), List.drop_eq_nil_of_le (by omega), List.drop_eq_nil_of_le (by omega)]; simp
  | succ d ih =>
    intro i hd
    have hi : i < x0.length := by omega
    have hi1 : i < x1.length := by omega
    rw [slices_Equal_bool_boolP.l0, if_pos (by omega), if_pos (by omega), if_pos (by omega), if_pos (by omega), List.drop_eq_getElem_cons hi, List.drop_eq_getElem_cons hi1, show rdOf false x0 (i : Int) = x0[i] from rdb_nat hi, show rdOf false x1 (i : Int) = x1[i] from rdb_nat hi1]
    by_cases c : x0[i] = x1[i]
    · rw [if_neg (by simp [c]), wrap64_of (by unfold I64; omega), show (i : Int) + 1 = ((i + 1 : Nat) : Int) by omega, ih (i + 1) (by omega)]
      simp only [List.cons.injEq, c, true_and]
    · rw [if_pos (by simpa using c)]; simp only [List.cons.injEq, c, false_and, decide_false]
def slices_Equal_bool_bool.f (l0 l1 : List Bool) : Option Bool := some (decide (l0 = l1))
theorem slices_Equal_bool_bool.calls (A0 : Option Addr) (c0 : Nat) (l0 : List Bool) (A1 : Option Addr) (c1 : Nat) (l1 : List Bool) (r : Bool) (w : World) (hr0 : Kd.C Kd.bool w A0 l0.length l0) (hc0 : l0.length ≤ c0) (hr1 : Kd.C Kd.bool w A1 l1.length l1) (hc1 : l1.length ≤ c1) (h : slices_Equal_bool_bool.f l0 l1 = some r) :
    Calls Try.prog 77 #[.slice A0 l0.length c0, .slice A1 l1.length c1] w fun e w' => e = .returned (.bool r) ∧ Drawn0 w w' := by
  refine slices_Equal_bool_boolP.calls (l0.length + 1) A0 c0 l0 A1 c1 l1 r w hr0 hc0 hr1 hc1 (Eq.trans ?_ h)
  have hm := Kd.C_max hr0
  unfold slices_Equal_bool_boolP.f slices_Equal_bool_bool.f
  by_cases c : l0.length = l1.length
  · rw [if_pos (by omega)]
    exact (slices_Equal_bool_boolP.loop l0 l1 c hm l0.length 0 (by omega)).trans (by simp)
  · rw [if_neg (by omega)]
    have : l0 ≠ l1 := fun e => c (by rw [e])
    simp [this]


/-! ### slices_Equal_int64_int64P: function 101 -/
def slices_Equal_int64_int64P.l0 : Nat → List Int → List Int → Int → Int → Option (Bool)
 | 0, _, _, _, _ => none
 | k + 1, x0, x1, x12, x13 => if x13 < x12 then (if 0 ≤ x13 then (if x13 < (x0.length : Int) then (if x13 < (x1.length : Int) then (if (rd x0 x13) = (rd x1 x13) then (slices_Equal_int64_int64P.l0 k x0 x1 x12 (wrap64 (x13 + 1))) else (some false)) else (none)) else (none)) else (none)) else (some true)
def slices_Equal_int64_int64P.f (k : Nat) (l0 : List Int) (l1 : List Int) : Option (Bool) := if (l0.length : Int) = (l1.length : Int) then (slices_Equal_int64_int64P.l0 k l0 l1 (l0.length : Int) 0) else (some false)
theorem slices_Equal_int64_int64P.mono_l : ∀ k, (∀ y0 y1 y2 y3, LeO (slices_Equal_int64_int64P.l0 k y0 y1 y2 y3) (slices_Equal_int64_int64P.l0 (k + 1) y0 y1 y2 y3))
 | 0 => fun _ _ _ _ r h => by simp [slices_Equal_int64_int64P.l0] at h
 | k + 1 => by
  have ih0 := slices_Equal_int64_int64P.mono_l k
  ·
   intro y0 y1 y2 y3
   unfold slices_Equal_int64_int64P.l0
   repeat' first
   | (with_reducible exact ih0 _ _ _ _)
   | (with_reducible exact LeO.refl _)
   | (with_reducible exact LeO.none _)
   | (with_reducible refine LeO.ite ?_ ?_)
   | (with_reducible refine LeO.bind ?_ (fun _ => ?_))
theorem slices_Equal_int64_int64P.mono : ∀ a0 a1 k, LeO (slices_Equal_int64_int64P.f k a0 a1) (slices_Equal_int64_int64P.f (k + 1) a0 a1) := by
 intro a0 a1 k
 have ih0 := slices_Equal_int64_int64P.mono_l k
 unfold slices_Equal_int64_int64P.f
 repeat' first
   | (with_reducible exact ih0 _ _ _ _)
   | (with_reducible exact LeO.refl _)
   | (with_reducible exact LeO.none _)
   | (with_reducible refine LeO.ite ?_ ?_)
   | (with_reducible refine LeO.bind ?_ (fun _ => ?_))
set_option maxHeartbeats 8000000 in
set_option maxRecDepth 100000 in
theorem slices_Equal_int64_int64P.calls (k : Nat) (A0 : Option Addr) (c0 : Nat) (l0 : List Int) (A1 : Option Addr) (c1 : Nat) (l1 : List Int) (r : Bool) (w : World) (hr0 : Kd.C (Kd.int .i64) w A0 l0.length l0) (hc0 : l0.length ≤ c0) (hr1 : Kd.C (Kd.int .i64) w A1 l1.length l1) (hc1 : l1.length ≤ c1) (h : slices_Equal_int64_int64P.f k l0 l1 = some r) :
  Calls Try.prog 101 #[.slice A0 l0.length c0, .slice A1 l1.length c1] w fun e w' => e = .returned (.bool r) ∧ Drawn0 w w' := by
 have HR0 := ZM hr0
 have HC0 := ZM hc0
 clear hr0 hc0
 have HR1 := ZM hr1
 have HC1 := ZM hc1
 clear hr1 hc1
 have H : (if (l0.length : Int) = (l1.length : Int) then (slices_Equal_int64_int64P.l0 k l0 l1 (l0.length : Int) 0) else (some false)) = some r := h
 clear h
 by_cases c3 : (l0.length : Int) = (l1.length : Int)
 case neg =>
  rw [if_neg c3] at H
  have c3b0 : ((l0.length : Int) == (l1.length : Int)) = false := beq_eq_false_iff_ne.mpr c3
  have c3b1 : ((l0.length : Int) != (l1.length : Int)) = true := bne_iff_ne.mpr c3
  have c3b2 : (l0.length == l1.length) = false := by first | simpa using c3 | (simp at c3 ⊢; omega)
  obtain rfl := Option.some.inj H
  go_enter Try.func101, Try.ntmps101
  go_wp2
  repeat (go_quiet (fail); try go_wp2)
  go_ret
  exact ⟨by first | rfl | (simp; done) | (simp [*]; done), by repeat (first | exact ddR _ | apply ddS)⟩
 rw [if_pos c3] at H
 have c3b0 : ((l0.length : Int) == (l1.length : Int)) = true := beq_iff_eq.mpr c3
 have c3b1 : ((l0.length : Int) != (l1.length : Int)) = false := bne_eq_false_iff_eq.mpr c3
 have c3b2 : (l0.length == l1.length) = true := by first | simpa using c3 | (simp at c3 ⊢; omega)
 clear c3
 have H' := ZM H
 clear H
 go_enter Try.func101, Try.ntmps101
 go_wp2
 repeat (go_quiet (fail); try go_wp2)
 go_loopg [13] k (fun kq v13 w' => ∃ (x13_1 : Int), v13 = .int .i64 x13_1 ∧ Aside0 (slices_Equal_int64_int64P.l0 kq l0 l1 (l0.length : Int) x13_1 = some r) ∧ Aside0 (kq ≤ k) ∧ Drawn0 w w')
 case atStart => exact ⟨(0), Z5, H', ⟨Nat.le_refl _⟩, by repeat (first | exact ddR _ | apply ddS)⟩
 case round =>
  clear H'
  try clear c1
  try clear c3
  try clear c3b0
  try clear c3b1
  try clear c3b2
  obtain ⟨x13_1, rfl, HA, HK1, ⟨m1, rfl⟩⟩ := hrel
  cases gk with
  | zero => exact absurd HA.out (by simp [slices_Equal_int64_int64P.l0])
  | succ k1 =>
   have H := HA.out
   clear HA
   simp only [slices_Equal_int64_int64P.l0] at H
   by_cases c4 : x13_1 < (l0.length : Int)
   case neg =>
    rw [if_neg c4] at H
    have c4b0 : decide (x13_1 < (l0.length : Int)) = false := decide_eq_false c4
    clear c4
    obtain rfl := Option.some.inj H
    go_wp2
    repeat (go_quiet (fail); try go_wp2)
    go_ret
    exact ⟨by first | rfl | (simp; done) | (simp [*]; done), by repeat (first | exact ddR _ | apply ddS)⟩
   rw [if_pos c4] at H
   have c4b0 : decide (x13_1 < (l0.length : Int)) = true := decide_eq_true c4
   clear c4
   by_cases c5 : 0 ≤ x13_1
   case neg =>
    rw [if_neg c5] at H
    exact absurd H (by simp)
   rw [if_pos c5] at H
   have c5b0 : decide (0 ≤ x13_1) = true := decide_eq_true c5
   clear c5
   by_cases c6 : x13_1 < (l0.length : Int)
   case neg =>
    rw [if_neg c6] at H
    exact absurd H (by simp)
   rw [if_pos c6] at H
   have c6b0 : decide (x13_1 < (l0.length : Int)) = true := decide_eq_true c6
   clear c6
   by_cases c7 : x13_1 < (l1.length : Int)
   case neg =>
    rw [if_neg c7] at H
    exact absurd H (by simp)
   rw [if_pos c7] at H
   have c7b0 : decide (x13_1 < (l1.length : Int)) = true := decide_eq_true c7
   clear c7
   by_cases c8 : (rd l0 x13_1) = (rd l1 x13_1)
   case neg =>
    rw [if_neg c8] at H
    have c8b0 : ((rd l0 x13_1) == (rd l1 x13_1)) = false := beq_eq_false_iff_ne.mpr c8
    have c8b1 : ((rd l0 x13_1) != (rd l1 x13_1)) = true := bne_iff_ne.mpr c8
    obtain rfl := Option.some.inj H
    have p173 : 0 ≤ (x13_1 : Int) := of_decide_eq_true Z2
    have q173 : x13_1 < (l0.length : Int) := of_decide_eq_true Z2
    obtain ⟨ad173, e173, hx173_0⟩ := Kd.at_int HR0.out x13_1 p173 q173
    cases e173
    replace p173 := eq_true p173
    replace q173 := eq_true q173
    have p174 : 0 ≤ (x13_1 : Int) := of_decide_eq_true Z2
    have q174 : x13_1 < (l1.length : Int) := of_decide_eq_true Z2
    obtain ⟨ad174, e174, hx174_0⟩ := Kd.at_int HR1.out x13_1 p174 q174
    cases e174
    replace p174 := eq_true p174
    replace q174 := eq_true q174
    go_wp2
    repeat (go_quiet (fail); try go_wp2)
    go_ret
    exact ⟨by first | rfl | (simp; done) | (simp [*]; done), by repeat (first | exact ddR _ | apply ddS)⟩
   rw [if_pos c8] at H
   have c8b0 : ((rd l0 x13_1) == (rd l1 x13_1)) = true := beq_iff_eq.mpr c8
   have c8b1 : ((rd l0 x13_1) != (rd l1 x13_1)) = false := bne_eq_false_iff_eq.mpr c8
   clear c8
   have H' := ZM H
   clear H
   have p173 : 0 ≤ (x13_1 : Int) := of_decide_eq_true Z2
   have q173 : x13_1 < (l0.length : Int) := of_decide_eq_true Z2
   obtain ⟨ad173, e173, hx173_0⟩ := Kd.at_int HR0.out x13_1 p173 q173
   cases e173
   replace p173 := eq_true p173
   replace q173 := eq_true q173
   have p174 : 0 ≤ (x13_1 : Int) := of_decide_eq_true Z2
   have q174 : x13_1 < (l1.length : Int) := of_decide_eq_true Z2
   obtain ⟨ad174, e174, hx174_0⟩ := Kd.at_int HR1.out x13_1 p174 q174
   cases e174
   replace p174 := eq_true p174
   replace q174 := eq_true q174
   go_wp2
   repeat (go_quiet (fail); try go_wp2)
   go_roundg k1
   case measure => have := HK1.out; omega
   case rel => exact ⟨(wrap64 (x13_1 + 1)), Z5, H', ⟨by have := HK1.out; omega⟩, by repeat (first | exact ddR _ | apply ddS)⟩
theorem slices_Equal_int64_int64P.loop (x0 x1 : List Int) (hl : x0.length = x1.length) (hb : x0.length ≤ 9223372036854775807) : ∀ (d i : Nat), d + i = x0.length →
    slices_Equal_int64_int64P.l0 (d + 1) x0 x1 (x0.length : Int) (i : Int) = some (decide (x0.drop i = x1.drop i)) := by
  intro d
  induction d with
  | zero =>
    intro i hd
    rw [slices_Equal_int64_int64P.l0, if_neg (by omega), List.drop_eq_nil_of_le (by omega), List.drop_eq_nil_of_le (by omega)]; simp
  | succ d ih =>
    intro i hd
    have hi : i < x0.length := by omega
    have hi1 : i < x1.length := by omega
    rw [slices_Equal_int64_int64P.l0, if_pos (by omega), if_pos (by omega), if_pos (by omega), if_pos (by omega), List.drop_eq_getElem_cons hi, List.drop_eq_getElem_cons hi1, show rd x0 (i : Int) = x0[i] from rd_nat hi, show rd x1 (i : Int) = x1[i] from rd_nat hi1]
    by_cases c : x0[i] = x1[i]
    · rw [if_pos c, wrap64_of (by unfold I64; omega), show (i : Int) + 1 = ((i + 1 : Nat) : Int) by omega, ih (i + 1) (by omega)]
      simp only [List.cons.injEq, c, true_and]
    · rw [if_neg c]; simp only [List.cons.injEq, c, false_and, decide_false]
def slices_Equal_int64_int64.f (l0 l1 : List Int) : Option Bool := some (decide (l0 = l1))
theorem slices_Equal_int64_int64.calls (A0 : Option Addr) (c0 : Nat) (l0 : List Int) (A1 : Option Addr) (c1 : Nat) (l1 : List Int) (r : Bool) (w : World) (hr0 : Kd.C (Kd.int .i64) w A0 l0.length l0) (hc0 : l0.length ≤ c0) (hr1 : Kd.C (Kd.int .i64) w A1 l1.length l1) (hc1 : l1.length ≤ c1) (h : slices_Equal_int64_int64.f l0 l1 = some r) :
    Calls Try.prog 101 #[.slice A0 l0.length c0, .slice A1 l1.length c1] w fun e w' => e = .returned (.bool r) ∧ Drawn0 w w' := by
  refine slices_Equal_int64_int64P.calls (l0.length + 1) A0 c0 l0 A1 c1 l1 r w hr0 hc0 hr1 hc1 (Eq.trans ?_ h)
  have hm := Kd.C_max hr0
  unfold slices_Equal_int64_int64P.f slices_Equal_int64_int64.f
  by_cases c : l0.length = l1.length
  · rw [if_pos (by omega)]
    exact (slices_Equal_int64_int64P.loop l0 l1 c hm l0.length 0 (by omega)).trans (by simp)
  · rw [if_neg (by omega)]
    have : l0 ≠ l1 := fun e => c (by rw [e])
    simp [this]


/-! ### slices_Equal_int_intP: function 105 -/
def slices_Equal_int_intP.l0 : Nat → List Int → List Int → Int → Int → Option (Bool)
 | 0, _, _, _, _ => none
 | k + 1, x0, x1, x12, x13 => if x13 < x12 then (if 0 ≤ x13 then (if x13 < (x0.length : Int) then (if x13 < (x1.length : Int) then (if (rd x0 x13) = (rd x1 x13) then (slices_Equal_int_intP.l0 k x0 x1 x12 (wrap64 (x13 + 1))) else (some false)) else (none)) else (none)) else (none)) else (some true)
def slices_Equal_int_intP.f (k : Nat) (l0 : List Int) (l1 : List Int) : Option (Bool) := if (l0.length : Int) = (l1.length : Int) then (slices_Equal_int_intP.l0 k l0 l1 (l0.length : Int) 0) else (some false)
theorem slices_Equal_int_intP.mono_l : ∀ k, (∀ y0 y1 y2 y3, LeO (slices_Equal_int_intP.l0 k y0 y1 y2 y3) (slices_Equal_int_intP.l0 (k + 1) y0 y1 y2 y3))
 | 0 => fun _ _ _ _ r h => by simp [slices_Equal_int_intP.l0] at h
 | k + 1 => by
  have ih0 := slices_Equal_int_intP.mono_l k
  ·
   intro y0 y1 y2 y3
   unfold slices_Equal_int_intP.l0
   repeat' first
   | (with_reducible exact ih0 _ _ _ _)
   | (with_reducible exact LeO.refl _)
   | (with_reducible exact LeO.none _)
   | (with_reducible refine LeO.ite ?_ ?_)
   | (with_reducible refine LeO.bind ?_ (fun _ => ?_))
theorem slices_Equal_int_intP.mono : ∀ a0 a1 k, LeO (slices_Equal_int_intP.f k a0 a1) (slices_Equal_int_intP.f (k + 1) a0 a1) := by
 intro a0 a1 k
 have ih0 := slices_Equal_int_intP.mono_l k
 unfold slices_Equal_int_intP.f
 repeat' first
   | (with_reducible exact ih0 _ _ _ _)
   | (with_reducible exact LeO.refl _)
   | (with_reducible exact LeO.none _)
   | (with_reducible refine LeO.ite ?_ ?_)
   | (with_reducible refine LeO.bind ?_ (fun _ => ?_))
set_option maxHeartbeats 8000000 in
set_option maxRecDepth 100000 in
theorem slices_Equal_int_intP.calls (k : Nat) (A0 : Option Addr) (c0 : Nat) (l0 : List Int) (A1 : Option Addr) (c1 : Nat) (l1 : List Int) (r : Bool) (w : World) (hr0 : Kd.C (Kd.int .i64) w A0 l0.length l0) (hc0 : l0.length ≤ c0) (hr1 : Kd.C (Kd.int .i64) w A1 l1.length l1) (hc1 : l1.length ≤ c1) (h : slices_Equal_int_intP.f k l0 l1 = some r) :
  Calls Try.prog 105 #[.slice A0 l0.length c0, .slice A1 l1.length c1] w fun e w' => e = .returned (.bool r) ∧ Drawn0 w w' := by
 have HR0 := ZM hr0
 have HC0 := ZM hc0
 clear hr0 hc0
 have HR1 := ZM hr1
 have HC1 := ZM hc1
 clear hr1 hc1
 have H : (if (l0.length : Int) = (l1.length : Int) then (slices_Equal_int_intP.l0 k l0 l1 (l0.length : Int) 0) else (some false)) = some r := h
 clear h
 by_cases c3 : (l0.length : Int) = (l1.length : Int)
 case neg =>
  rw [if_neg c3] at H
  have c3b0 : ((l0.length : Int) == (l1.length : Int)) = false := beq_eq_false_iff_ne.mpr c3
  have c3b1 : ((l0.length : Int) != (l1.length : Int)) = true := bne_iff_ne.mpr c3
  have c3b2 : (l0.length == l1.length) = false := by first | simpa using c3 | (simp at c3 ⊢; omega)
  obtain rfl := Option.some.inj H
  go_enter Try.func105, Try.ntmps105
  go_wp2
  repeat (go_quiet (fail); try go_wp2)
  go_ret
  exact ⟨by first | rfl | (simp; done) | (simp [*]; done), by repeat (first | exact ddR _ | apply ddS)⟩
 rw [if_pos c3] at H
 have c3b0 : ((l0.length : Int) == (l1.length : Int)) = true := beq_iff_eq.mpr c3
 have c3b1 : ((l0.length : Int) != (l1.length : Int)) = false := bne_eq_false_iff_eq.mpr c3
 have c3b2 : (l0.length == l1.length) = true := by first | simpa using c3 | (simp at c3 ⊢; omega)
 clear c3
 have H' := ZM H
 clear H
 go_enter Try.func105, Try.ntmps105
 go_wp2
 repeat (go_quiet (fail); try go_wp2)
 go_loopg [13] k (fun kq v13 w' => ∃ (x13_1 : Int), v13 = .int .i64 x13_1 ∧ Aside0 (slices_Equal_int_intP.l0 kq l0 l1 (l0.length : Int) x13_1 = some r) ∧ Aside0 (kq ≤ k) ∧ Drawn0 w w')
 case atStart => exact ⟨(0), Z5, H', ⟨Nat.le_refl _⟩, by repeat (first | exact ddR _ | apply ddS)⟩
 case round =>
  clear H'
  try clear c1
  try clear c3
  try clear c3b0
  try clear c3b1
  try clear c3b2
  obtain ⟨x13_1, rfl, HA, HK1, ⟨m1, rfl⟩⟩ := hrel
  cases gk with
  | zero => exact absurd HA.out (by simp [slices_Equal_int_intP.l0])
  | succ k1 =>
   have H := HA.out
   clear HA
   simp only [slices_Equal_int_intP.l0] at H
   by_cases c4 : x13_1 < (l0.length : Int)
   case neg =>
    rw [if_neg c4] at H
    have c4b0 : decide (x13_1 < (l0.length : Int)) = false := decide_eq_false c4
    clear c4
    obtain rfl := Option.some.inj H
    go_wp2
    repeat (go_quiet (fail); try go_wp2)
    go_ret
    exact ⟨by first | rfl | (simp; done) | (simp [*]; done), by repeat (first | exact ddR _ | apply ddS)⟩
   rw [if_pos c4] at H
   have c4b0 : decide (x13_1 < (l0.length : Int)) = true := decide_eq_true c4
   clear c4
   by_cases c5 : 0 ≤ x13_1
   case neg =>
    rw [if_neg c5] at H
    exact absurd H (by simp)
   rw [if_pos c5] at H
   have c5b0 : decide (0 ≤ x13_1) = true := decide_eq_true c5
   clear c5
   by_cases c6 : x13_1 < (l0.length : Int)
   case neg =>
    rw [if_neg c6] at H
    exact absurd H (by simp)
   rw [if_pos c6] at H
   have c6b0 : decide (x13_1 < (l0.length : Int)) = true := decide_eq_true c6
   clear c6
   by_cases c7 : x13_1 < (l1.length : Int)
   case neg =>
    rw [if_neg c7] at H
    exact absurd H (by simp)
   rw [if_pos c7] at H
   have c7b0 : decide (x13_1 < (l1.length : Int)) = true := decide_eq_true c7
   clear c7
   by_cases c8 : (rd l0 x13_1) = (rd l1 x13_1)
   case neg =>
    rw [if_neg c8] at H
    have c8b0 : ((rd l0 x13_1) == (rd l1 x13_1)) = false := beq_eq_false_iff_ne.mpr c8
    have c8b1 : ((rd l0 x13_1) != (rd l1 x13_1)) = true := bne_iff_ne.mpr c8
    obtain rfl := Option.some.inj H
    have p175 : 0 ≤ (x13_1 : Int) := of_decide_eq_true Z2
    have q175 : x13_1 < (l0.length : Int) := of_decide_eq_true Z2
    obtain ⟨ad175, e175, hx175_0⟩ := Kd.at_int HR0.out x13_1 p175 q175
    cases e175
    replace p175 := eq_true p175
    replace q175 := eq_true q175
    have p176 : 0 ≤ (x13_1 : Int) := of_decide_eq_true Z2
    have q176 : x13_1 < (l1.length : Int) := of_decide_eq_true Z2
    obtain ⟨ad176, e176, hx176_0⟩ := Kd.at_int HR1.out x13_1 p176 q176
    cases e176
    replace p176 := eq_true p176
    replace q176 := eq_true q176
    go_wp2
    repeat (go_quiet (fail); try go_wp2)
    go_ret
    exact ⟨by first | rfl | (simp; done) | (simp [*]; done), by repeat (first | exact ddR _ | apply ddS)⟩
   rw [if_pos c8] at H
   have c8b0 : ((rd l0 x13_1) == (rd l1 x13_1)) = true := beq_iff_eq.mpr c8
   have c8b1 : ((rd l0 x13_1) != (rd l1 x13_1)) = false := bne_eq_false_iff_eq.mpr c8
   clear c8
   have H' := ZM H
   clear H
   have p175 : 0 ≤ (x13_1 : Int) := of_decide_eq_true Z2
   have q175 : x13_1 < (l0.length : Int) := of_decide_eq_true Z2
   obtain ⟨ad175, e175, hx175_0⟩ := Kd.at_int HR0.out x13_1 p175 q175
   cases e175
   replace p175 := eq_true p175
   replace q175 := eq_true q175
   have p176 : 0 ≤ (x13_1 : Int) := of_decide_eq_true Z2
   have q176 : x13_1 < (l1.length : Int) := of_decide_eq_true Z2
   obtain ⟨ad176, e176, hx176_0⟩ := Kd.at_int HR1.out x13_1 p176 q176
   cases e176
   replace p176 := eq_true p176
   replace q176 := eq_true q176
   go_wp2
   repeat (go_quiet (fail); try go_wp2)
   go_roundg k1
   case measure => have := HK1.out; omega
   case rel => exact ⟨(wrap64 (x13_1 + 1)), Z5, H', ⟨by have := HK1.out; omega⟩, by repeat (first | exact ddR _ | apply ddS)⟩
theorem slices_Equal_int_intP.loop (x0 x1 : List Int) (hl : x0.length = x1.length) (hb : x0.length ≤ 9223372036854775807) : ∀ (d i : Nat), d + i = x0.length →
    slices_Equal_int_intP.l0 (d + 1) x0 x1 (x0.length : Int) (i : Int) = some (decide (x0.drop i = x1.drop i)) := by
  intro d
  induction d with
  | zero =>
    intro i hd
    rw [slices_Equal_int_intP.l0, if_neg (by omega), List.drop_eq_nil_of_le (by omega), List.drop_eq_nil_of_le (by omega)]; simp
  | succ d ih =>
    intro i hd
    have hi : i < x0.length := by omega
    have hi1 : i < x1.length := by omega
    rw [slices_Equal_int_intP.l0, if_pos (by omega), if_pos (by omega), if_pos (by omega), if_pos (by omega), List.drop_eq_getElem_cons hi, List.drop_eq_getElem_cons hi1, show rd x0 (i : Int) = x0[i] from rd_nat hi, show rd x1 (i : Int) = x1[i] from rd_nat hi1]
    by_cases c : x0[i] = x1[i]
    · rw [if_pos c, wrap64_of (by unfold I64; omega), show (i : Int) + 1 = ((i + 1 : Nat) : Int) by omega, ih (i + 1) (by omega)]
      simp only [List.cons.injEq, c, true_and]
    · rw [if_neg c]; simp only [List.cons.injEq, c, false_and, decide_false]
def slices_Equal_int_int.f (l0 l1 : List Int) : Option Bool := some (decide (l0 = l1))
theorem slices_Equal_int_int.calls (A0 : Option Addr) (c0 : Nat) (l0 : List Int) (A1 : Option Addr) (c1 : Nat) (l1 : List Int) (r : Bool) (w : World) (hr0 : Kd.C (Kd.int .i64) w A0 l0.length l0) (hc0 : l0.length ≤ c0) (hr1 : Kd.C (Kd.int .i64) w A1 l1.length l1) (hc1 : l1.length ≤ c1) (h : slices_Equal_int_int.f l0 l1 = some r) :
    Calls Try.prog 105 #[.slice A0 l0.length c0, .slice A1 l1.length c1] w fun e w' => e = .returned (.bool r) ∧ Drawn0 w w' := by
  refine slices_Equal_int_intP.calls (l0.length + 1) A0 c0 l0 A1 c1 l1 r w hr0 hc0 hr1 hc1 (Eq.trans ?_ h)
  have hm := Kd.C_max hr0
  unfold slices_Equal_int_intP.f slices_Equal_int_int.f
  by_cases c : l0.length = l1.length
  · rw [if_pos (by omega)]
    exact (slices_Equal_int_intP.loop l0 l1 c hm l0.length 0 (by omega)).trans (by simp)
  · rw [if_neg (by omega)]
    have : l0 ≠ l1 := fun e => c (by rw [e])
    simp [this]


/-! ### slices_Equal_uint64_uint64P: function 106 -/
def slices_Equal_uint64_uint64P.l0 : Nat → List Int → List Int → Int → Int → Option (Bool)
 | 0, _, _, _, _ => none
 | k + 1, x0, x1, x12, x13 => if x13 < x12 then (if 0 ≤ x13 then (if x13 < (x0.length : Int) then (if x13 < (x1.length : Int) then (if (rd x0 x13) = (rd x1 x13) then (slices_Equal_uint64_uint64P.l0 k x0 x1 x12 (wrap64 (x13 + 1))) else (some false)) else (none)) else (none)) else (none)) else (some true)
def slices_Equal_uint64_uint64P.f (k : Nat) (l0 : List Int) (l1 : List Int) : Option (Bool) := if (l0.length : Int) = (l1.length : Int) then (slices_Equal_uint64_uint64P.l0 k l0 l1 (l0.length : Int) 0) else (some false)
theorem slices_Equal_uint64_uint64P.mono_l : ∀ k, (∀ y0 y1 y2 y3, LeO (slices_Equal_uint64_uint64P.l0 k y0 y1 y2 y3) (slices_Equal_uint64_uint64P.l0 (k + 1) y0 y1 y2 y3))
 | 0 => fun _ _ _ _ r h => by simp [slices_Equal_uint64_uint64P.l0] at h
 | k + 1 => by
  have ih0 := slices_Equal_uint64_uint64P.mono_l k
  ·
   intro y0 y1 y2 y3
   unfold slices_Equal_uint64_uint64P.l0
   repeat' first
   | (with_reducible exact ih0 _ _ _ _)
   | (with_reducible exact LeO.refl _)
   | (with_reducible exact LeO.none _)
   | (with_reducible refine LeO.ite ?_ ?_)
   | (with_reducible refine LeO.bind ?_ (fun _ => ?_))
theorem slices_Equal_uint64_uint64P.mono : ∀ a0 a1 k, LeO (slices_Equal_uint64_uint64P.f k a0 a1) (slices_Equal_uint64_uint64P.f (k + 1) a0 a1) := by
 intro a0 a1 k
 have ih0 := slices_Equal_uint64_uint64P.mono_l k
 unfold slices_Equal_uint64_uint64P.f
 repeat' first
   | (with_reducible exact ih0 _ _ _ _)
   | (with_reducible exact LeO.refl _)
   | (with_reducible exact LeO.none _)
   | (with_reducible refine LeO.ite ?_ ?_)
   | (with_reducible refine LeO.bind ?_ (fun _ => ?_))
set_option maxHeartbeats 8000000 in
set_option maxRecDepth 100000 in
theorem slices_Equal_uint64_uint64P.calls (k : Nat) (A0 : Option Addr) (c0 : Nat) (l0 : List Int) (A1 : Option Addr) (c1 : Nat) (l1 : List Int) (r : Bool) (w : World) (hr0 : Kd.C (Kd.int .u64) w A0 l0.length l0) (hc0 : l0.length ≤ c0) (hr1 : Kd.C (Kd.int .u64) w A1 l1.length l1) (hc1 : l1.length ≤ c1) (h : slices_Equal_uint64_uint64P.f k l0 l1 = some r) :
  Calls Try.prog 106 #[.slice A0 l0.length c0, .slice A1 l1.length c1] w fun e w' => e = .returned (.bool r) ∧ Drawn0 w w' := by
 have HR0 := ZM hr0
 have HC0 := ZM hc0
 clear hr0 hc0
 have HR1 := ZM hr1
 have HC1 := ZM hc1
 clear hr1 hc1
 have H : (if (l0.length : Int) = (l1.length : Int) then (slices_Equal_uint64_uint64P.l0 k l0 l1 (l0.length : Int) 0) else (some false)) = some r := h
 clear h
 by_cases c3 : (l0.length : Int) = (l1.length : Int)
 case neg =>
  rw [if_neg c3] at H
  have c3b0 : ((l0.length : Int) == (l1.length : Int)) = false := beq_eq_false_iff_ne.mpr c3
  have c3b1 : ((l0.length : Int) != (l1.length : Int)) = true := bne_iff_ne.mpr c3
  have c3b2 : (l0.length == l1.length) = false := by first | simpa using c3 | (simp at c3 ⊢; omega)
  obtain rfl := Option.some.inj H
  go_enter Try.func106, Try.ntmps106
  go_wp2
  repeat (go_quiet (fail); try go_wp2)
  go_ret
  exact ⟨by first | rfl | (simp; done) | (simp [*]; done), by repeat (first | exact ddR _ | apply ddS)⟩
 rw [if_pos c3] at H
 have c3b0 : ((l0.length : Int) == (l1.length : Int)) = true := beq_iff_eq.mpr c3
 have c3b1 : ((l0.length : Int) != (l1.length : Int)) = false := bne_eq_false_iff_eq.mpr c3
 have c3b2 : (l0.length == l1.length) = true := by first | simpa using c3 | (simp at c3 ⊢; omega)
 clear c3
 have H' := ZM H
 clear H
 go_enter Try.func106, Try.ntmps106
 go_wp2
 repeat (go_quiet (fail); try go_wp2)
 go_loopg [13] k (fun kq v13 w' => ∃ (x13_1 : Int), v13 = .int .i64 x13_1 ∧ Aside0 (slices_Equal_uint64_uint64P.l0 kq l0 l1 (l0.length : Int) x13_1 = some r) ∧ Aside0 (kq ≤ k) ∧ Drawn0 w w')
 case atStart => exact ⟨(0), Z5, H', ⟨Nat.le_refl _⟩, by repeat (first | exact ddR _ | apply ddS)⟩
 case round =>
  clear H'
  try clear c1
  try clear c3
  try clear c3b0
  try clear c3b1
  try clear c3b2
  obtain ⟨x13_1, rfl, HA, HK1, ⟨m1, rfl⟩⟩ := hrel
  cases gk with
  | zero => exact absurd HA.out (by simp [slices_Equal_uint64_uint64P.l0])
  | succ k1 =>
   have H := HA.out
   clear HA
   simp only [slices_Equal_uint64_uint64P.l0] at H
   by_cases c4 : x13_1 < (l0.length : Int)
   case neg =>
    rw [if_neg c4] at H
    have c4b0 : decide (x13_1 < (l0.length : Int)) = false := decide_eq_false c4
    clear c4
    obtain rfl := Option.some.inj H
    go_wp2
    repeat (go_quiet (fail); try go_wp2)
    go_ret
    exact ⟨by first | rfl | (simp; done) | (simp [*]; done), by repeat (first | exact ddR _ | apply ddS)⟩
   rw [if_pos c4] at H
   have c4b0 : decide (x13_1 < (l0.length : Int)) = true := decide_eq_true c4
   clear c4
   by_cases c5 : 0 ≤ x13_1
   case neg =>
    rw [if_neg c5] at H
    exact absurd H (by simp)
   rw [if_pos c5] at H
   have c5b0 : decide (0 ≤ x13_1) = true := decide_eq_true c5
   clear c5
   by_cases c6 : x13_1 < (l0.length : Int)
   case neg =>
    rw [if_neg c6] at H
    exact absurd H (by simp)
   rw [if_pos c6] at H
   have c6b0 : decide (x13_1 < (l0.length : Int)) = true := decide_eq_true c6
   clear c6
   by_cases c7 : x13_1 < (l1.length : Int)
   case neg =>
    rw [if_neg c7] at H
    exact absurd H (by simp)
   rw [if_pos c7] at H
   have c7b0 : decide (x13_1 < (l1.length : Int)) = true := decide_eq_true c7
   clear c7
   by_cases c8 : (rd l0 x13_1) = (rd l1 x13_1)
   case neg =>
    rw [if_neg c8] at H
    have c8b0 : ((rd l0 x13_1) == (rd l1 x13_1)) = false := beq_eq_false_iff_ne.mpr c8
    have c8b1 : ((rd l0 x13_1) != (rd l1 x13_1)) = true := bne_iff_ne.mpr c8
    obtain rfl := Option.some.inj H
    have p177 : 0 ≤ (x13_1 : Int) := of_decide_eq_true Z2
    have q177 : x13_1 < (l0.length : Int) := of_decide_eq_true Z2
    obtain ⟨ad177, e177, hx177_0⟩ := Kd.at_int HR0.out x13_1 p177 q177
    cases e177
    replace p177 := eq_true p177
    replace q177 := eq_true q177
    have p178 : 0 ≤ (x13_1 : Int) := of_decide_eq_true Z2
    have q178 : x13_1 < (l1.length : Int) := of_decide_eq_true Z2
    obtain ⟨ad178, e178, hx178_0⟩ := Kd.at_int HR1.out x13_1 p178 q178
    cases e178
    replace p178 := eq_true p178
    replace q178 := eq_true q178
    go_wp2
    repeat (go_quiet (fail); try go_wp2)
    go_ret
    exact ⟨by first | rfl | (simp; done) | (simp [*]; done), by repeat (first | exact ddR _ | apply ddS)⟩
   rw [if_pos c8] at H
   have c8b0 : ((rd l0 x13_1) == (rd l1 x13_1)) = true := beq_iff_eq.mpr c8
   have c8b1 : ((rd l0 x13_1) != (rd l1 x13_1)) = false := bne_eq_false_iff_eq.mpr c8
   clear c8
   have H' := ZM H
   clear H
   have p177 : 0 ≤ (x13_1 : Int) := of_decide_eq_true Z2
   have q177 : x13_1 < (l0.length : Int) := of_decide_eq_true Z2
   obtain ⟨ad177, e177, hx177_0⟩ := Kd.at_int HR0.out x13_1 p177 q177
   cases e177
   replace p177 := eq_true p177
   replace q177 := eq_true q177
   have p178 : 0 ≤ (x13_1 : Int) := of_decide_eq_true Z2
   have q178 : x13_1 < (l1.length : Int) := of_decide_eq_true Z2
   obtain ⟨ad178, e178, hx178_0⟩ := Kd.at_int HR1.out x13_1 p178 q178
   cases e178
   replace p178 := eq_true p178
   replace q178 := eq_true q178
   go_wp2
   repeat (go_quiet (fail); try go_wp2)
   go_roundg k1
   case measure => have := HK1.out; omega
   case rel => exact ⟨(wrap64 (x13_1 + 1)), Z5, H', ⟨by have := HK1.out; omega⟩, by repeat (first | exact ddR _ | apply ddS)⟩
theorem slices_Equal_uint64_uint64P.loop (x0 x1 : List Int) (hl : x0.length = x1.length) (hb : x0.length ≤ 9223372036854775807) : ∀ (d i : Nat), d + i = x0.length →
    slices_Equal_uint64_uint64P.l0 (d + 1) x0 x1 (x0.length : Int) (i : Int) = some (decide (x0.drop i = x1.drop i)) := by
  intro d
  induction d with
  | zero =>
    intro i hd
    rw [slices_Equal_uint64_uint64P.l0, if_neg (by omega), List.drop_eq_nil_of_le (by omega), List.drop_eq_nil_of_le (by omega)]; simp
  | succ d ih =>
    intro i hd
    have hi : i < x0.length := by omega
    have hi1 : i < x1.length := by omega
    rw [slices_Equal_uint64_uint64P.l0, if_pos (by omega), if_pos (by omega), if_pos (by omega), if_pos (by omega), List.drop_eq_getElem_cons hi, List.drop_eq_getElem_cons hi1, show rd x0 (i : Int) = x0[i] from rd_nat hi, show rd x1 (i : Int) = x1[i] from rd_nat hi1]
    by_cases c : x0[i] = x1[i]
    · rw [if_pos c, wrap64_of (by unfold I64; omega), show (i : Int) + 1 = ((i + 1 : Nat) : Int) by omega, ih (i + 1) (by omega)]
      simp only [List.cons.injEq, c, true_and]
    · rw [if_neg c]; simp only [List.cons.injEq, c, false_and, decide_false]
def slices_Equal_uint64_uint64.f (l0 l1 : List Int) : Option Bool := some (decide (l0 = l1))
theorem slices_Equal_uint64_uint64.calls (A0 : Option Addr) (c0 : Nat) (l0 : List Int) (A1 : Option Addr) (c1 : Nat) (l1 : List Int) (r : Bool) (w : World) (hr0 : Kd.C (Kd.int .u64) w A0 l0.length l0) (hc0 : l0.length ≤ c0) (hr1 : Kd.C (Kd.int .u64) w A1 l1.length l1) (hc1 : l1.length ≤ c1) (h : slices_Equal_uint64_uint64.f l0 l1 = some r) :
    Calls Try.prog 106 #[.slice A0 l0.length c0, .slice A1 l1.length c1] w fun e w' => e = .returned (.bool r) ∧ Drawn0 w w' := by
  refine slices_Equal_uint64_uint64P.calls (l0.length + 1) A0 c0 l0 A1 c1 l1 r w hr0 hc0 hr1 hc1 (Eq.trans ?_ h)
  have hm := Kd.C_max hr0
  unfold slices_Equal_uint64_uint64P.f slices_Equal_uint64_uint64.f
  by_cases c : l0.length = l1.length
  · rw [if_pos (by omega)]
    exact (slices_Equal_uint64_uint64P.loop l0 l1 c hm l0.length 0 (by omega)).trans (by simp)
  · rw [if_neg (by omega)]
    have : l0 ≠ l1 := fun e => c (by rw [e])
    simp [this]


end Go.Proofs.Ytkfhdpnfcaghbaa.HQ
