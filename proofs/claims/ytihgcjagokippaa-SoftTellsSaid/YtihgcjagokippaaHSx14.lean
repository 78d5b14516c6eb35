/- What Go functions do, each as a plain Lean function with the same answers, and the proof of it, in every world: printed by the session's driver over the kit's print, with texts by hand. -/
import Derived.Test.YtihgcjagokippaaHSx0
import Derived.Test.YtihgcjagokippaaHSx5
import Derived.Test.YtihgcjagokippaaMini
namespace Go.Proofs.Ytihgcjagokippaa.HS
open Go.RowKit Go.Proofs.YtihgcjagokippaaW.PrintWords Go.Proofs.YtihgcjagokippaaW.PrintLast Go.Proofs.YtihgcjagokippaaW.PrintMore
attribute [local go_sem] max2_int min2_int max_two min_two max_three min_three max_four min_four   -- for this text's walks alone
open Go.Proofs.Ytihgcjagokippaa.Sp
attribute [local go_sem] Go.Proofs.Ytihgcjagokippaa.Sp.u64_not
set_option linter.unusedVariables false
set_option linter.unusedSimpArgs false

/-! ### thrumref15_DimP: function 15 -/
def thrumref15_DimP.f (a0 : Int) (a1 : Int) : Option (Int × Int) := if a0 < 1 then (some (0, 1)) else (if a0 > 16 then (some (0, 1)) else (if a1 < 2 then (some (0, 1)) else (if a1 > 8 then (some (0, 1)) else (some (wrap64 (a1 * (wrap64 (a0 + 1))), 0)))))
set_option maxHeartbeats 8000000 in
set_option maxRecDepth 100000 in
theorem thrumref15_DimP.calls (a0 : Int) (a1 : Int) (r1 : Int) (r2 : Int) (w : World) (h : thrumref15_DimP.f a0 a1 = some (r1, r2)) :
  Calls Try.prog 15 #[.int .i64 a0, .int .i64 a1] w fun e w' => e = .returned (.tuple #[.int .i64 r1, .int .i64 r2]) ∧ Drawn0 w w' := by
 have H : (if a0 < 1 then (some (0, 1)) else (if a0 > 16 then (some (0, 1)) else (if a1 < 2 then (some (0, 1)) else (if a1 > 8 then (some (0, 1)) else (some (wrap64 (a1 * (wrap64 (a0 + 1))), 0)))))) = some (r1, r2) := h
 clear h
 by_cases c3 : a0 < 1
 ·
  rw [if_pos c3] at H
  have c3b0 : decide (a0 < 1) = true := decide_eq_true c3
  clear c3
  simp only [Option.some.injEq, Prod.mk.injEq] at H
  obtain ⟨rfl, rfl⟩ := H
  go_enter Try.func15, Try.ntmps15
  go_wp2
  go_ret2
  exact ⟨by first | rfl | (simp; done) | (simp [*]; done), by repeat (first | exact ddR _ | apply ddS)⟩
 rw [if_neg c3] at H
 have c3b0 : decide (a0 < 1) = false := decide_eq_false c3
 clear c3
 by_cases c4 : a0 > 16
 ·
  rw [if_pos c4] at H
  have c4b0 : decide (16 < a0) = true := decide_eq_true c4
  clear c4
  simp only [Option.some.injEq, Prod.mk.injEq] at H
  obtain ⟨rfl, rfl⟩ := H
  go_enter Try.func15, Try.ntmps15
  go_wp2
  go_ret2
  exact ⟨by first | rfl | (simp; done) | (simp [*]; done), by repeat (first | exact ddR _ | apply ddS)⟩
 rw [if_neg c4] at H
 have c4b0 : decide (16 < a0) = false := decide_eq_false c4
 clear c4
 by_cases c5 : a1 < 2
 ·
  rw [if_pos c5] at H
  have c5b0 : decide (a1 < 2) = true := decide_eq_true c5
  clear c5
  simp only [Option.some.injEq, Prod.mk.injEq] at H
  obtain ⟨rfl, rfl⟩ := H
  go_enter Try.func15, Try.ntmps15
  go_wp2
  go_ret2
  exact ⟨by first | rfl | (simp; done) | (simp [*]; done), by repeat (first | exact ddR _ | apply ddS)⟩
 rw [if_neg c5] at H
 have c5b0 : decide (a1 < 2) = false := decide_eq_false c5
 clear c5
 by_cases c6 : a1 > 8
 case neg =>
  rw [if_neg c6] at H
  have c6b0 : decide (8 < a1) = false := decide_eq_false c6
  clear c6
  simp only [Option.some.injEq, Prod.mk.injEq] at H
  obtain ⟨rfl, rfl⟩ := H
  go_enter Try.func15, Try.ntmps15
  go_wp2
  go_ret2
  exact ⟨by first | rfl | (simp; done) | (simp [*]; done), by repeat (first | exact ddR _ | apply ddS)⟩
 rw [if_pos c6] at H
 have c6b0 : decide (8 < a1) = true := decide_eq_true c6
 clear c6
 simp only [Option.some.injEq, Prod.mk.injEq] at H
 obtain ⟨rfl, rfl⟩ := H
 go_enter Try.func15, Try.ntmps15
 go_wp2
 go_ret2
 exact ⟨by first | rfl | (simp; done) | (simp [*]; done), by repeat (first | exact ddR _ | apply ddS)⟩
def thrumref15_Dim.f (a0 a1 : Int) : Option (Int × Int) := some (dimS a0 a1)
theorem thrumref15_DimP.is (a0 a1 : Int) : thrumref15_DimP.f a0 a1 = some (dimS a0 a1) := by
  unfold thrumref15_DimP.f dimS badOut
  by_cases c1 : a0 < 1
  · rw [if_pos c1, if_pos (show a0 < 1 ∨ a0 > 16 ∨ a1 < 2 ∨ a1 > 8 from .inl c1)]
  · rw [if_neg c1]
    by_cases c2 : a0 > 16
    · rw [if_pos c2, if_pos (show a0 < 1 ∨ a0 > 16 ∨ a1 < 2 ∨ a1 > 8 from .inr (.inl c2))]
    · rw [if_neg c2]
      by_cases c3 : a1 < 2
      · rw [if_pos c3, if_pos (show a0 < 1 ∨ a0 > 16 ∨ a1 < 2 ∨ a1 > 8 from .inr (.inr (.inl c3)))]
      · rw [if_neg c3]
        by_cases c4 : a1 > 8
        · rw [if_pos c4, if_pos (show a0 < 1 ∨ a0 > 16 ∨ a1 < 2 ∨ a1 > 8 from .inr (.inr (.inr c4)))]
        · rw [if_neg c4, if_neg (show ¬ (a0 < 1 ∨ a0 > 16 ∨ a1 < 2 ∨ a1 > 8) by omega)]
          have h1 : 0 ≤ (a0 + 1) * a1 := Int.mul_nonneg (by omega) (by omega)
          have h2 : (a0 + 1) * a1 ≤ 17 * 8 := Int.mul_le_mul (by omega) (by omega) (by omega) (by omega)
          rw [wrap64_of (x := a0 + 1) (by unfold I64; omega), Int.mul_comm a1, wrap64_of (by unfold I64; omega)]
theorem thrumref15_Dim.calls (a0 : Int) (a1 : Int) (r1 : Int) (r2 : Int) (w : World) (h : thrumref15_Dim.f a0 a1 = some (r1, r2)) :
    Calls Try.prog 15 #[.int .i64 a0, .int .i64 a1] w fun e w' => e = .returned (.tuple #[.int .i64 r1, .int .i64 r2]) ∧ Drawn0 w w' := by
  unfold thrumref15_Dim.f at h
  exact thrumref15_DimP.calls a0 a1 r1 r2 w ((thrumref15_DimP.is a0 a1).trans h)


/-! ### thrumref15_SameListsP: function 17 -/
def thrumref15_SameListsP.l0 : Nat → List (List Int) → List (List Int) → Int → Int → Option (Bool)
 | 0, _, _, _, _ => none
 | k + 1, x0, x1, x12, x13 => if x13 < x12 then (if 0 ≤ x13 then (if x13 < (x0.length : Int) then (if x13 < (x1.length : Int) then ((thrumref02_Same.f (rd_L1 x0 x13) (rd_L1 x1 x13)).bind fun t363 => (if t363 = true then (thrumref15_SameListsP.l0 k x0 x1 x12 (wrap64 (x13 + 1))) else (some false))) else (none)) else (none)) else (none)) else (some true)
def thrumref15_SameListsP.f (k : Nat) (l0 : List (List Int)) (l1 : List (List Int)) : Option (Bool) := if (l0.length : Int) = (l1.length : Int) then (thrumref15_SameListsP.l0 k l0 l1 (l0.length : Int) 0) else (some false)
theorem thrumref15_SameListsP.mono_l : ∀ k, (∀ y0 y1 y2 y3, LeO (thrumref15_SameListsP.l0 k y0 y1 y2 y3) (thrumref15_SameListsP.l0 (k + 1) y0 y1 y2 y3))
 | 0 => fun _ _ _ _ r h => by simp [thrumref15_SameListsP.l0] at h
 | k + 1 => by
  have ih0 := thrumref15_SameListsP.mono_l k
  ·
   intro y0 y1 y2 y3
   unfold thrumref15_SameListsP.l0
   repeat' first
   | (with_reducible exact ih0 _ _ _ _)
   | (with_reducible exact LeO.refl _)
   | (with_reducible exact LeO.none _)
   | (with_reducible refine LeO.ite ?_ ?_)
   | (with_reducible refine LeO.bind ?_ (fun _ => ?_))
theorem thrumref15_SameListsP.mono : ∀ a0 a1 k, LeO (thrumref15_SameListsP.f k a0 a1) (thrumref15_SameListsP.f (k + 1) a0 a1) := by
 intro a0 a1 k
 have ih0 := thrumref15_SameListsP.mono_l k
 unfold thrumref15_SameListsP.f
 repeat' first
   | (with_reducible exact ih0 _ _ _ _)
   | (with_reducible exact LeO.refl _)
   | (with_reducible exact LeO.none _)
   | (with_reducible refine LeO.ite ?_ ?_)
   | (with_reducible refine LeO.bind ?_ (fun _ => ?_))
set_option maxHeartbeats 8000000 in
set_option maxRecDepth 100000 in
theorem thrumref15_SameListsP.calls (k : Nat) (A0 : Option Addr) (c0 : Nat) (l0 : List (List Int)) (A1 : Option Addr) (c1 : Nat) (l1 : List (List Int)) (r : Bool) (w : World) (hr0 : Kd.C (Kd.slice 2 (Kd.int .i64)) w A0 l0.length l0) (hc0 : l0.length ≤ c0) (hr1 : Kd.C (Kd.slice 2 (Kd.int .i64)) w A1 l1.length l1) (hc1 : l1.length ≤ c1) (h : thrumref15_SameListsP.f k l0 l1 = some r) :
  Calls Try.prog 17 #[.slice A0 l0.length c0, .slice A1 l1.length c1] w fun e w' => e = .returned (.bool r) ∧ Drawn0 w w' := by
 have HR0 := ZM hr0
 have HC0 := ZM hc0
 clear hr0 hc0
 have HR1 := ZM hr1
 have HC1 := ZM hc1
 clear hr1 hc1
 have H : (if (l0.length : Int) = (l1.length : Int) then (thrumref15_SameListsP.l0 k l0 l1 (l0.length : Int) 0) else (some false)) = some r := h
 clear h
 by_cases c3 : (l0.length : Int) = (l1.length : Int)
 case neg =>
  rw [if_neg c3] at H
  have c3b0 : ((l0.length : Int) == (l1.length : Int)) = false := beq_eq_false_iff_ne.mpr c3
  have c3b1 : ((l0.length : Int) != (l1.length : Int)) = true := bne_iff_ne.mpr c3
  have c3b2 : (l0.length == l1.length) = false := by first | simpa using c3 | (simp at c3 ⊢; omega)
  obtain rfl := Option.some.inj H
  go_enter Try.func17, Try.ntmps17
  go_wp2
  repeat (go_quiet (fail); try go_wp2)
  go_ret
  exact ⟨by first | rfl | (simp; done) | (simp [*]; done), by repeat (first | exact ddR _ | apply ddS)⟩
 rw [if_pos c3] at H
 have c3b0 : ((l0.length : Int) == (l1.length : Int)) = true := beq_iff_eq.mpr c3
 have c3b1 : ((l0.length : Int) != (l1.length : Int)) = false := bne_eq_false_iff_eq.mpr c3
 have c3b2 : (l0.length == l1.length) = true := by first | simpa using c3 | (simp at c3 ⊢; omega)
 clear c3
 have H' := ZM H
 clear H
 go_enter Try.func17, Try.ntmps17
 go_wp2
 repeat (go_quiet (fail); try go_wp2)
 go_loopg [13] k (fun kq v13 w' => ∃ (x13_1 : Int), v13 = .int .i64 x13_1 ∧ Aside0 (thrumref15_SameListsP.l0 kq l0 l1 (l0.length : Int) x13_1 = some r) ∧ Aside0 (kq ≤ k) ∧ Drawn0 w w')
 case atStart => exact ⟨(0), Z5, H', ⟨Nat.le_refl _⟩, by repeat (first | exact ddR _ | apply ddS)⟩
 case round =>
  clear H'
  try clear c1
  try clear c3
  try clear c3b0
  try clear c3b1
  try clear c3b2
  obtain ⟨x13_1, rfl, HA, HK1, ⟨m1, rfl⟩⟩ := hrel
  cases gk with
  | zero => exact absurd HA.out (by simp [thrumref15_SameListsP.l0])
  | succ k1 =>
   have H := HA.out
   clear HA
   simp only [thrumref15_SameListsP.l0] at H
   by_cases c4 : x13_1 < (l0.length : Int)
   case neg =>
    rw [if_neg c4] at H
    have c4b0 : decide (x13_1 < (l0.length : Int)) = false := decide_eq_false c4
    clear c4
    obtain rfl := Option.some.inj H
    go_wp2
    repeat (go_quiet (fail); try go_wp2)
    go_ret
    exact ⟨by first | rfl | (simp; done) | (simp [*]; done), by repeat (first | exact ddR _ | apply ddS)⟩
   rw [if_pos c4] at H
   have c4b0 : decide (x13_1 < (l0.length : Int)) = true := decide_eq_true c4
   clear c4
   by_cases c5 : 0 ≤ x13_1
   case neg =>
    rw [if_neg c5] at H
    exact absurd H (by simp)
   rw [if_pos c5] at H
   have c5b0 : decide (0 ≤ x13_1) = true := decide_eq_true c5
   clear c5
   by_cases c6 : x13_1 < (l0.length : Int)
   case neg =>
    rw [if_neg c6] at H
    exact absurd H (by simp)
   rw [if_pos c6] at H
   have c6b0 : decide (x13_1 < (l0.length : Int)) = true := decide_eq_true c6
   clear c6
   by_cases c7 : x13_1 < (l1.length : Int)
   case neg =>
    rw [if_neg c7] at H
    exact absurd H (by simp)
   rw [if_pos c7] at H
   have c7b0 : decide (x13_1 < (l1.length : Int)) = true := decide_eq_true c7
   clear c7
   replace H := Option.bind_eq_some_iff.mp H
   obtain ⟨t363, A80, H⟩ := H
   replace H : (if t363 = true then (thrumref15_SameListsP.l0 k1 l0 l1 (l0.length : Int) (wrap64 (x13_1 + 1))) else (some false)) = some r := H
   have A8 := ZM A80
   clear A80
   by_cases c9 : t363 = true
   case neg =>
    replace c9 := Bool.eq_false_iff.mpr c9
    subst c9
    have H1 : (some false) = some r := by rw [if_neg (show ¬ (false = true) by decide)] at H; exact H
    clear H
    have H := H1
    clear H1
    obtain rfl := Option.some.inj H
    have p361 : 0 ≤ (x13_1 : Int) := of_decide_eq_true Z3
    have q361 : x13_1 < (l0.length : Int) := of_decide_eq_true Z3
    obtain ⟨ad361, A361_0, c361_0, e361, hx361_0, hl361_0, hi361_0⟩ := at_L1 HR0.out x13_1 p361 q361
    cases e361
    have HR361_0 := ZM hi361_0
    have HC361_0 := ZM hl361_0
    clear hi361_0 hl361_0
    replace p361 := eq_true p361
    replace q361 := eq_true q361
    have p362 : 0 ≤ (x13_1 : Int) := of_decide_eq_true Z3
    have q362 : x13_1 < (l1.length : Int) := of_decide_eq_true Z3
    obtain ⟨ad362, A362_0, c362_0, e362, hx362_0, hl362_0, hi362_0⟩ := at_L1 HR1.out x13_1 p362 q362
    cases e362
    have HR362_0 := ZM hi362_0
    have HC362_0 := ZM hl362_0
    clear hi362_0 hl362_0
    replace p362 := eq_true p362
    replace q362 := eq_true q362
    go_wp2_with (first | (go_at_call 16; (with_reducible refine (thrumref02_Same.calls _ _ (rd_L1 l0 x13_1) _ _ (rd_L1 l1 x13_1) false _ ?side1 ?side2 ?side3 ?side4 A8.out).mono ?_); (case side1 => exact Z24); (case side2 => exact HC361_0.out); (case side3 => exact Z25); (case side4 => exact HC362_0.out); rintro e w' ⟨rfl, ⟨nd, rfl⟩⟩; (try first | exact ⟨rfl, _, wwN _ _ _⟩ | exact ⟨rfl, _, ww3 _ _ _ _⟩)))
    repeat (go_quiet (first | (go_at_call 16; (with_reducible refine (thrumref02_Same.calls _ _ (rd_L1 l0 x13_1) _ _ (rd_L1 l1 x13_1) false _ ?side1 ?side2 ?side3 ?side4 A8.out).mono ?_); (case side1 => exact Z24); (case side2 => exact HC361_0.out); (case side3 => exact Z25); (case side4 => exact HC362_0.out); rintro e w' ⟨rfl, ⟨nd, rfl⟩⟩; (try first | exact ⟨rfl, _, wwN _ _ _⟩ | exact ⟨rfl, _, ww3 _ _ _ _⟩))); try go_wp2_with (first | (go_at_call 16; (with_reducible refine (thrumref02_Same.calls _ _ (rd_L1 l0 x13_1) _ _ (rd_L1 l1 x13_1) false _ ?side1 ?side2 ?side3 ?side4 A8.out).mono ?_); (case side1 => exact Z24); (case side2 => exact HC361_0.out); (case side3 => exact Z25); (case side4 => exact HC362_0.out); rintro e w' ⟨rfl, ⟨nd, rfl⟩⟩; (try first | exact ⟨rfl, _, wwN _ _ _⟩ | exact ⟨rfl, _, ww3 _ _ _ _⟩))))
    go_ret
    exact ⟨by first | rfl | (simp; done) | (simp [*]; done), by repeat (first | exact ddR _ | apply ddS)⟩
   subst c9
   have H1 : (thrumref15_SameListsP.l0 k1 l0 l1 (l0.length : Int) (wrap64 (x13_1 + 1))) = some r := by rw [if_pos rfl] at H; exact H
   clear H
   have H := H1
   clear H1
   have H' := ZM H
   clear H
   have p361 : 0 ≤ (x13_1 : Int) := of_decide_eq_true Z3
   have q361 : x13_1 < (l0.length : Int) := of_decide_eq_true Z3
   obtain ⟨ad361, A361_0, c361_0, e361, hx361_0, hl361_0, hi361_0⟩ := at_L1 HR0.out x13_1 p361 q361
   cases e361
   have HR361_0 := ZM hi361_0
   have HC361_0 := ZM hl361_0
   clear hi361_0 hl361_0
   replace p361 := eq_true p361
   replace q361 := eq_true q361
   have p362 : 0 ≤ (x13_1 : Int) := of_decide_eq_true Z3
   have q362 : x13_1 < (l1.length : Int) := of_decide_eq_true Z3
   obtain ⟨ad362, A362_0, c362_0, e362, hx362_0, hl362_0, hi362_0⟩ := at_L1 HR1.out x13_1 p362 q362
   cases e362
   have HR362_0 := ZM hi362_0
   have HC362_0 := ZM hl362_0
   clear hi362_0 hl362_0
   replace p362 := eq_true p362
   replace q362 := eq_true q362
   go_wp2_with (first | (go_at_call 16; (with_reducible refine (thrumref02_Same.calls _ _ (rd_L1 l0 x13_1) _ _ (rd_L1 l1 x13_1) true _ ?side1 ?side2 ?side3 ?side4 A8.out).mono ?_); (case side1 => exact Z24); (case side2 => exact HC361_0.out); (case side3 => exact Z25); (case side4 => exact HC362_0.out); rintro e w' ⟨rfl, ⟨nd, rfl⟩⟩; (try first | exact ⟨rfl, _, wwN _ _ _⟩ | exact ⟨rfl, _, ww3 _ _ _ _⟩)))
   repeat (go_quiet (first | (go_at_call 16; (with_reducible refine (thrumref02_Same.calls _ _ (rd_L1 l0 x13_1) _ _ (rd_L1 l1 x13_1) true _ ?side1 ?side2 ?side3 ?side4 A8.out).mono ?_); (case side1 => exact Z24); (case side2 => exact HC361_0.out); (case side3 => exact Z25); (case side4 => exact HC362_0.out); rintro e w' ⟨rfl, ⟨nd, rfl⟩⟩; (try first | exact ⟨rfl, _, wwN _ _ _⟩ | exact ⟨rfl, _, ww3 _ _ _ _⟩))); try go_wp2_with (first | (go_at_call 16; (with_reducible refine (thrumref02_Same.calls _ _ (rd_L1 l0 x13_1) _ _ (rd_L1 l1 x13_1) true _ ?side1 ?side2 ?side3 ?side4 A8.out).mono ?_); (case side1 => exact Z24); (case side2 => exact HC361_0.out); (case side3 => exact Z25); (case side4 => exact HC362_0.out); rintro e w' ⟨rfl, ⟨nd, rfl⟩⟩; (try first | exact ⟨rfl, _, wwN _ _ _⟩ | exact ⟨rfl, _, ww3 _ _ _ _⟩))))
   go_roundg k1
   case measure => have := HK1.out; omega
   case rel => exact ⟨(wrap64 (x13_1 + 1)), Z5, H', ⟨by have := HK1.out; omega⟩, by repeat (first | exact ddR _ | apply ddS)⟩
def thrumref15_SameLists.f (l0 l1 : List (List Int)) : Option Bool := some (decide (l0 = l1))
theorem thrumref15_SameListsP.loop (a b : List (List Int)) (h : a.length = b.length) (hb : a.length ≤ 9223372036854775807) : ∀ (d i : Nat), d + i = a.length →
    thrumref15_SameListsP.l0 (d + 1) a b (a.length : Int) (i : Int) = some (decide (a.drop i = b.drop i)) := by
  intro d
  induction d with
  | zero =>
    intro i hd
    rw [thrumref15_SameListsP.l0, if_neg (by omega), List.drop_eq_nil_of_le (by omega), List.drop_eq_nil_of_le (by omega), decide_eq_true rfl]
  | succ d ih =>
    intro i hd
    have ha : i < a.length := by omega
    have hb2 : i < b.length := by omega
    have ra : rd_L1 a (i : Int) = a[i] := by unfold rd_L1; rw [Int.toNat_natCast, List.getD_eq_getElem?_getD, List.getElem?_eq_getElem ha, Option.getD_some]
    have rb : rd_L1 b (i : Int) = b[i] := by unfold rd_L1; rw [Int.toNat_natCast, List.getD_eq_getElem?_getD, List.getElem?_eq_getElem hb2, Option.getD_some]
    rw [thrumref15_SameListsP.l0, if_pos (by omega), if_pos (by omega), if_pos (by omega), if_pos (by omega), ra, rb]
    unfold thrumref02_Same.f
    rw [Option.bind_some, List.drop_eq_getElem_cons ha, List.drop_eq_getElem_cons hb2]
    by_cases c : a[i] = b[i]
    · rw [if_pos (decide_eq_true c), wrap64_of (by unfold I64; omega), show (i : Int) + 1 = ((i + 1 : Nat) : Int) by omega, ih (i + 1) (by omega)]
      congr 1
      exact decide_eq_decide.2 ⟨fun e => by rw [c, e], fun e => (List.cons.inj e).2⟩
    · rw [if_neg (by rw [decide_eq_false c]; decide), decide_eq_false (fun e => c (List.cons.inj e).1)]
theorem thrumref15_SameLists.calls (A0 : Option Addr) (c0 : Nat) (l0 : List (List Int)) (A1 : Option Addr) (c1 : Nat) (l1 : List (List Int)) (r : Bool) (w : World) (hr0 : Kd.C (Kd.slice 2 (Kd.int .i64)) w A0 l0.length l0) (hc0 : l0.length ≤ c0) (hr1 : Kd.C (Kd.slice 2 (Kd.int .i64)) w A1 l1.length l1) (hc1 : l1.length ≤ c1) (h : thrumref15_SameLists.f l0 l1 = some r) :
    Calls Try.prog 17 #[.slice A0 l0.length c0, .slice A1 l1.length c1] w fun e w' => e = .returned (.bool r) ∧ Drawn0 w w' := by
  have hm := Kd.C_max hr0
  unfold thrumref15_SameLists.f at h
  refine thrumref15_SameListsP.calls (l0.length + 1) A0 c0 l0 A1 c1 l1 r w hr0 hc0 hr1 hc1 (Eq.trans ?_ h)
  unfold thrumref15_SameListsP.f
  by_cases c : (l0.length : Int) = (l1.length : Int)
  · rw [if_pos c, show (0 : Int) = ((0 : Nat) : Int) from rfl, thrumref15_SameListsP.loop l0 l1 (by omega) hm l0.length 0 (by omega), List.drop_zero, List.drop_zero]
  · rw [if_neg c, decide_eq_false (fun e => c (by rw [e]))]


end Go.Proofs.Ytihgcjagokippaa.HS
