/- What Go functions do, each as a plain Lean function with the same answers, and the proof of it, in every world: printed by the session's driver over the kit's print, with texts by hand. -/
import Derived.Test.YtnhdeljkoackfaaHCx0
namespace Go.Proofs.Ytnhdeljkoackfaa.HC
open Go.RowKit Go.Proofs.YtnhdeljkoackfaaW.PrintWords Go.Proofs.YtnhdeljkoackfaaW.PrintLast Go.Proofs.YtnhdeljkoackfaaW.PrintMore
attribute [local go_sem] max2_int min2_int max_two min_two max_three min_three max_four min_four   -- for this text's walks alone
open Go.Proofs.Ytnhdeljkoackfaa.Sp
attribute [local go_sem] Go.Proofs.Ytnhdeljkoackfaa.Sp.u64_not
set_option linter.unusedVariables false
set_option linter.unusedSimpArgs false

/-! ### index_measure: function 52 -/
def index_measure.f (a0 : Int) : Option (Bool) := if a0 > 0 then (some (decide (a0 ≤ 4096))) else (some false)
set_option maxHeartbeats 8000000 in
set_option maxRecDepth 100000 in
theorem index_measure.calls (a0 : Int) (r : Bool) (w : World) (h : index_measure.f a0 = some r) :
  Calls Try.prog 52 #[.int .i64 a0] w fun e w' => e = .returned (.bool r) ∧ Drawn0 w w' := by
 have H : (if a0 > 0 then (some (decide (a0 ≤ 4096))) else (some false)) = some r := h
 clear h
 by_cases c2 : a0 > 0
 ·
  rw [if_pos c2] at H
  have c2b0 : decide (0 < a0) = true := decide_eq_true c2
  clear c2
  obtain rfl := Option.some.inj H
  go_enter Try.func52, Try.ntmps52
  go_wp2
  go_ret
  exact ⟨by first | rfl | (simp; done) | (simp [*]; done), by repeat (first | exact Drawn0.refl _ | apply Drawn0.step)⟩
 ·
  rw [if_neg c2] at H
  have c2b0 : decide (0 < a0) = false := decide_eq_false c2
  clear c2
  obtain rfl := Option.some.inj H
  go_enter Try.func52, Try.ntmps52
  go_wp2
  go_ret
  exact ⟨by first | rfl | (simp; done) | (simp [*]; done), by repeat (first | exact Drawn0.refl _ | apply Drawn0.step)⟩

/-! ### index_risesP: function 53 -/
def index_risesP.l0 : Nat → List Int → Int → Option (Bool)
 | 0, _, _ => none
 | k + 1, x0, x3 => if x3 < (x0.length : Int) then (if 0 ≤ (wrap64 (x3 - 1)) then (if (wrap64 (x3 - 1)) < (x0.length : Int) then (if 0 ≤ x3 then (if (rd x0 (wrap64 (x3 - 1))) ≥ (rd x0 x3) then (some false) else (index_risesP.l0 k x0 (wrap64 (x3 + 1)))) else (none)) else (none)) else (none)) else (some true)
def index_risesP.f (k : Nat) (l0 : List Int) : Option (Bool) := index_risesP.l0 k l0 1
theorem index_risesP.mono_l : ∀ k, (∀ y0 y1, LeO (index_risesP.l0 k y0 y1) (index_risesP.l0 (k + 1) y0 y1))
 | 0 => fun _ _ r h => by simp [index_risesP.l0] at h
 | k + 1 => by
  have ih0 := index_risesP.mono_l k
  ·
   intro y0 y1
   unfold index_risesP.l0
   repeat' first
   | (with_reducible exact ih0 _ _)
   | (with_reducible exact LeO.refl _)
   | (with_reducible exact LeO.none _)
   | (with_reducible refine LeO.ite ?_ ?_)
   | (with_reducible refine LeO.bind ?_ (fun _ => ?_))
   | exact ih0 _ _
   | exact LeO.none _
   | refine LeO.ite ?_ ?_
   | refine LeO.bind ?_ (fun _ => ?_)
theorem index_risesP.mono : ∀ a0 k, LeO (index_risesP.f k a0) (index_risesP.f (k + 1) a0) := by
 intro a0 k
 have ih0 := index_risesP.mono_l k
 unfold index_risesP.f
 repeat' first
   | (with_reducible exact ih0 _ _)
   | (with_reducible exact LeO.refl _)
   | (with_reducible exact LeO.none _)
   | (with_reducible refine LeO.ite ?_ ?_)
   | (with_reducible refine LeO.bind ?_ (fun _ => ?_))
   | exact ih0 _ _
   | exact LeO.none _
   | refine LeO.ite ?_ ?_
   | refine LeO.bind ?_ (fun _ => ?_)
set_option maxHeartbeats 8000000 in
set_option maxRecDepth 100000 in
theorem index_risesP.calls (k : Nat) (A0 : Option Addr) (c0 : Nat) (l0 : List Int) (r : Bool) (w : World) (hr0 : Kd.C (Kd.int .i64) w A0 l0.length l0) (hc0 : l0.length ≤ c0) (h : index_risesP.f k l0 = some r) :
  Calls Try.prog 53 #[.slice A0 l0.length c0] w fun e w' => e = .returned (.bool r) ∧ Drawn0 w w' := by
 have HR0 := Aside0.mk hr0
 have HC0 := Aside0.mk hc0
 clear hr0 hc0
 have H : (index_risesP.l0 k l0 1) = some r := h
 clear h
 have H' := Aside0.mk H
 clear H
 go_enter Try.func53, Try.ntmps53
 go_wp2
 repeat (go_quiet (fail); try go_wp2)
 go_loopg [3] k (fun kq v3 w' => ∃ (x3_1 : Int), v3 = .int .i64 x3_1 ∧ Aside0 (index_risesP.l0 kq l0 x3_1 = some r) ∧ Aside0 (kq ≤ k) ∧ Drawn0 w w')
 case atStart => exact ⟨(1), (by first | rfl | (simp; done) | (simp [*]; done)), H', ⟨Nat.le_refl _⟩, by repeat (first | exact Drawn0.refl _ | apply Drawn0.step)⟩
 case round =>
  clear H'
  obtain ⟨x3_1, rfl, HA, HK1, ⟨m1, rfl⟩⟩ := hrel
  cases gk with
  | zero => exact absurd HA.out (by simp [index_risesP.l0])
  | succ k1 =>
   have H := HA.out
   clear HA
   simp only [index_risesP.l0] at H
   by_cases c2 : x3_1 < (l0.length : Int)
   ·
    rw [if_pos c2] at H
    have c2b0 : decide (x3_1 < (l0.length : Int)) = true := decide_eq_true c2
    clear c2
    obtain ⟨ji3, hji3⟩ : ∃ j_ : Int, (wrap64 (x3_1 - 1)) = j_ := ⟨_, rfl⟩
    replace H : (if 0 ≤ (ji3) then (if (ji3) < (l0.length : Int) then (if 0 ≤ x3_1 then (if (rd l0 (ji3)) ≥ (rd l0 x3_1) then (some false) else (index_risesP.l0 k1 l0 (wrap64 (x3_1 + 1)))) else (none)) else (none)) else (none)) = some r := by first | (rw [hji3] at H; exact H) | (simp only [hji3] at H ⊢; exact H)
    have hji3w : (IntKind.i64.wrap (x3_1 - 1)) = ji3 := (i64_w _).trans hji3
    by_cases c4 : 0 ≤ (ji3)
    ·
     rw [if_pos c4] at H
     have c4b0 : decide (0 ≤ (ji3)) = true := decide_eq_true c4
     clear c4
     by_cases c5 : (ji3) < (l0.length : Int)
     ·
      rw [if_pos c5] at H
      have c5b0 : decide ((ji3) < (l0.length : Int)) = true := decide_eq_true c5
      clear c5
      by_cases c6 : 0 ≤ x3_1
      ·
       rw [if_pos c6] at H
       have c6b0 : decide (0 ≤ x3_1) = true := decide_eq_true c6
       clear c6
       by_cases c7 : (rd l0 (ji3)) ≥ (rd l0 x3_1)
       ·
        rw [if_pos c7] at H
        have c7b0 : decide ((rd l0 x3_1) ≤ (rd l0 (ji3))) = true := decide_eq_true c7
        clear c7
        obtain rfl := Option.some.inj H
        have p113 : 0 ≤ ((ji3) : Int) := of_decide_eq_true (by first | (with_reducible assumption) | assumption)
        have q113 : (ji3) < (l0.length : Int) := of_decide_eq_true (by first | (with_reducible assumption) | assumption)
        obtain ⟨ad113, e113, hx113_0⟩ := Kd.at_int HR0.out (ji3) p113 q113
        cases e113
        replace p113 := eq_true p113
        replace q113 := eq_true q113
        have p114 : 0 ≤ (x3_1 : Int) := of_decide_eq_true (by first | (with_reducible assumption) | assumption)
        have q114 : x3_1 < (l0.length : Int) := of_decide_eq_true (by first | (with_reducible assumption) | assumption)
        obtain ⟨ad114, e114, hx114_0⟩ := Kd.at_int HR0.out x3_1 p114 q114
        obtain rfl : ad113 = ad114 := (by injection e114)
        replace p114 := eq_true p114
        replace q114 := eq_true q114
        go_wp2
        repeat (go_quiet (fail); try go_wp2)
        go_ret
        exact ⟨by first | rfl | (simp; done) | (simp only [← hji3] <;> (first | rfl | simp)) | (simp [*]; done), by repeat (first | exact Drawn0.refl _ | apply Drawn0.step)⟩
       ·
        rw [if_neg c7] at H
        have c7b0 : decide ((rd l0 x3_1) ≤ (rd l0 (ji3))) = false := decide_eq_false c7
        clear c7
        have H' := Aside0.mk H
        clear H
        have p113 : 0 ≤ ((ji3) : Int) := of_decide_eq_true (by first | (with_reducible assumption) | assumption)
        have q113 : (ji3) < (l0.length : Int) := of_decide_eq_true (by first | (with_reducible assumption) | assumption)
        obtain ⟨ad113, e113, hx113_0⟩ := Kd.at_int HR0.out (ji3) p113 q113
        cases e113
        replace p113 := eq_true p113
        replace q113 := eq_true q113
        have p114 : 0 ≤ (x3_1 : Int) := of_decide_eq_true (by first | (with_reducible assumption) | assumption)
        have q114 : x3_1 < (l0.length : Int) := of_decide_eq_true (by first | (with_reducible assumption) | assumption)
        obtain ⟨ad114, e114, hx114_0⟩ := Kd.at_int HR0.out x3_1 p114 q114
        obtain rfl : ad113 = ad114 := (by injection e114)
        replace p114 := eq_true p114
        replace q114 := eq_true q114
        go_wp2
        repeat (go_quiet (fail); try go_wp2)
        go_roundg k1
        case measure => have := HK1.out; omega
        case rel => exact ⟨(wrap64 (x3_1 + 1)), (by first | rfl | (simp; done) | (simp [*]; done)), H', ⟨by have := HK1.out; omega⟩, by repeat (first | exact Drawn0.refl _ | apply Drawn0.step)⟩
      ·
       rw [if_neg c6] at H
       exact absurd H (by simp)
     ·
      rw [if_neg c5] at H
      exact absurd H (by simp)
    ·
     rw [if_neg c4] at H
     exact absurd H (by simp)
   ·
    rw [if_neg c2] at H
    have c2b0 : decide (x3_1 < (l0.length : Int)) = false := decide_eq_false c2
    clear c2
    obtain rfl := Option.some.inj H
    go_wp2
    repeat (go_quiet (fail); try go_wp2)
    go_ret
    exact ⟨by first | rfl | (simp; done) | (simp [*]; done), by repeat (first | exact Drawn0.refl _ | apply Drawn0.step)⟩

theorem index_risesP.loop (x0 : List Int) (hb : x0.length ≤ 9223372036854775807) : ∀ (d i : Nat), x0.length ≤ d + i + 1 →
    index_risesP.l0 (d + 1) x0 ((i : Int) + 1) = some (risesB (x0.drop i)) := by
  intro d
  induction d with
  | zero =>
    intro i hd
    rw [index_risesP.l0, if_neg (by omega), risesB_short (by simp; omega)]
  | succ d ih =>
    intro i hd
    rw [index_risesP.l0]
    by_cases c : ((i : Int) + 1) < (x0.length : Int)
    · have hi : i < x0.length := by omega
      have hi1 : i + 1 < x0.length := by omega
      rw [if_pos c, show wrap64 ((i : Int) + 1 - 1) = (i : Int) by rw [wrap64_of (by unfold I64; omega)]; omega, if_pos (by omega), if_pos (by omega), if_pos (by omega), show rd x0 (i : Int) = x0[i] from rd_nat hi, show rd x0 ((i : Int) + 1) = x0[i + 1] from by rw [show (i : Int) + 1 = ((i + 1 : Nat) : Int) by omega]; exact rd_nat hi1, List.drop_eq_getElem_cons hi, List.drop_eq_getElem_cons hi1]
      simp only [risesB]
      by_cases c2 : x0[i] < x0[i + 1]
      · rw [if_neg (by omega), wrap64_of (by unfold I64; omega), show (i : Int) + 1 + 1 = ((i + 1 : Nat) : Int) + 1 by omega, ih (i + 1) (by omega), List.drop_eq_getElem_cons hi1]
        simp [c2]
      · rw [if_pos (by omega)]; simp [c2]
    · rw [if_neg c, risesB_short (by simp; omega)]
def index_rises.f (l0 : List Int) : Option Bool := some (risesB l0)
theorem index_rises.calls (A0 : Option Addr) (c0 : Nat) (l0 : List Int) (r : Bool) (w : World) (hr0 : Kd.C (Kd.int .i64) w A0 l0.length l0) (hc0 : l0.length ≤ c0) (h : index_rises.f l0 = some r) :
    Calls Try.prog 53 #[.slice A0 l0.length c0] w fun e w' => e = .returned (.bool r) ∧ Drawn0 w w' := by
  refine index_risesP.calls (l0.length + 1) A0 c0 l0 r w hr0 hc0 (Eq.trans ?_ h)
  have hm := Kd.C_max hr0
  unfold index_risesP.f index_rises.f
  exact (index_risesP.loop l0 hm l0.length 0 (by omega)).trans (by simp)


/-! ### index_CheckP: function 41 -/
def index_CheckP.f (a0 : Int) (l1 : List Int) : Option (Int) := (index_measure.f a0).bind fun t115 => (if t115 = true then ((index_rises.f l1).bind fun t116 => (if t116 = true then (if (l1.length : Int) > 0 then (if 0 < (l1.length : Int) then (if (rd l1 0) < 0 then (some 1) else (if 0 ≤ (wrap64 ((l1.length : Int) - 1)) then (if (wrap64 ((l1.length : Int) - 1)) < (l1.length : Int) then (if (rd l1 (wrap64 ((l1.length : Int) - 1))) ≥ a0 then (some 1) else (some 0)) else (none)) else (none))) else (none)) else (some 0)) else (some 1))) else (some 1))
set_option maxHeartbeats 8000000 in
set_option maxRecDepth 100000 in
theorem index_CheckP.calls (a0 : Int) (A1 : Option Addr) (c1 : Nat) (l1 : List Int) (r : Int) (w : World) (hr1 : Kd.C (Kd.int .i64) w A1 l1.length l1) (hc1 : l1.length ≤ c1) (h : index_CheckP.f a0 l1 = some r) :
  Calls Try.prog 41 #[.int .i64 a0, .slice A1 l1.length c1] w fun e w' => e = .returned (.int .i64 r) ∧ Drawn0 w w' := by
 have HR1 := Aside0.mk hr1
 have HC1 := Aside0.mk hc1
 clear hr1 hc1
 have H : ((index_measure.f a0).bind fun t115 => (if t115 = true then ((index_rises.f l1).bind fun t116 => (if t116 = true then (if (l1.length : Int) > 0 then (if 0 < (l1.length : Int) then (if (rd l1 0) < 0 then (some 1) else (if 0 ≤ (wrap64 ((l1.length : Int) - 1)) then (if (wrap64 ((l1.length : Int) - 1)) < (l1.length : Int) then (if (rd l1 (wrap64 ((l1.length : Int) - 1))) ≥ a0 then (some 1) else (some 0)) else (none)) else (none))) else (none)) else (some 0)) else (some 1))) else (some 1))) = some r := h
 clear h
 replace H := Option.bind_eq_some_iff.mp H
 obtain ⟨t115, A30, H⟩ := H
 replace H : (if t115 = true then ((index_rises.f l1).bind fun t116 => (if t116 = true then (if (l1.length : Int) > 0 then (if 0 < (l1.length : Int) then (if (rd l1 0) < 0 then (some 1) else (if 0 ≤ (wrap64 ((l1.length : Int) - 1)) then (if (wrap64 ((l1.length : Int) - 1)) < (l1.length : Int) then (if (rd l1 (wrap64 ((l1.length : Int) - 1))) ≥ a0 then (some 1) else (some 0)) else (none)) else (none))) else (none)) else (some 0)) else (some 1))) else (some 1)) = some r := H
 have A3 := Aside0.mk A30
 clear A30
 by_cases c4 : t115 = true
 ·
  subst c4
  have H1 : ((index_rises.f l1).bind fun t116 => (if t116 = true then (if (l1.length : Int) > 0 then (if 0 < (l1.length : Int) then (if (rd l1 0) < 0 then (some 1) else (if 0 ≤ (wrap64 ((l1.length : Int) - 1)) then (if (wrap64 ((l1.length : Int) - 1)) < (l1.length : Int) then (if (rd l1 (wrap64 ((l1.length : Int) - 1))) ≥ a0 then (some 1) else (some 0)) else (none)) else (none))) else (none)) else (some 0)) else (some 1))) = some r := by rw [if_pos rfl] at H; exact H
  clear H
  have H := H1
  clear H1
  replace H := Option.bind_eq_some_iff.mp H
  obtain ⟨t116, A50, H⟩ := H
  replace H : (if t116 = true then (if (l1.length : Int) > 0 then (if 0 < (l1.length : Int) then (if (rd l1 0) < 0 then (some 1) else (if 0 ≤ (wrap64 ((l1.length : Int) - 1)) then (if (wrap64 ((l1.length : Int) - 1)) < (l1.length : Int) then (if (rd l1 (wrap64 ((l1.length : Int) - 1))) ≥ a0 then (some 1) else (some 0)) else (none)) else (none))) else (none)) else (some 0)) else (some 1)) = some r := H
  have A5 := Aside0.mk A50
  clear A50
  by_cases c6 : t116 = true
  ·
   subst c6
   have H1 : (if (l1.length : Int) > 0 then (if 0 < (l1.length : Int) then (if (rd l1 0) < 0 then (some 1) else (if 0 ≤ (wrap64 ((l1.length : Int) - 1)) then (if (wrap64 ((l1.length : Int) - 1)) < (l1.length : Int) then (if (rd l1 (wrap64 ((l1.length : Int) - 1))) ≥ a0 then (some 1) else (some 0)) else (none)) else (none))) else (none)) else (some 0)) = some r := by rw [if_pos rfl] at H; exact H
   clear H
   have H := H1
   clear H1
   by_cases c7 : (l1.length : Int) > 0
   ·
    rw [if_pos c7] at H
    have c7b0 : decide (0 < (l1.length : Int)) = true := decide_eq_true c7
    have c7b1 : decide (0 < l1.length) = true := decide_eq_true (by omega)
    clear c7
    by_cases c8 : 0 < (l1.length : Int)
    ·
     rw [if_pos c8] at H
     have c8b0 : decide (0 < (l1.length : Int)) = true := decide_eq_true c8
     have c8b1 : decide (0 < l1.length) = true := decide_eq_true (by omega)
     clear c8
     by_cases c9 : (rd l1 0) < 0
     ·
      rw [if_pos c9] at H
      have c9b0 : decide ((rd l1 0) < 0) = true := decide_eq_true c9
      clear c9
      obtain rfl := Option.some.inj H
      go_enter Try.func41, Try.ntmps41
      go_wp2_with (first | ((with_reducible refine gate_callee (f := 52) rfl ?_); refine goesL_ (some 9) rfl rfl Try.func52 (by kernel_rfl) rfl #[.int .i64 a0] rfl (by (try simp only [List.map_toArray, List.map_cons, List.map_nil]); first | done | rfl | (simp only [List.length_drop, List.length_take]; rfl)) ?_; (with_reducible refine (index_measure.calls a0 true _ A3.out).mono ?_); rintro e w' ⟨rfl, ⟨nd, rfl⟩⟩; refine ⟨_, rfl, ?_⟩) | (go_at_call 53; (with_reducible refine (index_rises.calls _ _ l1 true _ ?side1 ?side2 A5.out).mono ?_); (case side1 => repeat (first | exact HR1.out | (with_reducible refine Kd.C_alloc ?_ _) | (with_reducible refine Kd.C_drewN ?_ _) | (with_reducible refine Kd.C_drew ?_))); (case side2 => exact HC1.out); rintro e w' ⟨rfl, ⟨nd, rfl⟩⟩; have p117 : 0 ≤ (0 : Int) := (by omega); have q117 : 0 < (l1.length : Int) := of_decide_eq_true (by first | (with_reducible assumption) | assumption); obtain ⟨ad117, e117, hx117_0⟩ := Kd.at_int HR1.out 0 p117 q117; cases e117; have qi117 : (0 < l1.length) = True := eq_true (by omega); (try rw [show ((0 : Int)).toNat = 0 from rfl] at hx117_0); (try rw [Addr.add_zero'] at hx117_0); replace p117 := eq_true p117; replace q117 := eq_true q117))
      go_ret
      exact ⟨by first | rfl | (simp; done) | (simp [*]; done), by repeat (first | exact Drawn0.refl _ | apply Drawn0.step)⟩
     ·
      rw [if_neg c9] at H
      have c9b0 : decide ((rd l1 0) < 0) = false := decide_eq_false c9
      clear c9
      obtain ⟨ji10, hji10⟩ : ∃ j_ : Int, (wrap64 ((l1.length : Int) - 1)) = j_ := ⟨_, rfl⟩
      replace H : (if 0 ≤ (ji10) then (if (ji10) < (l1.length : Int) then (if (rd l1 (ji10)) ≥ a0 then (some 1) else (some 0)) else (none)) else (none)) = some r := by first | (rw [hji10] at H; exact H) | (simp only [hji10] at H ⊢; exact H)
      (try rw [hji10] at A3)
      (try rw [hji10] at A5)
      have hji10w : (IntKind.i64.wrap ((l1.length : Int) - 1)) = ji10 := (i64_w _).trans hji10
      by_cases c11 : 0 ≤ (ji10)
      ·
       rw [if_pos c11] at H
       have c11b0 : decide (0 ≤ (ji10)) = true := decide_eq_true c11
       clear c11
       by_cases c12 : (ji10) < (l1.length : Int)
       ·
        rw [if_pos c12] at H
        have c12b0 : decide ((ji10) < (l1.length : Int)) = true := decide_eq_true c12
        clear c12
        by_cases c13 : (rd l1 (ji10)) ≥ a0
        ·
         rw [if_pos c13] at H
         have c13b0 : decide (a0 ≤ (rd l1 (ji10))) = true := decide_eq_true c13
         clear c13
         obtain rfl := Option.some.inj H
         go_enter Try.func41, Try.ntmps41
         go_wp2_with (first | ((with_reducible refine gate_callee (f := 52) rfl ?_); refine goesL_ (some 9) rfl rfl Try.func52 (by kernel_rfl) rfl #[.int .i64 a0] rfl (by (try simp only [List.map_toArray, List.map_cons, List.map_nil]); first | done | rfl | (simp only [List.length_drop, List.length_take]; rfl)) ?_; (with_reducible refine (index_measure.calls a0 true _ A3.out).mono ?_); rintro e w' ⟨rfl, ⟨nd, rfl⟩⟩; refine ⟨_, rfl, ?_⟩) | (go_at_call 53; (with_reducible refine (index_rises.calls _ _ l1 true _ ?side1 ?side2 A5.out).mono ?_); (case side1 => repeat (first | exact HR1.out | (with_reducible refine Kd.C_alloc ?_ _) | (with_reducible refine Kd.C_drewN ?_ _) | (with_reducible refine Kd.C_drew ?_))); (case side2 => exact HC1.out); rintro e w' ⟨rfl, ⟨nd, rfl⟩⟩; have p117 : 0 ≤ (0 : Int) := (by omega); have q117 : 0 < (l1.length : Int) := of_decide_eq_true (by first | (with_reducible assumption) | assumption); obtain ⟨ad117, e117, hx117_0⟩ := Kd.at_int HR1.out 0 p117 q117; cases e117; have qi117 : (0 < l1.length) = True := eq_true (by omega); (try rw [show ((0 : Int)).toNat = 0 from rfl] at hx117_0); (try rw [Addr.add_zero'] at hx117_0); replace p117 := eq_true p117; replace q117 := eq_true q117; have p118 : 0 ≤ ((ji10) : Int) := of_decide_eq_true (by first | (with_reducible assumption) | assumption); have q118 : (ji10) < (l1.length : Int) := of_decide_eq_true (by first | (with_reducible assumption) | assumption); obtain ⟨ad118, e118, hx118_0⟩ := Kd.at_int HR1.out (ji10) p118 q118; obtain rfl : ad117 = ad118 := (by injection e118); replace p118 := eq_true p118; replace q118 := eq_true q118))
         go_ret
         exact ⟨by first | rfl | (simp; done) | (simp only [← hji10] <;> (first | rfl | simp)) | (simp [*]; done), by repeat (first | exact Drawn0.refl _ | apply Drawn0.step)⟩
        ·
         rw [if_neg c13] at H
         have c13b0 : decide (a0 ≤ (rd l1 (ji10))) = false := decide_eq_false c13
         clear c13
         obtain rfl := Option.some.inj H
         go_enter Try.func41, Try.ntmps41
         go_wp2_with (first | ((with_reducible refine gate_callee (f := 52) rfl ?_); refine goesL_ (some 9) rfl rfl Try.func52 (by kernel_rfl) rfl #[.int .i64 a0] rfl (by (try simp only [List.map_toArray, List.map_cons, List.map_nil]); first | done | rfl | (simp only [List.length_drop, List.length_take]; rfl)) ?_; (with_reducible refine (index_measure.calls a0 true _ A3.out).mono ?_); rintro e w' ⟨rfl, ⟨nd, rfl⟩⟩; refine ⟨_, rfl, ?_⟩) | (go_at_call 53; (with_reducible refine (index_rises.calls _ _ l1 true _ ?side1 ?side2 A5.out).mono ?_); (case side1 => repeat (first | exact HR1.out | (with_reducible refine Kd.C_alloc ?_ _) | (with_reducible refine Kd.C_drewN ?_ _) | (with_reducible refine Kd.C_drew ?_))); (case side2 => exact HC1.out); rintro e w' ⟨rfl, ⟨nd, rfl⟩⟩; have p117 : 0 ≤ (0 : Int) := (by omega); have q117 : 0 < (l1.length : Int) := of_decide_eq_true (by first | (with_reducible assumption) | assumption); obtain ⟨ad117, e117, hx117_0⟩ := Kd.at_int HR1.out 0 p117 q117; cases e117; have qi117 : (0 < l1.length) = True := eq_true (by omega); (try rw [show ((0 : Int)).toNat = 0 from rfl] at hx117_0); (try rw [Addr.add_zero'] at hx117_0); replace p117 := eq_true p117; replace q117 := eq_true q117; have p118 : 0 ≤ ((ji10) : Int) := of_decide_eq_true (by first | (with_reducible assumption) | assumption); have q118 : (ji10) < (l1.length : Int) := of_decide_eq_true (by first | (with_reducible assumption) | assumption); obtain ⟨ad118, e118, hx118_0⟩ := Kd.at_int HR1.out (ji10) p118 q118; obtain rfl : ad117 = ad118 := (by injection e118); replace p118 := eq_true p118; replace q118 := eq_true q118))
         go_ret
         exact ⟨by first | rfl | (simp; done) | (simp only [← hji10] <;> (first | rfl | simp)) | (simp [*]; done), by repeat (first | exact Drawn0.refl _ | apply Drawn0.step)⟩
       ·
        rw [if_neg c12] at H
        exact absurd H (by simp)
      ·
       rw [if_neg c11] at H
       exact absurd H (by simp)
    ·
     rw [if_neg c8] at H
     exact absurd H (by simp)
   ·
    rw [if_neg c7] at H
    have c7b0 : decide (0 < (l1.length : Int)) = false := decide_eq_false c7
    have c7b1 : decide (0 < l1.length) = false := decide_eq_false (by omega)
    clear c7
    obtain rfl := Option.some.inj H
    go_enter Try.func41, Try.ntmps41
    go_wp2_with (first | ((with_reducible refine gate_callee (f := 52) rfl ?_); refine goesL_ (some 9) rfl rfl Try.func52 (by kernel_rfl) rfl #[.int .i64 a0] rfl (by (try simp only [List.map_toArray, List.map_cons, List.map_nil]); first | done | rfl | (simp only [List.length_drop, List.length_take]; rfl)) ?_; (with_reducible refine (index_measure.calls a0 true _ A3.out).mono ?_); rintro e w' ⟨rfl, ⟨nd, rfl⟩⟩; refine ⟨_, rfl, ?_⟩) | (go_at_call 53; (with_reducible refine (index_rises.calls _ _ l1 true _ ?side1 ?side2 A5.out).mono ?_); (case side1 => repeat (first | exact HR1.out | (with_reducible refine Kd.C_alloc ?_ _) | (with_reducible refine Kd.C_drewN ?_ _) | (with_reducible refine Kd.C_drew ?_))); (case side2 => exact HC1.out); rintro e w' ⟨rfl, ⟨nd, rfl⟩⟩))
    go_ret
    exact ⟨by first | rfl | (simp; done) | (simp [*]; done), by repeat (first | exact Drawn0.refl _ | apply Drawn0.step)⟩
  ·
   replace c6 := Bool.eq_false_iff.mpr c6
   subst c6
   have H1 : (some 1) = some r := by rw [if_neg (show ¬ (false = true) by decide)] at H; exact H
   clear H
   have H := H1
   clear H1
   obtain rfl := Option.some.inj H
   go_enter Try.func41, Try.ntmps41
   go_wp2_with (first | ((with_reducible refine gate_callee (f := 52) rfl ?_); refine goesL_ (some 9) rfl rfl Try.func52 (by kernel_rfl) rfl #[.int .i64 a0] rfl (by (try simp only [List.map_toArray, List.map_cons, List.map_nil]); first | done | rfl | (simp only [List.length_drop, List.length_take]; rfl)) ?_; (with_reducible refine (index_measure.calls a0 true _ A3.out).mono ?_); rintro e w' ⟨rfl, ⟨nd, rfl⟩⟩; refine ⟨_, rfl, ?_⟩) | (go_at_call 53; (with_reducible refine (index_rises.calls _ _ l1 false _ ?side1 ?side2 A5.out).mono ?_); (case side1 => repeat (first | exact HR1.out | (with_reducible refine Kd.C_alloc ?_ _) | (with_reducible refine Kd.C_drewN ?_ _) | (with_reducible refine Kd.C_drew ?_))); (case side2 => exact HC1.out); rintro e w' ⟨rfl, ⟨nd, rfl⟩⟩))
   go_ret
   exact ⟨by first | rfl | (simp; done) | (simp [*]; done), by repeat (first | exact Drawn0.refl _ | apply Drawn0.step)⟩
 ·
  replace c4 := Bool.eq_false_iff.mpr c4
  subst c4
  have H1 : (some 1) = some r := by rw [if_neg (show ¬ (false = true) by decide)] at H; exact H
  clear H
  have H := H1
  clear H1
  obtain rfl := Option.some.inj H
  go_enter Try.func41, Try.ntmps41
  go_wp2_with (first | ((with_reducible refine gate_callee (f := 52) rfl ?_); refine goesL_ (some 9) rfl rfl Try.func52 (by kernel_rfl) rfl #[.int .i64 a0] rfl (by (try simp only [List.map_toArray, List.map_cons, List.map_nil]); first | done | rfl | (simp only [List.length_drop, List.length_take]; rfl)) ?_; (with_reducible refine (index_measure.calls a0 false _ A3.out).mono ?_); rintro e w' ⟨rfl, ⟨nd, rfl⟩⟩; refine ⟨_, rfl, ?_⟩))
  go_ret
  exact ⟨by first | rfl | (simp; done) | (simp [*]; done), by repeat (first | exact Drawn0.refl _ | apply Drawn0.step)⟩

def index_Check.f (a0 : Int) (l1 : List Int) : Option Int := some (checkI a0 l1)
theorem index_Check.calls (a0 : Int) (A1 : Option Addr) (c1 : Nat) (l1 : List Int) (r : Int) (w : World) (hr1 : Kd.C (Kd.int .i64) w A1 l1.length l1) (hc1 : l1.length ≤ c1) (h : index_Check.f a0 l1 = some r) :
    Calls Try.prog 41 #[.int .i64 a0, .slice A1 l1.length c1] w fun e w' => e = .returned (.int .i64 r) ∧ Drawn0 w w' := by
  refine index_CheckP.calls a0 A1 c1 l1 r w hr1 hc1 (Eq.trans ?_ h)
  have hm := Kd.C_max hr1
  unfold index_CheckP.f index_Check.f index_measure.f index_rises.f checkI
  by_cases c1 : 1 ≤ a0
  · rw [if_pos (by omega)]
    simp only [Option.bind_some]
    by_cases c2 : a0 ≤ 4096
    · rw [if_pos (decide_eq_true c2)]
      by_cases c3 : risesB l1 = true
      · rw [if_pos c3]
        cases l1 with
        | nil => simp [c1, c2, c3]
        | cons x l =>
          have hne : x :: l ≠ [] := by simp
          have hl := risesB_last (x :: l) hne c3
          have hh := risesB_head l x c3
          have e0 : rd (x :: l) 0 = x := rfl
          have hln : 0 < (x :: l).length := by simp
          have e1 : rd (x :: l) (wrap64 (((x :: l).length : Int) - 1)) = (x :: l).getLast hne := by
            rw [wrap64_of (by unfold I64; omega), show ((x :: l).length : Int) - 1 = (((x :: l).length - 1 : Nat) : Int) by simp, rd_nat (by simp), List.getLast_eq_getElem]
          rw [e0, e1, wrap64_of (by unfold I64; omega), if_pos (by omega), if_pos (by omega)]
          have hm1 := hl _ (List.mem_cons_self)
          have hm2 : (x :: l).getLast hne ∈ x :: l := List.getLast_mem hne
          by_cases c4 : x < 0
          · rw [if_pos c4, if_neg (fun hh => by have := (hh.2.2.2 x (by simp)).1; omega)]
          · rw [if_neg c4, if_pos (by omega), if_pos (by omega)]
            by_cases c5 : (x :: l).getLast hne ≥ a0
            · rw [if_pos c5, if_neg (fun hh => by have := (hh.2.2.2 _ hm2).2; omega)]
            · rw [if_neg c5, if_pos ⟨c1, c2, c3, fun y hy => ⟨by rcases List.mem_cons.1 hy with e | e; (rw [e]; omega); (have := hh y e; omega), by have := hl y hy; omega⟩⟩]
      · rw [if_neg c3, if_neg (fun hh => c3 hh.2.2.1)]
    · rw [if_neg (by simp; omega), if_neg (fun hh => by omega)]
  · rw [if_neg (by omega)]
    simp only [Option.bind_some]
    rw [if_neg (by simp), if_neg (fun hh => by omega)]


/-! ### slices_IndexFunc_uint64_uint64: function 54 -/
set_option maxHeartbeats 2000000 in
set_option maxRecDepth 100000 in
theorem slices_IndexFunc_uint64_uint64.gen (K : Nat) (caps : Array Value) (g : Int → Bool) (A0 : Option Addr) (c0 : Nat) (l0 : List Int) (w : World)
    (hent : ∀ (args : Array Value) (w : World), (callFunc K args).run Try.prog w = .ok (.enter K args) w)
    (hr0 : Kd.C (Kd.int .u64) w A0 l0.length l0)
    (H : TellsD Try.prog K caps l0.length (fun i => Value.int .u64 (l0.getD i default)) (fun i => Value.bool (g (l0.getD i default))) w) :
    Calls Try.prog 54 #[.slice A0 l0.length c0, .func (.func K) #[] caps] w fun e w' => (∃ r : Int, e = .returned (.int .i64 r) ∧ decide (0 ≤ r) = l0.any g) ∧ Drawn0 w w' := by
  have hm := Kd.C_max hr0
  have HH := Aside0.mk H
  have HR := Aside0.mk hr0
  clear H hr0
  go_enter Try.func54, Try.ntmps54
  go_wp2_with fail
  go_loopw [8] (fun i W => ∃ (k m : Nat), i = .int .i64 k ∧ W = w.drewN m ∧ Aside0 (k ≤ l0.length) ∧ Aside0 ((l0.take k).any g = false)) (fun i _ => l0.length - (intOf i).toNat)
  case atStart => exact ⟨0, 0, rfl, rfl, ⟨Nat.zero_le _⟩, ⟨by simp⟩⟩
  case round =>
    obtain ⟨k, m, rfl, rfl, ⟨hk⟩, HN⟩ := hrel
    by_cases hlt : k < l0.length
    · obtain ⟨ad, rfl, hc⟩ := Kd.at_int HR.out (k : Int) (by omega) (by omega)
      simp only [Int.toNat_natCast] at hc
      rw [show rd l0 (k : Int) = l0.getD k default from rfl] at hc
      obtain ⟨x, hx⟩ : ∃ x, l0.getD k default = x := ⟨_, rfl⟩
      have hxe : l0[k] = x := by rw [← hx]; simp [List.getD_eq_getElem?_getD, List.getElem?_eq_getElem hlt]
      have hcl := HH.out k m hlt
      simp only [hx] at hcl hc
      by_cases hg : g x = true
      · rw [hg] at hcl
        have HC := Aside0.mk hcl
        have HA : Aside0 (l0.any g = true) := ⟨List.any_eq_true.2 ⟨x, by rw [← hxe]; exact List.getElem_mem hlt, hg⟩⟩
        clear hcl hx hxe hg
        go_wp2_with (go_at_fn K; refine HC.out.mono ?_; rintro ed W1 ⟨rfl, ⟨nd, rfl⟩⟩)
        go_ret
        exact ⟨⟨_, rfl, by rw [HA.out]; exact decide_eq_true (Int.natCast_nonneg _)⟩, by first | exact ⟨_, rfl⟩ | exact ⟨_, World.drewN_drewN _ _ _⟩⟩
      · have hgf : g x = false := by simpa using hg
        rw [hgf] at hcl
        have HC := Aside0.mk hcl
        have HA : Aside0 ((l0.take (k + 1)).any g = false) := ⟨by rw [List.take_add_one, List.getElem?_eq_getElem hlt, List.any_append, HN.out]; simp [hxe, hgf]⟩
        clear hcl hx hxe hg hgf hk
        go_wp2_with (go_at_fn K; refine HC.out.mono ?_; rintro ed W1 ⟨rfl, ⟨nd, rfl⟩⟩)
        exact ⟨⟨k + 1, m + nd, by first | rfl | (rw [wrap64_of (show I64 ((k : Int) + 1) by unfold I64; omega)]; rfl), by first | rfl | exact World.drewN_drewN _ _ _, ⟨hlt⟩, HA⟩, by (try rw [wrap64_of (show I64 ((k : Int) + 1) by unfold I64; omega)]); simp [intOf]; omega⟩
    · have hkn : k = l0.length := by omega
      subst hkn
      have HA := HN.out
      rw [List.take_length] at HA
      have HA := Aside0.mk HA
      clear hk
      go_wp2
      go_ret
      exact ⟨⟨_, rfl, by rw [HA.out]; rfl⟩, ⟨_, rfl⟩⟩


/-! ### slices_ContainsFunc_uint64_uint64: function 42 -/
set_option maxHeartbeats 2000000 in
set_option maxRecDepth 100000 in
theorem slices_ContainsFunc_uint64_uint64.gen (K : Nat) (caps : Array Value) (g : Int → Bool) (A0 : Option Addr) (c0 : Nat) (l0 : List Int) (w : World)
    (hent : ∀ (args : Array Value) (w : World), (callFunc K args).run Try.prog w = .ok (.enter K args) w)
    (hr0 : Kd.C (Kd.int .u64) w A0 l0.length l0)
    (H : TellsD Try.prog K caps l0.length (fun i => Value.int .u64 (l0.getD i default)) (fun i => Value.bool (g (l0.getD i default))) w) :
    Calls Try.prog 42 #[.slice A0 l0.length c0, .func (.func K) #[] caps] w fun e w' => e = .returned (.bool (l0.any g)) ∧ Drawn0 w w' := by
  have HH := Aside0.mk H
  have HR := Aside0.mk hr0
  have HE := Aside0.mk hent
  clear H hr0 hent
  go_enter Try.func42, Try.ntmps42
  go_wp2_with (go_at_call 54; (with_reducible refine (slices_IndexFunc_uint64_uint64.gen K caps g A0 c0 l0 _ HE.out HR.out HH.out).mono ?_); rintro ed W2 ⟨⟨r, rfl, hr⟩, ⟨nd, rfl⟩⟩; have HRR := Aside0.mk hr; clear hr)
  go_ret
  exact ⟨by rw [← HRR.out]; rfl, ⟨_, rfl⟩⟩


end Go.Proofs.Ytnhdeljkoackfaa.HC
