/- What Go functions do, each as a plain Lean function with the same answers, and the proof of it, in every world: printed by the session's driver over the kit's print, with texts by hand. -/
import Derived.Test.YtkfhdpnfcaghbaaHQx0
import Derived.Test.YtkfhdpnfcaghbaaMini
namespace Go.Proofs.Ytkfhdpnfcaghbaa.HQ
open Go.RowKit Go.Proofs.YtkfhdpnfcaghbaaW.PrintWords Go.Proofs.YtkfhdpnfcaghbaaW.PrintLast Go.Proofs.YtkfhdpnfcaghbaaW.PrintMore
attribute [local go_sem] max2_int min2_int max_two min_two max_three min_three max_four min_four   -- for this text's walks alone
open Go.Proofs.Ytkfhdpnfcaghbaa.Sp
attribute [local go_sem] Go.Proofs.Ytkfhdpnfcaghbaa.Sp.u64_not
set_option linter.unusedVariables false
set_option linter.unusedSimpArgs false

/-! ### thrumref06_risesP: function 121 -/
def thrumref06_risesP.l0 : Nat → List Int → Int → Option (Bool)
 | 0, _, _ => none
 | k + 1, x0, x3 => if x3 < (x0.length : Int) then (if 0 ≤ x3 then (if 0 ≤ (wrap64 (x3 - 1)) then (if (wrap64 (x3 - 1)) < (x0.length : Int) then (if (rd x0 x3) ≤ (rd x0 (wrap64 (x3 - 1))) then (some false) else (thrumref06_risesP.l0 k x0 (wrap64 (x3 + 1)))) else (none)) else (none)) else (none)) else (some true)
def thrumref06_risesP.f (k : Nat) (l0 : List Int) : Option (Bool) := thrumref06_risesP.l0 k l0 1
theorem thrumref06_risesP.mono_l : ∀ k, (∀ y0 y1, LeO (thrumref06_risesP.l0 k y0 y1) (thrumref06_risesP.l0 (k + 1) y0 y1))
 | 0 => fun _ _ r h => by simp [thrumref06_risesP.l0] at h
 | k + 1 => by
  have ih0 := thrumref06_risesP.mono_l k
  ·
   intro y0 y1
   unfold thrumref06_risesP.l0
   repeat' first
   | (with_reducible exact ih0 _ _)
   | (with_reducible exact LeO.refl _)
   | (with_reducible exact LeO.none _)
   | (with_reducible refine LeO.ite ?_ ?_)
   | (with_reducible refine LeO.bind ?_ (fun _ => ?_))
theorem thrumref06_risesP.mono : ∀ a0 k, LeO (thrumref06_risesP.f k a0) (thrumref06_risesP.f (k + 1) a0) := by
 intro a0 k
 have ih0 := thrumref06_risesP.mono_l k
 unfold thrumref06_risesP.f
 repeat' first
   | (with_reducible exact ih0 _ _)
   | (with_reducible exact LeO.refl _)
   | (with_reducible exact LeO.none _)
   | (with_reducible refine LeO.ite ?_ ?_)
   | (with_reducible refine LeO.bind ?_ (fun _ => ?_))
set_option maxHeartbeats 8000000 in
set_option maxRecDepth 100000 in
theorem thrumref06_risesP.calls (k : Nat) (A0 : Option Addr) (c0 : Nat) (l0 : List Int) (r : Bool) (w : World) (hr0 : Kd.C (Kd.int .i64) w A0 l0.length l0) (hc0 : l0.length ≤ c0) (h : thrumref06_risesP.f k l0 = some r) :
  Calls Try.prog 121 #[.slice A0 l0.length c0] w fun e w' => e = .returned (.bool r) ∧ Drawn0 w w' := by
 have HR0 := ZM hr0
 have HC0 := ZM hc0
 clear hr0 hc0
 have H : (thrumref06_risesP.l0 k l0 1) = some r := h
 clear h
 have H' := ZM H
 clear H
 go_enter Try.func121, Try.ntmps121
 go_wp2
 repeat (go_quiet (fail); try go_wp2)
 go_loopg [3] k (fun kq v3 w' => ∃ (x3_1 : Int), v3 = .int .i64 x3_1 ∧ Aside0 (thrumref06_risesP.l0 kq l0 x3_1 = some r) ∧ Aside0 (kq ≤ k) ∧ Drawn0 w w')
 case atStart => exact ⟨(1), Z5, H', ⟨Nat.le_refl _⟩, by repeat (first | exact ddR _ | apply ddS)⟩
 case round =>
  clear H'
  obtain ⟨x3_1, rfl, HA, HK1, ⟨m1, rfl⟩⟩ := hrel
  cases gk with
  | zero => exact absurd HA.out (by simp [thrumref06_risesP.l0])
  | succ k1 =>
   have H := HA.out
   clear HA
   simp only [thrumref06_risesP.l0] at H
   by_cases c2 : x3_1 < (l0.length : Int)
   case neg =>
    rw [if_neg c2] at H
    have c2b0 : decide (x3_1 < (l0.length : Int)) = false := decide_eq_false c2
    clear c2
    obtain rfl := Option.some.inj H
    go_wp2
    repeat (go_quiet (fail); try go_wp2)
    go_ret
    exact ⟨by first | rfl | (simp; done) | (simp [*]; done), by repeat (first | exact ddR _ | apply ddS)⟩
   rw [if_pos c2] at H
   have c2b0 : decide (x3_1 < (l0.length : Int)) = true := decide_eq_true c2
   clear c2
   by_cases c3 : 0 ≤ x3_1
   case neg =>
    rw [if_neg c3] at H
    exact absurd H (by simp)
   rw [if_pos c3] at H
   have c3b0 : decide (0 ≤ x3_1) = true := decide_eq_true c3
   clear c3
   obtain ⟨ji4, hji4⟩ : ∃ j_ : Int, (wrap64 (x3_1 - 1)) = j_ := ⟨_, rfl⟩
   replace H : (if 0 ≤ (ji4) then (if (ji4) < (l0.length : Int) then (if (rd l0 x3_1) ≤ (rd l0 (ji4)) then (some false) else (thrumref06_risesP.l0 k1 l0 (wrap64 (x3_1 + 1)))) else (none)) else (none)) = some r := by first | (rw [hji4] at H; exact H) | (simp only [hji4] at H ⊢; exact H)
   have hji4w : (IntKind.i64.wrap (x3_1 - 1)) = ji4 := (i64_w _).trans hji4
   by_cases c5 : 0 ≤ (ji4)
   case neg =>
    rw [if_neg c5] at H
    exact absurd H (by simp)
   rw [if_pos c5] at H
   have c5b0 : decide (0 ≤ (ji4)) = true := decide_eq_true c5
   clear c5
   by_cases c6 : (ji4) < (l0.length : Int)
   case neg =>
    rw [if_neg c6] at H
    exact absurd H (by simp)
   rw [if_pos c6] at H
   have c6b0 : decide ((ji4) < (l0.length : Int)) = true := decide_eq_true c6
   clear c6
   by_cases c7 : (rd l0 x3_1) ≤ (rd l0 (ji4))
   ·
    rw [if_pos c7] at H
    have c7b0 : decide ((rd l0 x3_1) ≤ (rd l0 (ji4))) = true := decide_eq_true c7
    clear c7
    obtain rfl := Option.some.inj H
    have p282 : 0 ≤ (x3_1 : Int) := of_decide_eq_true Z2
    have q282 : x3_1 < (l0.length : Int) := of_decide_eq_true Z2
    obtain ⟨ad282, e282, hx282_0⟩ := Kd.at_int HR0.out x3_1 p282 q282
    cases e282
    replace p282 := eq_true p282
    replace q282 := eq_true q282
    have p283 : 0 ≤ ((ji4) : Int) := of_decide_eq_true Z2
    have q283 : (ji4) < (l0.length : Int) := of_decide_eq_true Z2
    obtain ⟨ad283, e283, hx283_0⟩ := Kd.at_int HR0.out (ji4) p283 q283
    obtain rfl : ad282 = ad283 := (by injection e283)
    replace p283 := eq_true p283
    replace q283 := eq_true q283
    go_wp2
    repeat (go_quiet (fail); try go_wp2)
    go_ret
    exact ⟨by first | rfl | (simp; done) | (simp only [← hji4] <;> (first | rfl | simp)) | (simp [*]; done), by repeat (first | exact ddR _ | apply ddS)⟩
   rw [if_neg c7] at H
   have c7b0 : decide ((rd l0 x3_1) ≤ (rd l0 (ji4))) = false := decide_eq_false c7
   clear c7
   have H' := ZM H
   clear H
   have p282 : 0 ≤ (x3_1 : Int) := of_decide_eq_true Z2
   have q282 : x3_1 < (l0.length : Int) := of_decide_eq_true Z2
   obtain ⟨ad282, e282, hx282_0⟩ := Kd.at_int HR0.out x3_1 p282 q282
   cases e282
   replace p282 := eq_true p282
   replace q282 := eq_true q282
   have p283 : 0 ≤ ((ji4) : Int) := of_decide_eq_true Z2
   have q283 : (ji4) < (l0.length : Int) := of_decide_eq_true Z2
   obtain ⟨ad283, e283, hx283_0⟩ := Kd.at_int HR0.out (ji4) p283 q283
   obtain rfl : ad282 = ad283 := (by injection e283)
   replace p283 := eq_true p283
   replace q283 := eq_true q283
   go_wp2
   repeat (go_quiet (fail); try go_wp2)
   go_roundg k1
   case measure => have := HK1.out; omega
   case rel => exact ⟨(wrap64 (x3_1 + 1)), Z5, H', ⟨by have := HK1.out; omega⟩, by repeat (first | exact ddR _ | apply ddS)⟩
theorem thrumref06_risesP.loop (x0 : List Int) (hb : x0.length ≤ 9223372036854775807) : ∀ (d i : Nat), x0.length ≤ d + i + 1 →
    thrumref06_risesP.l0 (d + 1) x0 ((i : Int) + 1) = some (risesB (x0.drop i)) := by
  intro d
  induction d with
  | zero =>
    intro i hd
    rw [thrumref06_risesP.l0, if_neg (by omega), risesB_short (by simp; omega)]
  | succ d ih =>
    intro i hd
    rw [thrumref06_risesP.l0]
    by_cases c : ((i : Int) + 1) < (x0.length : Int)
    · have hi : i < x0.length := by omega
      have hi1 : i + 1 < x0.length := by omega
      rw [if_pos c, if_pos (by omega), show wrap64 ((i : Int) + 1 - 1) = (i : Int) by rw [wrap64_of (by unfold I64; omega)]; omega, if_pos (by omega), if_pos (by omega), show rd x0 (i : Int) = x0[i] from rd_nat hi, show rd x0 ((i : Int) + 1) = x0[i + 1] from by rw [show (i : Int) + 1 = ((i + 1 : Nat) : Int) by omega]; exact rd_nat hi1, List.drop_eq_getElem_cons hi, List.drop_eq_getElem_cons hi1]
      simp only [risesB]
      by_cases c2 : x0[i] < x0[i + 1]
      · rw [if_neg (by omega), wrap64_of (by unfold I64; omega), show (i : Int) + 1 + 1 = ((i + 1 : Nat) : Int) + 1 by omega, ih (i + 1) (by omega), List.drop_eq_getElem_cons hi1]
        simp [c2]
      · rw [if_pos (by omega)]; simp [c2]
    · rw [if_neg c, risesB_short (by simp; omega)]
def thrumref06_rises.f (l0 : List Int) : Option Bool := some (risesB l0)
theorem thrumref06_rises.calls (A0 : Option Addr) (c0 : Nat) (l0 : List Int) (r : Bool) (w : World) (hr0 : Kd.C (Kd.int .i64) w A0 l0.length l0) (hc0 : l0.length ≤ c0) (h : thrumref06_rises.f l0 = some r) :
    Calls Try.prog 121 #[.slice A0 l0.length c0] w fun e w' => e = .returned (.bool r) ∧ Drawn0 w w' := by
  refine thrumref06_risesP.calls (l0.length + 1) A0 c0 l0 r w hr0 hc0 (Eq.trans ?_ h)
  have hm := Kd.C_max hr0
  unfold thrumref06_risesP.f thrumref06_rises.f
  exact (thrumref06_risesP.loop l0 hm l0.length 0 (by omega)).trans (by simp)


/-! ### thrumref06_CheckP: function 109 -/
mutual
def thrumref06_CheckP.j0 : Nat → Int → List Int → Bool → Option (Int)
 | 0, _, _, _ => none
 | k + 1, x0, x1, x17 => if x17 = true then (some 1) else (thrumref06_CheckP.l0 k x0 x1 (x1.length : Int) 0)
def thrumref06_CheckP.l0 : Nat → Int → List Int → Int → Int → Option (Int)
 | 0, _, _, _, _ => none
 | k + 1, x0, x18, x19, x20 => if x20 < x19 then (if 0 ≤ x20 then (if x20 < (x18.length : Int) then (if (rd x18 x20) < 0 then (some 1) else (if (rd x18 x20) ≥ x0 then (some 1) else (thrumref06_CheckP.l0 k x0 x18 x19 (wrap64 (x20 + 1))))) else (none)) else (none)) else (some 0)
end
def thrumref06_CheckP.f (k : Nat) (a0 : Int) (l1 : List Int) : Option (Int) := if a0 < 1 then (thrumref06_CheckP.j0 k a0 l1 true) else (if a0 > 4096 then (thrumref06_CheckP.j0 k a0 l1 true) else ((thrumref06_rises.f l1).bind fun t284 => (thrumref06_CheckP.j0 k a0 l1 (!t284))))
theorem thrumref06_CheckP.mono_l : ∀ k, (∀ y0 y1 y2, LeO (thrumref06_CheckP.j0 k y0 y1 y2) (thrumref06_CheckP.j0 (k + 1) y0 y1 y2)) ∧ (∀ y0 y1 y2 y3, LeO (thrumref06_CheckP.l0 k y0 y1 y2 y3) (thrumref06_CheckP.l0 (k + 1) y0 y1 y2 y3))
 | 0 => ⟨fun _ _ _ r h => by simp [thrumref06_CheckP.j0] at h, fun _ _ _ _ r h => by simp [thrumref06_CheckP.l0] at h⟩
 | k + 1 => by
  obtain ⟨ih0, ih1⟩ := thrumref06_CheckP.mono_l k
  refine ⟨?_, ?_⟩
  ·
   intro y0 y1 y2
   unfold thrumref06_CheckP.j0
   repeat' first
   | (with_reducible exact ih0 _ _ _)
   | (with_reducible exact ih1 _ _ _ _)
   | (with_reducible exact LeO.refl _)
   | (with_reducible exact LeO.none _)
   | (with_reducible refine LeO.ite ?_ ?_)
   | (with_reducible refine LeO.bind ?_ (fun _ => ?_))
  ·
   intro y0 y1 y2 y3
   unfold thrumref06_CheckP.l0
   repeat' first
   | (with_reducible exact ih0 _ _ _)
   | (with_reducible exact ih1 _ _ _ _)
   | (with_reducible exact LeO.refl _)
   | (with_reducible exact LeO.none _)
   | (with_reducible refine LeO.ite ?_ ?_)
   | (with_reducible refine LeO.bind ?_ (fun _ => ?_))
theorem thrumref06_CheckP.mono : ∀ a0 a1 k, LeO (thrumref06_CheckP.f k a0 a1) (thrumref06_CheckP.f (k + 1) a0 a1) := by
 intro a0 a1 k
 obtain ⟨ih0, ih1⟩ := thrumref06_CheckP.mono_l k
 unfold thrumref06_CheckP.f
 repeat' first
   | (with_reducible exact ih0 _ _ _)
   | (with_reducible exact ih1 _ _ _ _)
   | (with_reducible exact LeO.refl _)
   | (with_reducible exact LeO.none _)
   | (with_reducible refine LeO.ite ?_ ?_)
   | (with_reducible refine LeO.bind ?_ (fun _ => ?_))
set_option maxHeartbeats 8000000 in
set_option maxRecDepth 100000 in
theorem thrumref06_CheckP.calls (k : Nat) (a0 : Int) (A1 : Option Addr) (c1 : Nat) (l1 : List Int) (r : Int) (w : World) (hr1 : Kd.C (Kd.int .i64) w A1 l1.length l1) (hc1 : l1.length ≤ c1) (h : thrumref06_CheckP.f k a0 l1 = some r) :
  Calls Try.prog 109 #[.int .i64 a0, .slice A1 l1.length c1] w fun e w' => e = .returned (.int .i64 r) ∧ Drawn0 w w' := by
 have HR1 := ZM hr1
 have HC1 := ZM hc1
 clear hr1 hc1
 have H : (if a0 < 1 then (thrumref06_CheckP.j0 k a0 l1 true) else (if a0 > 4096 then (thrumref06_CheckP.j0 k a0 l1 true) else ((thrumref06_rises.f l1).bind fun t284 => (thrumref06_CheckP.j0 k a0 l1 (!t284))))) = some r := h
 clear h
 have HC3 := ZM H
 clear H
 go_enter Try.func109, Try.ntmps109
 go_upto_region 1 with (fail)
 go_cut [17] (fun v17 wc => ∃ (kq : Nat) (x17_2 : Bool), v17 = .bool x17_2 ∧ Aside0 (thrumref06_CheckP.j0 kq a0 l1 x17_2 = some r) ∧ Aside0 (kq ≤ k) ∧ Drawn0 w wc)
 case first =>
  have H := HC3.out
  clear HC3
  by_cases c4 : a0 < 1
  ·
   rw [if_pos c4] at H
   have c4b0 : decide (a0 < 1) = true := decide_eq_true c4
   clear c4
   (first | rw [c4b0] | (simp only [i64_w, i32_w]; rw [c4b0]) | skip)
   have H' := ZM H
   clear H
   go_wp2
   go_meet
   case rel => exact ⟨_, (true), Z5, H', ⟨by first | omega | exact Nat.le_refl _⟩, by repeat (first | exact ddR _ | apply ddS)⟩
  rw [if_neg c4] at H
  have c4b0 : decide (a0 < 1) = false := decide_eq_false c4
  clear c4
  (first | rw [c4b0] | (simp only [i64_w, i32_w]; rw [c4b0]) | skip)
  by_cases c5 : a0 > 4096
  ·
   rw [if_pos c5] at H
   have c5b0 : decide (4096 < a0) = true := decide_eq_true c5
   clear c5
   have H' := ZM H
   clear H
   go_wp2
   go_meet
   case rel => exact ⟨_, (true), Z5, H', ⟨by first | omega | exact Nat.le_refl _⟩, by repeat (first | exact ddR _ | apply ddS)⟩
  rw [if_neg c5] at H
  have c5b0 : decide (4096 < a0) = false := decide_eq_false c5
  clear c5
  replace H := Option.bind_eq_some_iff.mp H
  obtain ⟨t284, A60, H⟩ := H
  replace H : (thrumref06_CheckP.j0 k a0 l1 (!t284)) = some r := H
  have A6 := ZM A60
  clear A60
  have H' := ZM H
  clear H
  go_wp2_with (first | (go_at_call 121; (with_reducible refine (thrumref06_rises.calls _ _ l1 t284 _ ?side1 ?side2 A6.out).mono ?_); (case side1 => exact Z32); (case side2 => exact HC1.out); rintro e w' ⟨rfl, ⟨nd, rfl⟩⟩))
  go_meet
  case rel => exact ⟨_, (!t284), Z5, H', ⟨by first | omega | exact Nat.le_refl _⟩, by repeat (first | exact ddR _ | apply ddS)⟩
 clear HC3
 try clear c1
 obtain ⟨kq, x17_2, rfl, HA, HJ2, ⟨mc2, rfl⟩⟩ := hcut
 cases kq with
 | zero => exact absurd HA.out (by simp [thrumref06_CheckP.j0])
 | succ kj2 =>
  have H := HA.out
  clear HA
  simp only [thrumref06_CheckP.j0] at H
  by_cases c7 : x17_2 = true
  ·
   subst c7
   have H1 : (some 1) = some r := by rw [if_pos rfl] at H; exact H
   clear H
   have H := H1
   clear H1
   obtain rfl := Option.some.inj H
   go_wp2
   go_ret
   exact ⟨by first | rfl | (simp; done) | (simp [*]; done), by repeat (first | exact ddR _ | apply ddS)⟩
  replace c7 := Bool.eq_false_iff.mpr c7
  subst c7
  have H1 : (thrumref06_CheckP.l0 kj2 a0 l1 (l1.length : Int) 0) = some r := by rw [if_neg (show ¬ (false = true) by decide)] at H; exact H
  clear H
  have H := H1
  clear H1
  have H' := ZM H
  clear H
  go_wp2
  go_loopg [20] kj2 (fun kq v20 w' => ∃ (x20_2 : Int), v20 = .int .i64 x20_2 ∧ Aside0 (thrumref06_CheckP.l0 kq a0 l1 (l1.length : Int) x20_2 = some r) ∧ Aside0 (kq ≤ kj2) ∧ Drawn0 w w')
  case atStart => exact ⟨(0), Z5, H', ⟨Nat.le_refl _⟩, by repeat (first | exact ddR _ | apply ddS)⟩
  case round =>
   clear H'
   try clear c1
   try clear c7
   obtain ⟨x20_2, rfl, HA, HK2, ⟨m2, rfl⟩⟩ := hrel
   cases gk with
   | zero => exact absurd HA.out (by simp [thrumref06_CheckP.l0])
   | succ k2 =>
    have H := HA.out
    clear HA
    simp only [thrumref06_CheckP.l0] at H
    by_cases c8 : x20_2 < (l1.length : Int)
    case neg =>
     rw [if_neg c8] at H
     have c8b0 : decide (x20_2 < (l1.length : Int)) = false := decide_eq_false c8
     clear c8
     obtain rfl := Option.some.inj H
     go_wp2
     go_ret
     exact ⟨by first | rfl | (simp; done) | (simp [*]; done), by repeat (first | exact ddR _ | apply ddS)⟩
    rw [if_pos c8] at H
    have c8b0 : decide (x20_2 < (l1.length : Int)) = true := decide_eq_true c8
    clear c8
    by_cases c9 : 0 ≤ x20_2
    case neg =>
     rw [if_neg c9] at H
     exact absurd H (by simp)
    rw [if_pos c9] at H
    have c9b0 : decide (0 ≤ x20_2) = true := decide_eq_true c9
    clear c9
    by_cases c10 : x20_2 < (l1.length : Int)
    case neg =>
     rw [if_neg c10] at H
     exact absurd H (by simp)
    rw [if_pos c10] at H
    have c10b0 : decide (x20_2 < (l1.length : Int)) = true := decide_eq_true c10
    clear c10
    by_cases c11 : (rd l1 x20_2) < 0
    ·
     rw [if_pos c11] at H
     have c11b0 : decide ((rd l1 x20_2) < 0) = true := decide_eq_true c11
     clear c11
     obtain rfl := Option.some.inj H
     have p285 : 0 ≤ (x20_2 : Int) := of_decide_eq_true Z2
     have q285 : x20_2 < (l1.length : Int) := of_decide_eq_true Z2
     obtain ⟨ad285, e285, hx285_0⟩ := Kd.at_int HR1.out x20_2 p285 q285
     cases e285
     replace p285 := eq_true p285
     replace q285 := eq_true q285
     go_wp2
     go_ret
     exact ⟨by first | rfl | (simp; done) | (simp [*]; done), by repeat (first | exact ddR _ | apply ddS)⟩
    rw [if_neg c11] at H
    have c11b0 : decide ((rd l1 x20_2) < 0) = false := decide_eq_false c11
    clear c11
    by_cases c12 : (rd l1 x20_2) ≥ a0
    ·
     rw [if_pos c12] at H
     have c12b0 : decide (a0 ≤ (rd l1 x20_2)) = true := decide_eq_true c12
     clear c12
     obtain rfl := Option.some.inj H
     have p285 : 0 ≤ (x20_2 : Int) := of_decide_eq_true Z2
     have q285 : x20_2 < (l1.length : Int) := of_decide_eq_true Z2
     obtain ⟨ad285, e285, hx285_0⟩ := Kd.at_int HR1.out x20_2 p285 q285
     cases e285
     replace p285 := eq_true p285
     replace q285 := eq_true q285
     go_wp2
     go_ret
     exact ⟨by first | rfl | (simp; done) | (simp [*]; done), by repeat (first | exact ddR _ | apply ddS)⟩
    rw [if_neg c12] at H
    have c12b0 : decide (a0 ≤ (rd l1 x20_2)) = false := decide_eq_false c12
    clear c12
    have H' := ZM H
    clear H
    have p285 : 0 ≤ (x20_2 : Int) := of_decide_eq_true Z2
    have q285 : x20_2 < (l1.length : Int) := of_decide_eq_true Z2
    obtain ⟨ad285, e285, hx285_0⟩ := Kd.at_int HR1.out x20_2 p285 q285
    cases e285
    replace p285 := eq_true p285
    replace q285 := eq_true q285
    go_wp2
    go_roundg k2
    case measure => have := HJ2.out; have := HK2.out; omega
    case rel => exact ⟨(wrap64 (x20_2 + 1)), Z5, H', ⟨by have := HJ2.out; have := HK2.out; omega⟩, by repeat (first | exact ddR _ | apply ddS)⟩
theorem thrumref06_CheckP.loop (dim : Int) (x0 : List Int) (hb : x0.length ≤ 9223372036854775807) : ∀ (d i : Nat), d + i = x0.length →
    thrumref06_CheckP.l0 (d + 1) dim x0 (x0.length : Int) (i : Int) = some (if ∀ x ∈ x0.drop i, 0 ≤ x ∧ x < dim then 0 else 1) := by
  intro d
  induction d with
  | zero =>
    intro i hd
    rw [thrumref06_CheckP.l0, if_neg (by omega), List.drop_eq_nil_of_le (by omega)]; simp
  | succ d ih =>
    intro i hd
    have hi : i < x0.length := by omega
    rw [thrumref06_CheckP.l0, if_pos (by omega), if_pos (by omega), if_pos (by omega), show rd x0 (i : Int) = x0[i] from rd_nat hi, List.drop_eq_getElem_cons hi]
    by_cases c : x0[i] < 0
    · rw [if_pos c, if_neg (fun hh => by have := (hh x0[i] (List.mem_cons.2 (.inl rfl))).1; omega)]
    · rw [if_neg c]
      by_cases c2 : x0[i] ≥ dim
      · rw [if_pos c2, if_neg (fun hh => by have := (hh x0[i] (List.mem_cons.2 (.inl rfl))).2; omega)]
      · rw [if_neg c2, wrap64_of (by unfold I64; omega), show (i : Int) + 1 = ((i + 1 : Nat) : Int) by omega, ih (i + 1) (by omega)]
        congr 1
        by_cases c3 : ∀ x ∈ x0.drop (i + 1), 0 ≤ x ∧ x < dim
        · rw [if_pos c3, if_pos (fun x hx => by rcases List.mem_cons.1 hx with e | e; (rw [e]; omega); (exact c3 x e))]
        · rw [if_neg c3, if_neg (fun hh => c3 fun x hx => hh x (List.mem_cons.2 (.inr hx)))]
def thrumref06_Check.f (a0 : Int) (l1 : List Int) : Option Int := some (checkI a0 l1)
theorem thrumref06_Check.calls (a0 : Int) (A1 : Option Addr) (c1 : Nat) (l1 : List Int) (r : Int) (w : World) (hr1 : Kd.C (Kd.int .i64) w A1 l1.length l1) (hc1 : l1.length ≤ c1) (h : thrumref06_Check.f a0 l1 = some r) :
    Calls Try.prog 109 #[.int .i64 a0, .slice A1 l1.length c1] w fun e w' => e = .returned (.int .i64 r) ∧ Drawn0 w w' := by
  refine thrumref06_CheckP.calls (l1.length + 2) a0 A1 c1 l1 r w hr1 hc1 (Eq.trans ?_ h)
  have hm := Kd.C_max hr1
  unfold thrumref06_CheckP.f thrumref06_Check.f thrumref06_rises.f checkI
  by_cases c1 : a0 < 1
  · rw [if_pos c1, thrumref06_CheckP.j0, if_pos rfl, if_neg (fun hh => by omega)]
  · rw [if_neg c1]
    by_cases c2 : a0 > 4096
    · rw [if_pos c2, thrumref06_CheckP.j0, if_pos rfl, if_neg (fun hh => by omega)]
    · rw [if_neg c2]
      simp only [Option.bind_some]
      rw [thrumref06_CheckP.j0]
      by_cases c3 : risesB l1 = true
      · rw [if_neg (by simp [c3])]
        refine (thrumref06_CheckP.loop a0 l1 hm l1.length 0 (by omega)).trans ?_
        rw [List.drop_zero]
        by_cases c4 : ∀ x ∈ l1, 0 ≤ x ∧ x < a0
        · rw [if_pos c4, if_pos ⟨by omega, by omega, c3, c4⟩]
        · rw [if_neg c4, if_neg (fun hh => c4 hh.2.2.2)]
      · rw [if_pos (by simpa using c3), if_neg (fun hh => c3 hh.2.2.1)]


/-! ### thrumref05_WidthP: function 110 -/
def thrumref05_WidthP.l0 : Nat → Int → Int → Option (Int)
 | 0, _, _ => none
 | k + 1, x0, x3 => if x0 > 0 then (thrumref05_WidthP.l0 k (IntKind.u64.wrap (Int.tdiv x0 2)) (wrap64 (x3 + 1))) else (some x3)
def thrumref05_WidthP.f (k : Nat) (a0 : Int) : Option (Int) := thrumref05_WidthP.l0 k a0 0
theorem thrumref05_WidthP.mono_l : ∀ k, (∀ y0 y1, LeO (thrumref05_WidthP.l0 k y0 y1) (thrumref05_WidthP.l0 (k + 1) y0 y1))
 | 0 => fun _ _ r h => by simp [thrumref05_WidthP.l0] at h
 | k + 1 => by
  have ih0 := thrumref05_WidthP.mono_l k
  ·
   intro y0 y1
   unfold thrumref05_WidthP.l0
   repeat' first
   | (with_reducible exact ih0 _ _)
   | (with_reducible exact LeO.refl _)
   | (with_reducible exact LeO.none _)
   | (with_reducible refine LeO.ite ?_ ?_)
   | (with_reducible refine LeO.bind ?_ (fun _ => ?_))
theorem thrumref05_WidthP.mono : ∀ a0 k, LeO (thrumref05_WidthP.f k a0) (thrumref05_WidthP.f (k + 1) a0) := by
 intro a0 k
 have ih0 := thrumref05_WidthP.mono_l k
 unfold thrumref05_WidthP.f
 repeat' first
   | (with_reducible exact ih0 _ _)
   | (with_reducible exact LeO.refl _)
   | (with_reducible exact LeO.none _)
   | (with_reducible refine LeO.ite ?_ ?_)
   | (with_reducible refine LeO.bind ?_ (fun _ => ?_))
set_option maxHeartbeats 8000000 in
set_option maxRecDepth 100000 in
theorem thrumref05_WidthP.calls (k : Nat) (a0 : Int) (r : Int) (w : World) (h : thrumref05_WidthP.f k a0 = some r) :
  Calls Try.prog 110 #[.int .u64 a0] w fun e w' => e = .returned (.int .i64 r) ∧ Drawn0 w w' := by
 have H : (thrumref05_WidthP.l0 k a0 0) = some r := h
 clear h
 have H' := ZM H
 clear H
 go_enter Try.func110, Try.ntmps110
 go_wp2
 go_loopg [0, 3] k (fun kq v0 v3 w' => ∃ (x0_1 : Int) (x3_1 : Int), v0 = .int .u64 x0_1 ∧ v3 = .int .i64 x3_1 ∧ Aside0 (thrumref05_WidthP.l0 kq x0_1 x3_1 = some r) ∧ Aside0 (kq ≤ k) ∧ Drawn0 w w')
 case atStart => exact ⟨(a0), (0), Z5, Z5, H', ⟨Nat.le_refl _⟩, by repeat (first | exact ddR _ | apply ddS)⟩
 case round =>
  clear H'
  obtain ⟨x0_1, x3_1, rfl, rfl, HA, HK1, ⟨m1, rfl⟩⟩ := hrel
  cases gk with
  | zero => exact absurd HA.out (by simp [thrumref05_WidthP.l0])
  | succ k1 =>
   have H := HA.out
   clear HA
   simp only [thrumref05_WidthP.l0] at H
   by_cases c2 : x0_1 > 0
   case neg =>
    rw [if_neg c2] at H
    have c2b0 : decide (0 < x0_1) = false := decide_eq_false c2
    clear c2
    obtain rfl := Option.some.inj H
    go_wp2
    go_ret
    exact ⟨by first | rfl | (simp; done) | (simp [*]; done), by repeat (first | exact ddR _ | apply ddS)⟩
   rw [if_pos c2] at H
   have c2b0 : decide (0 < x0_1) = true := decide_eq_true c2
   clear c2
   have H' := ZM H
   clear H
   go_wp2
   go_roundg k1
   case measure => have := HK1.out; omega
   case rel => exact ⟨(IntKind.u64.wrap (Int.tdiv x0_1 2)), (wrap64 (x3_1 + 1)), Z5, Z5, H', ⟨by have := HK1.out; omega⟩, by repeat (first | exact ddR _ | apply ddS)⟩
theorem thrumref05_WidthP.loop : ∀ (k : Nat) (x y : Int), 0 ≤ x → x < 2 ^ k → x ≤ 18446744073709551615 → 0 ≤ y → y + k ≤ 1000000 →
    thrumref05_WidthP.l0 (k + 1) x y = some (y + bl x.toNat) := by
  intro k
  induction k with
  | zero =>
    intro x y h0 h1 h2 h3 h4
    have : x = 0 := by simp at h1; omega
    subst this
    rw [thrumref05_WidthP.l0, if_neg (by omega)]; simp [bl]
  | succ k ih =>
    intro x y h0 h1 h2 h3 h4
    rw [thrumref05_WidthP.l0]
    by_cases c : x > 0
    · have e : Int.tdiv x 2 = x / 2 := Int.tdiv_eq_ediv_of_nonneg h0
      rw [if_pos c, e, wu, Int.emod_eq_of_lt (by omega) (by omega), wrap64_of (by unfold I64; omega), ih (x / 2) (y + 1) (by omega) (by have h1' := h1; rw [Int.pow_succ] at h1'; generalize (2 : Int) ^ k = q at *; omega) (by omega) (by omega) (by omega)]
      have hb : bl x.toNat = 1 + bl (x.toNat / 2 ^ 1) := by
        by_cases q1 : x = 1
        · subst q1; first | decide | rfl | simp [bl]
        · exact bl_shift (k := 1) (show 2 ^ 1 ≤ x.toNat by simp; omega)
      rw [hb, show (x / 2).toNat = x.toNat / 2 ^ 1 by omega]
      congr 1; omega
    · have : x = 0 := by omega
      subst this
      rw [if_neg c]; simp [bl]
def thrumref05_Width.f (a0 : Int) : Option Int := if U64 a0 then some (bl a0.toNat : Int) else none
theorem thrumref05_Width.of (a0 : Int)  (h_ : U64 a0) : thrumref05_Width.f a0 = some (bl a0.toNat : Int) := if_pos h_
theorem thrumref05_Width.calls (a0 : Int) (r : Int) (w : World) (h : thrumref05_Width.f a0 = some r) :
    Calls Try.prog 110 #[.int .u64 a0] w fun e w' => e = .returned (.int .i64 r) ∧ Drawn0 w w' := by
  unfold thrumref05_Width.f at h
  split at h
  case isFalse => cases h
  rename_i hu
  refine thrumref05_WidthP.calls 65 a0 r w (Eq.trans ?_ h)
  unfold U64 at hu
  unfold thrumref05_WidthP.f
  rw [thrumref05_WidthP.loop 64 a0 0 hu.1 (by simp only [Int.reducePow]; omega) hu.2 (by omega) (by omega)]; simp


end Go.Proofs.Ytkfhdpnfcaghbaa.HQ
