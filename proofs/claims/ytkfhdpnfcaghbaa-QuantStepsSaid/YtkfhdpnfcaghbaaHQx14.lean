/- What Go functions do, each as a plain Lean function with the same answers, and the proof of it, in every world: printed by the session's driver over the kit's print, with texts by hand. -/
import Derived.Test.YtkfhdpnfcaghbaaHQx0
import Derived.Test.YtkfhdpnfcaghbaaHQx1
import Derived.Test.YtkfhdpnfcaghbaaHQx2
import Derived.Test.YtkfhdpnfcaghbaaHQx13
namespace Go.Proofs.Ytkfhdpnfcaghbaa.HQ
open Go.RowKit Go.Proofs.YtkfhdpnfcaghbaaW.PrintWords Go.Proofs.YtkfhdpnfcaghbaaW.PrintLast Go.Proofs.YtkfhdpnfcaghbaaW.PrintMore
attribute [local go_sem] max2_int min2_int max_two min_two max_three min_three max_four min_four   -- for this text's walks alone
open Go.Proofs.Ytkfhdpnfcaghbaa.Sp
attribute [local go_sem] Go.Proofs.Ytkfhdpnfcaghbaa.Sp.u64_not
set_option linter.unusedVariables false
set_option linter.unusedSimpArgs false

/-! ### thrumref10_LevelP: function 48 -/
mutual
def thrumref10_LevelP.j0 : Nat → Int → Int → Int → Bool → Option (Int × Int × Int)
 | 0, _, _, _, _ => none
 | k + 1, x0, x1, x9, x30 => if x30 = true then (some (0, 0, 1)) else (if x1 = 0 then (some (0, 0, 0)) else (thrumref10_LevelP.l0 k x0 x1 0 0 x9 0))
def thrumref10_LevelP.l0 : Nat → Int → Int → Int → Int → Int → Int → Option (Int × Int × Int)
 | 0, _, _, _, _, _, _ => none
 | k + 1, x0, x1, x11, x12, x33, x34 => if x34 < x33 then ((thrumref09_Size.f x0).bind fun t202 => (if (IntKind.u64.wrap (x12 + t202)) ≥ (IntKind.u64.wrap (x1)) then (thrumref10_LevelP.l0 k x0 x1 (IntKind.u64.wrap (x11 + 1)) (IntKind.u64.wrap ((IntKind.u64.wrap (x12 + t202)) - (IntKind.u64.wrap (x1)))) x33 (IntKind.u64.wrap (x34 + 1))) else (thrumref10_LevelP.l0 k x0 x1 x11 (IntKind.u64.wrap (x12 + t202)) x33 (IntKind.u64.wrap (x34 + 1))))) else (some (x11, x12, 0))
end
def thrumref10_LevelP.f (k : Nat) (a0 : Int) (a1 : Int) (a2 : Int) : Option (Int × Int × Int) := (thrumref10_Steps.f a2).bind fun bt199 => (if bt199.2 = 0 then (if a1 < 0 then (thrumref10_LevelP.j0 k a0 a1 bt199.1 true) else ((thrumref09_Size.f a0).bind fun t201 => (thrumref10_LevelP.j0 k a0 a1 bt199.1 (decide (t201 > (IntKind.u64.wrap (a1))))))) else (thrumref10_LevelP.j0 k a0 a1 bt199.1 true))
theorem thrumref10_LevelP.mono_l : ∀ k, (∀ y0 y1 y2 y3, LeO (thrumref10_LevelP.j0 k y0 y1 y2 y3) (thrumref10_LevelP.j0 (k + 1) y0 y1 y2 y3)) ∧ (∀ y0 y1 y2 y3 y4 y5, LeO (thrumref10_LevelP.l0 k y0 y1 y2 y3 y4 y5) (thrumref10_LevelP.l0 (k + 1) y0 y1 y2 y3 y4 y5))
 | 0 => ⟨fun _ _ _ _ r h => by simp [thrumref10_LevelP.j0] at h, fun _ _ _ _ _ _ r h => by simp [thrumref10_LevelP.l0] at h⟩
 | k + 1 => by
  obtain ⟨ih0, ih1⟩ := thrumref10_LevelP.mono_l k
  refine ⟨?_, ?_⟩
  ·
   intro y0 y1 y2 y3
   unfold thrumref10_LevelP.j0
   repeat' first
   | (with_reducible exact ih0 _ _ _ _)
   | (with_reducible exact ih1 _ _ _ _ _ _)
   | (with_reducible exact LeO.refl _)
   | (with_reducible exact LeO.none _)
   | (with_reducible refine LeO.ite ?_ ?_)
   | (with_reducible refine LeO.bind ?_ (fun _ => ?_))
   | exact ih0 _ _ _ _
   | exact ih1 _ _ _ _ _ _
   | exact LeO.none _
   | refine LeO.ite ?_ ?_
   | refine LeO.bind ?_ (fun _ => ?_)
  ·
   intro y0 y1 y2 y3 y4 y5
   unfold thrumref10_LevelP.l0
   repeat' first
   | (with_reducible exact ih0 _ _ _ _)
   | (with_reducible exact ih1 _ _ _ _ _ _)
   | (with_reducible exact LeO.refl _)
   | (with_reducible exact LeO.none _)
   | (with_reducible refine LeO.ite ?_ ?_)
   | (with_reducible refine LeO.bind ?_ (fun _ => ?_))
   | exact ih0 _ _ _ _
   | exact ih1 _ _ _ _ _ _
   | exact LeO.none _
   | refine LeO.ite ?_ ?_
   | refine LeO.bind ?_ (fun _ => ?_)
theorem thrumref10_LevelP.mono : ∀ a0 a1 a2 k, LeO (thrumref10_LevelP.f k a0 a1 a2) (thrumref10_LevelP.f (k + 1) a0 a1 a2) := by
 intro a0 a1 a2 k
 obtain ⟨ih0, ih1⟩ := thrumref10_LevelP.mono_l k
 unfold thrumref10_LevelP.f
 repeat' first
   | (with_reducible exact ih0 _ _ _ _)
   | (with_reducible exact ih1 _ _ _ _ _ _)
   | (with_reducible exact LeO.refl _)
   | (with_reducible exact LeO.none _)
   | (with_reducible refine LeO.ite ?_ ?_)
   | (with_reducible refine LeO.bind ?_ (fun _ => ?_))
   | exact ih0 _ _ _ _
   | exact ih1 _ _ _ _ _ _
   | exact LeO.none _
   | refine LeO.ite ?_ ?_
   | refine LeO.bind ?_ (fun _ => ?_)
set_option maxHeartbeats 8000000 in
set_option maxRecDepth 100000 in
theorem thrumref10_LevelP.calls (k : Nat) (a0 : Int) (a1 : Int) (a2 : Int) (r1 : Int) (r2 : Int) (r3 : Int) (w : World) (h : thrumref10_LevelP.f k a0 a1 a2 = some (r1, r2, r3)) :
  Calls Try.prog 48 #[.int .i64 a0, .int .i64 a1, .int .i64 a2] w fun e w' => e = .returned (.tuple #[.int .u64 r1, .int .u64 r2, .int .i64 r3]) ∧ Drawn0 w w' := by
 have H : ((thrumref10_Steps.f a2).bind fun bt199 => (if bt199.2 = 0 then (if a1 < 0 then (thrumref10_LevelP.j0 k a0 a1 bt199.1 true) else ((thrumref09_Size.f a0).bind fun t201 => (thrumref10_LevelP.j0 k a0 a1 bt199.1 (decide (t201 > (IntKind.u64.wrap (a1))))))) else (thrumref10_LevelP.j0 k a0 a1 bt199.1 true))) = some (r1, r2, r3) := h
 clear h
 replace H := Option.bind_eq_some_iff.mp H
 obtain ⟨⟨t199, t200⟩, A40, H⟩ := H
 replace H : (if t200 = 0 then (if a1 < 0 then (thrumref10_LevelP.j0 k a0 a1 t199 true) else ((thrumref09_Size.f a0).bind fun t201 => (thrumref10_LevelP.j0 k a0 a1 t199 (decide (t201 > (IntKind.u64.wrap (a1))))))) else (thrumref10_LevelP.j0 k a0 a1 t199 true)) = some (r1, r2, r3) := H
 have A4 := Aside0.mk A40
 clear A40
 have HC5 := Aside0.mk H
 clear H
 go_enter Try.func48, Try.ntmps48
 go_upto_region 2 with (first | ((with_reducible refine gate_callee (f := 52) rfl ?_); refine goesL_ (some 15) rfl rfl Try.func52 (by kernel_rfl) rfl #[.int .i64 a2] rfl (by (try simp only [List.map_toArray, List.map_cons, List.map_nil]); first | done | rfl | (simp only [List.length_drop, List.length_take]; rfl)) ?_; (with_reducible refine (thrumref10_Steps.calls a2 t199 t200 _ A4.out).mono ?_); rintro e w' ⟨rfl, ⟨nd, rfl⟩⟩; refine ⟨_, rfl, ?_⟩))
 (try simp only [Act.put, List.setIfInBounds_toArray, List.set_cons_zero, List.set_cons_succ])
 go_cut [30] (fun v30 wc => ∃ (kq : Nat) (x30_4 : Bool), v30 = .bool x30_4 ∧ Aside0 (thrumref10_LevelP.j0 kq a0 a1 t199 x30_4 = some (r1, r2, r3)) ∧ Aside0 (kq ≤ k) ∧ Drawn0 w wc)
 case first =>
  have H := HC5.out
  clear HC5
  by_cases c6 : t200 = 0
  ·
   rw [if_pos c6] at H
   have c6b0 : (t200 == 0) = true := beq_iff_eq.mpr c6
   have c6b1 : (t200 != 0) = false := bne_eq_false_iff_eq.mpr c6
   clear c6
   (first | rw [c6b0] | (simp only [i64_w, i32_w]; rw [c6b0]) | skip)
   by_cases c7 : a1 < 0
   ·
    rw [if_pos c7] at H
    have c7b0 : decide (a1 < 0) = true := decide_eq_true c7
    clear c7
    have H' := Aside0.mk H
    clear H
    go_wp2
    go_meet
    case rel => exact ⟨_, (true), (by first | rfl | (simp; done) | (simp [*]; done)), H', ⟨by first | omega | exact Nat.le_refl _⟩, by repeat (first | exact Drawn0.refl _ | apply Drawn0.step)⟩
   ·
    rw [if_neg c7] at H
    have c7b0 : decide (a1 < 0) = false := decide_eq_false c7
    clear c7
    replace H := Option.bind_eq_some_iff.mp H
    obtain ⟨t201, A80, H⟩ := H
    replace H : (thrumref10_LevelP.j0 k a0 a1 t199 (decide (t201 > (IntKind.u64.wrap (a1))))) = some (r1, r2, r3) := H
    have A8 := Aside0.mk A80
    clear A80
    have H' := Aside0.mk H
    clear H
    go_wp2_with (first | (go_at_call 53; (with_reducible refine (thrumref09_Size.calls a0 t201 _ A8.out).mono ?_); rintro e w' ⟨rfl, ⟨nd, rfl⟩⟩))
    go_meet
    case rel => exact ⟨_, (decide (t201 > (IntKind.u64.wrap (a1)))), (by first | rfl | (simp; done) | (simp [*]; done)), H', ⟨by first | omega | exact Nat.le_refl _⟩, by repeat (first | exact Drawn0.refl _ | apply Drawn0.step)⟩
  ·
   rw [if_neg c6] at H
   have c6b0 : (t200 == 0) = false := beq_eq_false_iff_ne.mpr c6
   have c6b1 : (t200 != 0) = true := bne_iff_ne.mpr c6
   (first | rw [c6b0] | (simp only [i64_w, i32_w]; rw [c6b0]) | skip)
   have H' := Aside0.mk H
   clear H
   go_wp2
   go_meet
   case rel => exact ⟨_, (true), (by first | rfl | (simp; done) | (simp [*]; done)), H', ⟨by first | omega | exact Nat.le_refl _⟩, by repeat (first | exact Drawn0.refl _ | apply Drawn0.step)⟩
 case rest =>
  clear HC5
  try clear p2
  try clear c4
  try clear c5
  try clear c6
  try clear c6b0
  try clear c6b1
  try clear c7
  try clear c7b0
  obtain ⟨kq, x30_4, rfl, HA, HJ4, ⟨mc4, rfl⟩⟩ := hcut
  cases kq with
  | zero => exact absurd HA.out (by simp [thrumref10_LevelP.j0])
  | succ kj4 =>
   have H := HA.out
   clear HA
   simp only [thrumref10_LevelP.j0] at H
   by_cases c9 : x30_4 = true
   ·
    subst c9
    have H1 : (some (0, 0, 1)) = some (r1, r2, r3) := by rw [if_pos rfl] at H; exact H
    clear H
    have H := H1
    clear H1
    simp only [Option.some.injEq, Prod.mk.injEq] at H
    obtain ⟨rfl, rfl, rfl⟩ := H
    go_wp2
    go_ret3
    exact ⟨by first | rfl | (simp; done) | (simp [*]; done), by repeat (first | exact Drawn0.refl _ | apply Drawn0.step)⟩
   ·
    replace c9 := Bool.eq_false_iff.mpr c9
    subst c9
    have H1 : (if a1 = 0 then (some (0, 0, 0)) else (thrumref10_LevelP.l0 kj4 a0 a1 0 0 t199 0)) = some (r1, r2, r3) := by rw [if_neg (show ¬ (false = true) by decide)] at H; exact H
    clear H
    have H := H1
    clear H1
    by_cases c10 : a1 = 0
    ·
     rw [if_pos c10] at H
     have c10b0 : (a1 == 0) = true := beq_iff_eq.mpr c10
     have c10b1 : (a1 != 0) = false := bne_eq_false_iff_eq.mpr c10
     clear c10
     simp only [Option.some.injEq, Prod.mk.injEq] at H
     obtain ⟨rfl, rfl, rfl⟩ := H
     go_wp2
     go_ret3
     exact ⟨by first | rfl | (simp; done) | (simp [*]; done), by repeat (first | exact Drawn0.refl _ | apply Drawn0.step)⟩
    ·
     rw [if_neg c10] at H
     have c10b0 : (a1 == 0) = false := beq_eq_false_iff_ne.mpr c10
     have c10b1 : (a1 != 0) = true := bne_iff_ne.mpr c10
     have H' := Aside0.mk H
     clear H
     go_wp2
     go_loopg [11, 12, 34] kj4 (fun kq v11 v12 v34 w' => ∃ (x11_2 : Int) (x12_2 : Int) (x34_2 : Int), v11 = .int .u64 x11_2 ∧ v12 = .int .u64 x12_2 ∧ v34 = .int .u64 x34_2 ∧ Aside0 (thrumref10_LevelP.l0 kq a0 a1 x11_2 x12_2 t199 x34_2 = some (r1, r2, r3)) ∧ Aside0 (kq ≤ kj4) ∧ Drawn0 w w')
     case atStart => exact ⟨(0), (0), (0), (by first | rfl | (simp; done) | (simp [*]; done)), (by first | rfl | (simp; done) | (simp [*]; done)), (by first | rfl | (simp; done) | (simp [*]; done)), H', ⟨Nat.le_refl _⟩, by repeat (first | exact Drawn0.refl _ | apply Drawn0.step)⟩
     case round =>
      clear H'
      try clear c1
      try clear p2
      try clear c4
      try clear c5
      try clear c6
      try clear c6b0
      try clear c6b1
      try clear c7
      try clear c7b0
      try clear c9
      try clear c10
      try clear c10b0
      try clear c10b1
      try clear p2
      obtain ⟨x11_2, x12_2, x34_2, rfl, rfl, rfl, HA, HK2, ⟨m2, rfl⟩⟩ := hrel
      cases gk with
      | zero => exact absurd HA.out (by simp [thrumref10_LevelP.l0])
      | succ k2 =>
       have H := HA.out
       clear HA
       simp only [thrumref10_LevelP.l0] at H
       by_cases c11 : x34_2 < t199
       ·
        rw [if_pos c11] at H
        have c11b0 : decide (x34_2 < t199) = true := decide_eq_true c11
        clear c11
        replace H := Option.bind_eq_some_iff.mp H
        obtain ⟨t202, A120, H⟩ := H
        replace H : (if (IntKind.u64.wrap (x12_2 + t202)) ≥ (IntKind.u64.wrap (a1)) then (thrumref10_LevelP.l0 k2 a0 a1 (IntKind.u64.wrap (x11_2 + 1)) (IntKind.u64.wrap ((IntKind.u64.wrap (x12_2 + t202)) - (IntKind.u64.wrap (a1)))) t199 (IntKind.u64.wrap (x34_2 + 1))) else (thrumref10_LevelP.l0 k2 a0 a1 x11_2 (IntKind.u64.wrap (x12_2 + t202)) t199 (IntKind.u64.wrap (x34_2 + 1)))) = some (r1, r2, r3) := H
        have A12 := Aside0.mk A120
        clear A120
        by_cases c13 : (IntKind.u64.wrap (x12_2 + t202)) ≥ (IntKind.u64.wrap (a1))
        ·
         rw [if_pos c13] at H
         have c13b0 : decide ((IntKind.u64.wrap (a1)) ≤ (IntKind.u64.wrap (x12_2 + t202))) = true := decide_eq_true c13
         clear c13
         have H' := Aside0.mk H
         clear H
         go_wp2_with (first | ((with_reducible refine gate_callee (f := 53) rfl ?_); refine goesL_ (some 38) rfl rfl Try.func53 (by kernel_rfl) rfl #[.int .i64 a0] rfl (by (try simp only [List.map_toArray, List.map_cons, List.map_nil]); first | done | rfl | (simp only [List.length_drop, List.length_take]; rfl)) ?_; (with_reducible refine (thrumref09_Size.calls a0 t202 _ A12.out).mono ?_); rintro e w' ⟨rfl, ⟨nd, rfl⟩⟩; refine ⟨_, rfl, ?_⟩))
         go_roundg k2
         case measure => have := HJ4.out; have := HK2.out; omega
         case rel => exact ⟨(IntKind.u64.wrap (x11_2 + 1)), (IntKind.u64.wrap ((IntKind.u64.wrap (x12_2 + t202)) - (IntKind.u64.wrap (a1)))), (IntKind.u64.wrap (x34_2 + 1)), (by first | rfl | (simp; done) | (simp [*]; done)), (by first | rfl | (simp; done) | (simp [*]; done)), (by first | rfl | (simp; done) | (simp [*]; done)), H', ⟨by have := HJ4.out; have := HK2.out; omega⟩, by repeat (first | exact Drawn0.refl _ | apply Drawn0.step)⟩
        ·
         rw [if_neg c13] at H
         have c13b0 : decide ((IntKind.u64.wrap (a1)) ≤ (IntKind.u64.wrap (x12_2 + t202))) = false := decide_eq_false c13
         clear c13
         have H' := Aside0.mk H
         clear H
         go_wp2_with (first | ((with_reducible refine gate_callee (f := 53) rfl ?_); refine goesL_ (some 38) rfl rfl Try.func53 (by kernel_rfl) rfl #[.int .i64 a0] rfl (by (try simp only [List.map_toArray, List.map_cons, List.map_nil]); first | done | rfl | (simp only [List.length_drop, List.length_take]; rfl)) ?_; (with_reducible refine (thrumref09_Size.calls a0 t202 _ A12.out).mono ?_); rintro e w' ⟨rfl, ⟨nd, rfl⟩⟩; refine ⟨_, rfl, ?_⟩))
         go_roundg k2
         case measure => have := HJ4.out; have := HK2.out; omega
         case rel => exact ⟨(x11_2), (IntKind.u64.wrap (x12_2 + t202)), (IntKind.u64.wrap (x34_2 + 1)), (by first | rfl | (simp; done) | (simp [*]; done)), (by first | rfl | (simp; done) | (simp [*]; done)), (by first | rfl | (simp; done) | (simp [*]; done)), H', ⟨by have := HJ4.out; have := HK2.out; omega⟩, by repeat (first | exact Drawn0.refl _ | apply Drawn0.step)⟩
       ·
        rw [if_neg c11] at H
        have c11b0 : decide (x34_2 < t199) = false := decide_eq_false c11
        clear c11
        simp only [Option.some.injEq, Prod.mk.injEq] at H
        obtain ⟨rfl, rfl, rfl⟩ := H
        go_wp2
        go_ret3
        exact ⟨by first | rfl | (simp; done) | (simp [*]; done), by repeat (first | exact Drawn0.refl _ | apply Drawn0.step)⟩

theorem thrumref10_LevelP.loop (x s : Int) (hx : I64 x) (hs : I64 s) (hxs : absN x ≤ s) (hs0 : 0 < s) (t : Int) (ht : t ≤ 255) : ∀ (d : Nat) (j : Int), 0 ≤ j → j + d = t →
    thrumref10_LevelP.l0 (d + 1) x s (j * absN x / s) (j * absN x % s) t j = some (t * absN x / s, t * absN x % s, 0) := by
  have ha : 0 ≤ absN x := by unfold absN; omega
  unfold I64 at hs
  intro d
  induction d with
  | zero =>
    intro j h0 h1
    have e : j = t := by omega
    subst e
    rw [thrumref10_LevelP.l0, if_neg (by omega)]
  | succ d ih =>
    intro j h0 h1
    obtain ⟨e1, e2⟩ := level_step (k := j) ha hxs hs0
    have hb := level_bd (a := absN x) (s := s) (t := j) ha hxs hs0 h0
    have hr1 := Int.emod_nonneg (j * absN x) (show s ≠ 0 by omega)
    have hr2 := Int.emod_lt_of_pos (j * absN x) hs0
    have hc : absN x * j = j * absN x := Int.mul_comm _ _
    rw [hc] at hb
    rw [thrumref10_LevelP.l0, if_pos (by omega)]
    unfold thrumref09_Size.f
    rw [if_pos hx]
    simp only [Option.bind_some, wu]
    have ih' := ih (j + 1) (by omega) (by omega)
    rw [e1, e2] at ih'
    rw [show s % 18446744073709551616 = s by omega, show (j * absN x % s + absN x) % 18446744073709551616 = j * absN x % s + absN x by omega, show (j + 1) % 18446744073709551616 = j + 1 by omega]
    by_cases c : s ≤ j * absN x % s + absN x
    · rw [if_pos c, if_pos c] at ih'
      rw [if_pos c, show (j * absN x / s + 1) % 18446744073709551616 = j * absN x / s + 1 by omega, show (j * absN x % s + absN x - s) % 18446744073709551616 = j * absN x % s + absN x - s by omega]
      exact ih'
    · rw [if_neg c, if_neg c] at ih'
      rw [if_neg c]
      exact ih'
def thrumref10_Level.f (a0 a1 a2 : Int) : Option (Int × Int × Int) := if I64 a0 ∧ I64 a1 then some (levelF a0 a1 a2) else none
theorem thrumref10_Level.of (a0 a1 a2 : Int)  (h_ : I64 a0 ∧ I64 a1) : thrumref10_Level.f a0 a1 a2 = some (levelF a0 a1 a2) := if_pos h_
theorem thrumref10_Level.is (a0 a1 a2 : Int) (h0 : I64 a0) (h1 : I64 a1) : thrumref10_LevelP.f 257 a0 a1 a2 = some (levelF a0 a1 a2) := by
  unfold thrumref10_LevelP.f levelF thrumref10_Steps.f stepsF
  simp only [Option.bind_some]
  by_cases cb : badW a2
  · rw [if_pos cb, if_neg (by decide), thrumref10_LevelP.j0, if_pos rfl, if_pos (.inl cb)]
  · obtain ⟨t0, t1⟩ := topF_pos cb
    rw [if_neg cb, if_pos rfl]
    by_cases c1 : a1 < 0
    · rw [if_pos c1, thrumref10_LevelP.j0, if_pos rfl, if_pos (.inr (.inl c1))]
    · rw [if_neg c1]
      unfold thrumref09_Size.f
      rw [if_pos h0]
      simp only [Option.bind_some]
      have h1' := h1
      unfold I64 at h1'
      have hw : IntKind.u64.wrap a1 = a1 := by rw [wu]; omega
      rw [hw, thrumref10_LevelP.j0]
      by_cases c2 : absN a0 > a1
      · rw [if_pos (decide_eq_true c2), if_pos (.inr (.inr c2))]
      · rw [if_neg (by simpa using c2), if_neg (show ¬ (badW a2 ∨ a1 < 0 ∨ absN a0 > a1) from fun h => h.elim cb (fun h => h.elim c1 c2))]
        by_cases c3 : a1 = 0
        · rw [if_pos c3, if_pos c3]
        · rw [if_neg c3, if_neg c3]
          have hl := thrumref10_LevelP.loop a0 a1 h0 h1 (by omega) (by omega) (topF a2) t1 (topF a2).toNat 0 (by omega) (by omega)
          rw [Int.zero_mul, Int.zero_ediv, Int.zero_emod] at hl
          have hu : ∀ d, thrumref10_LevelP.l0 ((topF a2).toNat + 1 + d) a0 a1 0 0 (topF a2) 0 = some (topF a2 * absN a0 / a1, topF a2 * absN a0 % a1, 0) := by
            intro d
            induction d with
            | zero => exact hl
            | succ d ih => exact thrumref10_LevelP.mono_l _ |>.2 _ _ _ _ _ _ _ ih
          have := hu (256 - ((topF a2).toNat + 1))
          rw [show (topF a2).toNat + 1 + (256 - ((topF a2).toNat + 1)) = 256 by omega] at this
          rw [this, Int.mul_comm (topF a2)]
theorem thrumref10_Level.calls (a0 : Int) (a1 : Int) (a2 : Int) (r1 : Int) (r2 : Int) (r3 : Int) (w : World) (h : thrumref10_Level.f a0 a1 a2 = some (r1, r2, r3)) :
    Calls Try.prog 48 #[.int .i64 a0, .int .i64 a1, .int .i64 a2] w fun e w' => e = .returned (.tuple #[.int .u64 r1, .int .u64 r2, .int .i64 r3]) ∧ Drawn0 w w' := by
  unfold thrumref10_Level.f at h
  split at h
  case isFalse => cases h
  rename_i hv
  exact thrumref10_LevelP.calls 257 a0 a1 a2 r1 r2 r3 w ((thrumref10_Level.is a0 a1 a2 hv.1 hv.2).trans h)


/-! ### quant_ValueP: function 49 -/
def quant_ValueP.j0 : Nat → Int → Int → Int → Bool → Option (Int × Int)
 | 0, _, _, _, _ => none
 | k + 1, x0, x1, x8, x29 => if x29 = true then (some (0, 1)) else ((bits_Mul64.f (IntKind.u64.wrap (x1)) x0).bind fun bt205 => ((bits_Div64.f bt205.1 bt205.2 x8).bind fun bt207 => (some (wrap64 (bt207.1), 0))))
def quant_ValueP.f (k : Nat) (a0 : Int) (a1 : Int) (a2 : Int) : Option (Int × Int) := (quant_Steps.f a2).bind fun bt203 => (if bt203.2 = 0 then (if a1 < 0 then (quant_ValueP.j0 k a0 a1 bt203.1 true) else (quant_ValueP.j0 k a0 a1 bt203.1 (decide (a0 > bt203.1)))) else (quant_ValueP.j0 k a0 a1 bt203.1 true))
theorem quant_ValueP.mono_l : ∀ k, (∀ y0 y1 y2 y3, LeO (quant_ValueP.j0 k y0 y1 y2 y3) (quant_ValueP.j0 (k + 1) y0 y1 y2 y3))
 | 0 => fun _ _ _ _ r h => by simp [quant_ValueP.j0] at h
 | k + 1 => by
  have ih0 := quant_ValueP.mono_l k
  ·
   intro y0 y1 y2 y3
   unfold quant_ValueP.j0
   repeat' first
   | (with_reducible exact ih0 _ _ _ _)
   | (with_reducible exact LeO.refl _)
   | (with_reducible exact LeO.none _)
   | (with_reducible refine LeO.ite ?_ ?_)
   | (with_reducible refine LeO.bind ?_ (fun _ => ?_))
   | exact ih0 _ _ _ _
   | exact LeO.none _
   | refine LeO.ite ?_ ?_
   | refine LeO.bind ?_ (fun _ => ?_)
theorem quant_ValueP.mono : ∀ a0 a1 a2 k, LeO (quant_ValueP.f k a0 a1 a2) (quant_ValueP.f (k + 1) a0 a1 a2) := by
 intro a0 a1 a2 k
 have ih0 := quant_ValueP.mono_l k
 unfold quant_ValueP.f
 repeat' first
   | (with_reducible exact ih0 _ _ _ _)
   | (with_reducible exact LeO.refl _)
   | (with_reducible exact LeO.none _)
   | (with_reducible refine LeO.ite ?_ ?_)
   | (with_reducible refine LeO.bind ?_ (fun _ => ?_))
   | exact ih0 _ _ _ _
   | exact LeO.none _
   | refine LeO.ite ?_ ?_
   | refine LeO.bind ?_ (fun _ => ?_)
set_option maxHeartbeats 8000000 in
set_option maxRecDepth 100000 in
theorem quant_ValueP.calls (k : Nat) (a0 : Int) (a1 : Int) (a2 : Int) (r1 : Int) (r2 : Int) (w : World) (h : quant_ValueP.f k a0 a1 a2 = some (r1, r2)) :
  Calls Try.prog 49 #[.int .u64 a0, .int .i64 a1, .int .i64 a2] w fun e w' => e = .returned (.tuple #[.int .i64 r1, .int .i64 r2]) ∧ Drawn0 w w' := by
 have H : ((quant_Steps.f a2).bind fun bt203 => (if bt203.2 = 0 then (if a1 < 0 then (quant_ValueP.j0 k a0 a1 bt203.1 true) else (quant_ValueP.j0 k a0 a1 bt203.1 (decide (a0 > bt203.1)))) else (quant_ValueP.j0 k a0 a1 bt203.1 true))) = some (r1, r2) := h
 clear h
 replace H := Option.bind_eq_some_iff.mp H
 obtain ⟨⟨t203, t204⟩, A40, H⟩ := H
 replace H : (if t204 = 0 then (if a1 < 0 then (quant_ValueP.j0 k a0 a1 t203 true) else (quant_ValueP.j0 k a0 a1 t203 (decide (a0 > t203)))) else (quant_ValueP.j0 k a0 a1 t203 true)) = some (r1, r2) := H
 have A4 := Aside0.mk A40
 clear A40
 have HC5 := Aside0.mk H
 clear H
 go_enter Try.func49, Try.ntmps49
 go_upto_region 2 with (first | ((with_reducible refine gate_callee (f := 51) rfl ?_); refine goesL_ (some 16) rfl rfl Try.func51 (by kernel_rfl) rfl #[.int .i64 a2] rfl (by (try simp only [List.map_toArray, List.map_cons, List.map_nil]); first | done | rfl | (simp only [List.length_drop, List.length_take]; rfl)) ?_; (with_reducible refine (quant_Steps.calls a2 t203 t204 _ A4.out).mono ?_); rintro e w' ⟨rfl, ⟨nd, rfl⟩⟩; refine ⟨_, rfl, ?_⟩))
 (try simp only [Act.put, List.setIfInBounds_toArray, List.set_cons_zero, List.set_cons_succ])
 go_cut [29] (fun v29 wc => ∃ (kq : Nat) (x29_4 : Bool), v29 = .bool x29_4 ∧ Aside0 (quant_ValueP.j0 kq a0 a1 t203 x29_4 = some (r1, r2)) ∧ Aside0 (kq ≤ k) ∧ Drawn0 w wc)
 case first =>
  have H := HC5.out
  clear HC5
  by_cases c6 : t204 = 0
  ·
   rw [if_pos c6] at H
   have c6b0 : (t204 == 0) = true := beq_iff_eq.mpr c6
   have c6b1 : (t204 != 0) = false := bne_eq_false_iff_eq.mpr c6
   clear c6
   (first | rw [c6b0] | (simp only [i64_w, i32_w]; rw [c6b0]) | skip)
   by_cases c7 : a1 < 0
   ·
    rw [if_pos c7] at H
    have c7b0 : decide (a1 < 0) = true := decide_eq_true c7
    clear c7
    have H' := Aside0.mk H
    clear H
    go_wp2
    go_meet
    case rel => exact ⟨_, (true), (by first | rfl | (simp; done) | (simp [*]; done)), H', ⟨by first | omega | exact Nat.le_refl _⟩, by repeat (first | exact Drawn0.refl _ | apply Drawn0.step)⟩
   ·
    rw [if_neg c7] at H
    have c7b0 : decide (a1 < 0) = false := decide_eq_false c7
    clear c7
    have H' := Aside0.mk H
    clear H
    go_wp2
    go_meet
    case rel => exact ⟨_, (decide (a0 > t203)), (by first | rfl | (simp; done) | (simp [*]; done)), H', ⟨by first | omega | exact Nat.le_refl _⟩, by repeat (first | exact Drawn0.refl _ | apply Drawn0.step)⟩
  ·
   rw [if_neg c6] at H
   have c6b0 : (t204 == 0) = false := beq_eq_false_iff_ne.mpr c6
   have c6b1 : (t204 != 0) = true := bne_iff_ne.mpr c6
   (first | rw [c6b0] | (simp only [i64_w, i32_w]; rw [c6b0]) | skip)
   have H' := Aside0.mk H
   clear H
   go_wp2
   go_meet
   case rel => exact ⟨_, (true), (by first | rfl | (simp; done) | (simp [*]; done)), H', ⟨by first | omega | exact Nat.le_refl _⟩, by repeat (first | exact Drawn0.refl _ | apply Drawn0.step)⟩
 case rest =>
  clear HC5
  try clear p2
  try clear c4
  try clear c5
  try clear c6
  try clear c6b0
  try clear c6b1
  try clear c7
  try clear c7b0
  obtain ⟨kq, x29_4, rfl, HA, HJ4, ⟨mc4, rfl⟩⟩ := hcut
  cases kq with
  | zero => exact absurd HA.out (by simp [quant_ValueP.j0])
  | succ kj4 =>
   have H := HA.out
   clear HA
   simp only [quant_ValueP.j0] at H
   by_cases c8 : x29_4 = true
   ·
    subst c8
    have H1 : (some (0, 1)) = some (r1, r2) := by rw [if_pos rfl] at H; exact H
    clear H
    have H := H1
    clear H1
    simp only [Option.some.injEq, Prod.mk.injEq] at H
    obtain ⟨rfl, rfl⟩ := H
    go_wp2
    go_ret2
    exact ⟨by first | rfl | (simp; done) | (simp [*]; done), by repeat (first | exact Drawn0.refl _ | apply Drawn0.step)⟩
   ·
    replace c8 := Bool.eq_false_iff.mpr c8
    subst c8
    have H1 : ((bits_Mul64.f (IntKind.u64.wrap (a1)) a0).bind fun bt205 => ((bits_Div64.f bt205.1 bt205.2 t203).bind fun bt207 => (some (wrap64 (bt207.1), 0)))) = some (r1, r2) := by rw [if_neg (show ¬ (false = true) by decide)] at H; exact H
    clear H
    have H := H1
    clear H1
    replace H := Option.bind_eq_some_iff.mp H
    obtain ⟨⟨t205, t206⟩, A90, H⟩ := H
    replace H : ((bits_Div64.f t205 t206 t203).bind fun bt207 => (some (wrap64 (bt207.1), 0))) = some (r1, r2) := H
    have A9 := Aside0.mk A90
    clear A90
    replace H := Option.bind_eq_some_iff.mp H
    obtain ⟨⟨t207, t208⟩, A100, H⟩ := H
    replace H : (some (wrap64 (t207), 0)) = some (r1, r2) := H
    have A10 := Aside0.mk A100
    clear A100
    simp only [Option.some.injEq, Prod.mk.injEq] at H
    obtain ⟨rfl, rfl⟩ := H
    go_wp2_with (first | ((with_reducible refine gate_callee (f := 89) rfl ?_); refine goesL_ (some 34) rfl rfl Try.func89 (by kernel_rfl) rfl #[.int .u64 (IntKind.u64.wrap (a1)), .int .u64 a0] rfl (by (try simp only [List.map_toArray, List.map_cons, List.map_nil]); first | done | rfl | (simp only [List.length_drop, List.length_take]; rfl)) ?_; (with_reducible refine (bits_Mul64.calls (IntKind.u64.wrap (a1)) a0 t205 t206 _ A9.out).mono ?_); rintro e w' ⟨rfl, ⟨nd, rfl⟩⟩; refine ⟨_, rfl, ?_⟩) | ((with_reducible refine gate_callee (f := 90) rfl ?_); refine goesL_ (some 41) rfl rfl Try.func90 (by kernel_rfl) rfl #[.int .u64 t205, .int .u64 t206, .int .u64 t203] rfl (by (try simp only [List.map_toArray, List.map_cons, List.map_nil]); first | done | rfl | (simp only [List.length_drop, List.length_take]; rfl)) ?_; (with_reducible refine (bits_Div64.calls t205 t206 t203 t207 t208 _ A10.out).mono ?_); rintro e w' ⟨rfl, ⟨nd, rfl⟩⟩; refine ⟨_, rfl, ?_⟩))
    go_ret2
    exact ⟨by first | rfl | (simp; done) | (simp [*]; done), by repeat (first | exact Drawn0.refl _ | apply Drawn0.step)⟩

def quant_Value.f (a0 a1 a2 : Int) : Option (Int × Int) := if U64 a0 ∧ I64 a1 then some (valueF a0 a1 a2) else none
theorem quant_Value.of (a0 a1 a2 : Int)  (h_ : U64 a0 ∧ I64 a1) : quant_Value.f a0 a1 a2 = some (valueF a0 a1 a2) := if_pos h_
theorem quant_Value.is (a0 a1 a2 : Int) (h0 : U64 a0) (h1 : I64 a1) : quant_ValueP.f 2 a0 a1 a2 = some (valueF a0 a1 a2) := by
  unfold quant_ValueP.f valueF quant_Steps.f stepsF
  simp only [Option.bind_some]
  by_cases cb : badW a2
  · rw [if_pos cb, if_neg (by decide), quant_ValueP.j0, if_pos rfl, if_pos (.inl cb)]
  · obtain ⟨t0, t1⟩ := topF_pos cb
    rw [if_neg cb, if_pos rfl]
    by_cases c1 : a1 < 0
    · rw [if_pos c1, quant_ValueP.j0, if_pos rfl, if_pos (.inr (.inl c1))]
    · rw [if_neg c1, quant_ValueP.j0]
      by_cases c2 : a0 > topF a2
      · rw [if_pos (decide_eq_true c2), if_pos (.inr (.inr c2))]
      · rw [if_neg (by simpa using c2), if_neg (show ¬ (badW a2 ∨ a1 < 0 ∨ a0 > topF a2) from fun h => h.elim cb (fun h => h.elim c1 c2))]
        unfold I64 at h1
        unfold U64 at h0
        have hw : IntKind.u64.wrap a1 = a1 := by rw [wu]; omega
        have hp0 : 0 ≤ a1 * a0 := Int.mul_nonneg (by omega) (by omega)
        have hp1 : a1 * a0 ≤ 9223372036854775807 * topF a2 := Int.mul_le_mul (by omega) (by omega) (by omega) (by omega)
        obtain ⟨v0, v1⟩ := value_bd h0.1 (show a0 ≤ topF a2 by omega) (show 0 ≤ a1 by omega) (show 0 < topF a2 by omega)
        unfold bits_Mul64.f bits_Div64.f
        rw [hw, if_pos ⟨by unfold U64; omega, by unfold U64; omega⟩]
        simp only [Option.bind_some]
        rw [if_pos ⟨by unfold U64; omega, by unfold U64; omega, by unfold U64; omega, by omega⟩]
        simp only [Option.bind_some]
        rw [show a1 * a0 / 18446744073709551616 * 18446744073709551616 + a1 * a0 % 18446744073709551616 = a1 * a0 by omega, wrap64_of (by unfold I64; omega)]
theorem quant_Value.calls (a0 : Int) (a1 : Int) (a2 : Int) (r1 : Int) (r2 : Int) (w : World) (h : quant_Value.f a0 a1 a2 = some (r1, r2)) :
    Calls Try.prog 49 #[.int .u64 a0, .int .i64 a1, .int .i64 a2] w fun e w' => e = .returned (.tuple #[.int .i64 r1, .int .i64 r2]) ∧ Drawn0 w w' := by
  unfold quant_Value.f at h
  split at h
  case isFalse => cases h
  rename_i hv
  exact quant_ValueP.calls 2 a0 a1 a2 r1 r2 w ((quant_Value.is a0 a1 a2 hv.1 hv.2).trans h)


end Go.Proofs.Ytkfhdpnfcaghbaa.HQ
