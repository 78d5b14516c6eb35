/- What Go functions do, each as a plain Lean function with the same answers, and the proof of it, in every world: printed by the session's driver over the kit's print, with texts by hand. -/
import Derived.Test.YtllicjinmlkcfaaHAx0
import Derived.Test.YtllicjinmlkcfaaHAx1
import Derived.Test.YtllicjinmlkcfaaHAx10
namespace Go.Proofs.Ytllicjinmlkcfaa.HA
open Go.RowKit Go.Proofs.YtllicjinmlkcfaaW.PrintWords Go.Proofs.YtllicjinmlkcfaaW.PrintLast Go.Proofs.YtllicjinmlkcfaaW.PrintMore
attribute [local go_sem] max2_int min2_int max_two min_two max_three min_three max_four min_four   -- for this text's walks alone
open Go.Proofs.Ytllicjinmlkcfaa.Sp
attribute [local go_sem] Go.Proofs.Ytllicjinmlkcfaa.Sp.u64_not
set_option linter.unusedVariables false
set_option linter.unusedSimpArgs false

/-! ### thrumref01_QuotP: function 40 -/
def thrumref01_QuotP.f (a0 : Int) (a1 : Int) : Option (Int × Int) := (thrumref01_Div.f a0 a1 0).bind fun bt160 => (some (bt160.1, bt160.2))
set_option maxHeartbeats 8000000 in
set_option maxRecDepth 100000 in
theorem thrumref01_QuotP.calls (a0 : Int) (a1 : Int) (r1 : Int) (r2 : Int) (w : World) (h : thrumref01_QuotP.f a0 a1 = some (r1, r2)) :
    Calls Try.prog 40 #[.int .i64 a0, .int .i64 a1] w fun e w' => e = .returned (.tuple #[.int .i64 r1, .int .i64 r2]) ∧ Drawn0 w w' := by
  have H : ((thrumref01_Div.f a0 a1 0).bind fun bt160 => (some (bt160.1, bt160.2))) = some (r1, r2) := h
  clear h
  replace H := Option.bind_eq_some_iff.mp H
  obtain ⟨⟨t160, t161⟩, A30, H⟩ := H
  replace H : (some (t160, t161)) = some (r1, r2) := H
  have A3 := Aside0.mk A30
  clear A30
  simp only [Option.some.injEq, Prod.mk.injEq] at H
  obtain ⟨rfl, rfl⟩ := H
  go_enter Try.func40, Try.ntmps40
  go_wp2_with (first | ((with_reducible refine gate_callee (f := 39) rfl ?_); refine goesL_ (some 8) rfl rfl Try.func39 (by kernel_rfl) rfl #[.int .i64 a0, .int .i64 a1, .int .i64 0] rfl (by (try simp only [List.map_toArray, List.map_cons, List.map_nil]); first | done | rfl | (simp only [List.length_drop, List.length_take]; rfl)) ?_; (with_reducible refine (thrumref01_Div.calls a0 a1 0 t160 t161 _ A3.out).mono ?_); rintro e w' ⟨rfl, ⟨nd, rfl⟩⟩; refine ⟨_, rfl, ?_⟩))
  go_ret2
  exact ⟨by first | rfl | (simp; done) | (simp [*]; done), by repeat (first | exact Drawn0.refl _ | apply Drawn0.step)⟩

def thrumref01_Quot.f (a0 a1 : Int) : Option (Int × Int) := if I64 a0 ∧ I64 a1 then some (divF a0 a1 0) else none
theorem thrumref01_Quot.of (a0 a1 : Int)  (h_ : I64 a0 ∧ I64 a1) : thrumref01_Quot.f a0 a1 = some (divF a0 a1 0) := if_pos h_
theorem thrumref01_Quot.calls (a0 : Int) (a1 : Int) (r1 : Int) (r2 : Int) (w : World) (h : thrumref01_Quot.f a0 a1 = some (r1, r2)) :
    Calls Try.prog 40 #[.int .i64 a0, .int .i64 a1] w fun e w' => e = .returned (.tuple #[.int .i64 r1, .int .i64 r2]) ∧ Drawn0 w w' := by
  unfold thrumref01_Quot.f at h
  split at h
  · rename_i hu
    refine thrumref01_QuotP.calls a0 a1 r1 r2 w (Eq.trans ?_ h)
    unfold thrumref01_QuotP.f thrumref01_Div.f
    rw [if_pos hu]; simp
  · cases h


/-! ### thrumref01_ShiftP: function 41 -/
mutual
def thrumref01_ShiftP.j0 : Nat → Int → Int → Bool → Option (Int × Int)
  | 0, _, _, _ => none
  | k + 1, x0, x1, x11 => if x11 = true then (some (0, 1)) else (thrumref01_ShiftP.l0 k x0 x1 0)
def thrumref01_ShiftP.l0 : Nat → Int → Int → Int → Option (Int × Int)
  | 0, _, _, _ => none
  | k + 1, x0, x12, x13 => if x13 < x12 then (thrumref01_ShiftP.l0 k (wrap64 (Int.tdiv (wrap64 (x0 - (Go.bits .and .i64 x0 1))) 2)) x12 (wrap64 (x13 + 1))) else (some (x0, 0))
end
def thrumref01_ShiftP.f (k : Nat) (a0 : Int) (a1 : Int) : Option (Int × Int) := if a1 < 0 then (thrumref01_ShiftP.j0 k a0 a1 true) else (thrumref01_ShiftP.j0 k a0 a1 (decide (a1 > 62)))
theorem thrumref01_ShiftP.mono_l : ∀ k, (∀ y0 y1 y2, LeO (thrumref01_ShiftP.j0 k y0 y1 y2) (thrumref01_ShiftP.j0 (k + 1) y0 y1 y2)) ∧ (∀ y0 y1 y2, LeO (thrumref01_ShiftP.l0 k y0 y1 y2) (thrumref01_ShiftP.l0 (k + 1) y0 y1 y2))
  | 0 => ⟨fun _ _ _ r h => by simp [thrumref01_ShiftP.j0] at h, fun _ _ _ r h => by simp [thrumref01_ShiftP.l0] at h⟩
  | k + 1 => by
    obtain ⟨ih0, ih1⟩ := thrumref01_ShiftP.mono_l k
    refine ⟨?_, ?_⟩
    · intro y0 y1 y2
      unfold thrumref01_ShiftP.j0
      repeat' first
      | (with_reducible exact ih0 _ _ _)
      | (with_reducible exact ih1 _ _ _)
      | (with_reducible exact LeO.refl _)
      | (with_reducible exact LeO.none _)
      | (with_reducible refine LeO.ite ?_ ?_)
      | (with_reducible refine LeO.bind ?_ (fun _ => ?_))
      | exact ih0 _ _ _
      | exact ih1 _ _ _
      | exact LeO.none _
      | refine LeO.ite ?_ ?_
      | refine LeO.bind ?_ (fun _ => ?_)
    · intro y0 y1 y2
      unfold thrumref01_ShiftP.l0
      repeat' first
      | (with_reducible exact ih0 _ _ _)
      | (with_reducible exact ih1 _ _ _)
      | (with_reducible exact LeO.refl _)
      | (with_reducible exact LeO.none _)
      | (with_reducible refine LeO.ite ?_ ?_)
      | (with_reducible refine LeO.bind ?_ (fun _ => ?_))
      | exact ih0 _ _ _
      | exact ih1 _ _ _
      | exact LeO.none _
      | refine LeO.ite ?_ ?_
      | refine LeO.bind ?_ (fun _ => ?_)
theorem thrumref01_ShiftP.mono : ∀ a0 a1 k, LeO (thrumref01_ShiftP.f k a0 a1) (thrumref01_ShiftP.f (k + 1) a0 a1) := by
  intro a0 a1 k
  obtain ⟨ih0, ih1⟩ := thrumref01_ShiftP.mono_l k
  unfold thrumref01_ShiftP.f
  repeat' first
      | (with_reducible exact ih0 _ _ _)
      | (with_reducible exact ih1 _ _ _)
      | (with_reducible exact LeO.refl _)
      | (with_reducible exact LeO.none _)
      | (with_reducible refine LeO.ite ?_ ?_)
      | (with_reducible refine LeO.bind ?_ (fun _ => ?_))
      | exact ih0 _ _ _
      | exact ih1 _ _ _
      | exact LeO.none _
      | refine LeO.ite ?_ ?_
      | refine LeO.bind ?_ (fun _ => ?_)
set_option maxHeartbeats 8000000 in
set_option maxRecDepth 100000 in
theorem thrumref01_ShiftP.calls (k : Nat) (a0 : Int) (a1 : Int) (r1 : Int) (r2 : Int) (w : World) (h : thrumref01_ShiftP.f k a0 a1 = some (r1, r2)) :
    Calls Try.prog 41 #[.int .i64 a0, .int .i64 a1] w fun e w' => e = .returned (.tuple #[.int .i64 r1, .int .i64 r2]) ∧ Drawn0 w w' := by
  have H : (if a1 < 0 then (thrumref01_ShiftP.j0 k a0 a1 true) else (thrumref01_ShiftP.j0 k a0 a1 (decide (a1 > 62)))) = some (r1, r2) := h
  clear h
  have HC3 := Aside0.mk H
  clear H
  go_enter Try.func41, Try.ntmps41
  go_upto_region 1 with (fail)
  go_cut [11] (fun v11 wc => ∃ (kq : Nat) (x11_2 : Bool), v11 = .bool x11_2 ∧ Aside0 (thrumref01_ShiftP.j0 kq a0 a1 x11_2 = some (r1, r2)) ∧ Aside0 (kq ≤ k) ∧ Drawn0 w wc)
  case first =>
    have H := HC3.out
    clear HC3
    by_cases c4 : a1 < 0
    · rw [if_pos c4] at H
      have c4b0 : decide (a1 < 0) = true := decide_eq_true c4
      clear c4
      (first | rw [c4b0] | (simp only [i64_w, i32_w]; rw [c4b0]) | skip)
      have H' := Aside0.mk H
      clear H
      go_wp2
      go_meet
      case rel => exact ⟨_, (true), (by first | rfl | (simp; done) | (simp [*]; done)), H', ⟨by first | omega | exact Nat.le_refl _⟩, by repeat (first | exact Drawn0.refl _ | apply Drawn0.step)⟩
    · rw [if_neg c4] at H
      have c4b0 : decide (a1 < 0) = false := decide_eq_false c4
      clear c4
      (first | rw [c4b0] | (simp only [i64_w, i32_w]; rw [c4b0]) | skip)
      have H' := Aside0.mk H
      clear H
      go_wp2
      go_meet
      case rel => exact ⟨_, (decide (a1 > 62)), (by first | rfl | (simp; done) | (simp [*]; done)), H', ⟨by first | omega | exact Nat.le_refl _⟩, by repeat (first | exact Drawn0.refl _ | apply Drawn0.step)⟩
  case rest =>
    clear HC3
    try clear p2
    try clear c4
    try clear c4b0
    obtain ⟨kq, x11_2, rfl, HA, HJ2, ⟨mc2, rfl⟩⟩ := hcut
    cases kq with
    | zero => exact absurd HA.out (by simp [thrumref01_ShiftP.j0])
    | succ kj2 =>
      have H := HA.out
      clear HA
      simp only [thrumref01_ShiftP.j0] at H
      by_cases c5 : x11_2 = true
      · subst c5
        have H1 : (some (0, 1)) = some (r1, r2) := by rw [if_pos rfl] at H; exact H
        clear H
        have H := H1
        clear H1
        simp only [Option.some.injEq, Prod.mk.injEq] at H
        obtain ⟨rfl, rfl⟩ := H
        go_wp2
        go_ret2
        exact ⟨by first | rfl | (simp; done) | (simp [*]; done), by repeat (first | exact Drawn0.refl _ | apply Drawn0.step)⟩
      · replace c5 := Bool.eq_false_iff.mpr c5
        subst c5
        have H1 : (thrumref01_ShiftP.l0 kj2 a0 a1 0) = some (r1, r2) := by rw [if_neg (show ¬ (false = true) by decide)] at H; exact H
        clear H
        have H := H1
        clear H1
        have H' := Aside0.mk H
        clear H
        go_wp2
        go_loopg [0, 13] kj2 (fun kq v0 v13 w' => ∃ (x0_2 : Int) (x13_2 : Int), v0 = .int .i64 x0_2 ∧ v13 = .int .i64 x13_2 ∧ Aside0 (thrumref01_ShiftP.l0 kq x0_2 a1 x13_2 = some (r1, r2)) ∧ Aside0 (kq ≤ kj2) ∧ Drawn0 w w')
        case atStart => exact ⟨(a0), (0), (by first | rfl | (simp; done) | (simp [*]; done)), (by first | rfl | (simp; done) | (simp [*]; done)), H', ⟨Nat.le_refl _⟩, by repeat (first | exact Drawn0.refl _ | apply Drawn0.step)⟩
        case round =>
          clear H'
          try clear c2
          try clear p2
          try clear c4
          try clear c4b0
          try clear c5
          try clear p2
          obtain ⟨x0_2, x13_2, rfl, rfl, HA, HK2, ⟨m2, rfl⟩⟩ := hrel
          cases gk with
          | zero => exact absurd HA.out (by simp [thrumref01_ShiftP.l0])
          | succ k2 =>
            have H := HA.out
            clear HA
            simp only [thrumref01_ShiftP.l0] at H
            by_cases c6 : x13_2 < a1
            · rw [if_pos c6] at H
              have c6b0 : decide (x13_2 < a1) = true := decide_eq_true c6
              clear c6
              have H' := Aside0.mk H
              clear H
              go_wp2
              go_roundg k2
              case measure => have := HJ2.out; have := HK2.out; omega
              case rel => exact ⟨(wrap64 (Int.tdiv (wrap64 (x0_2 - (Go.bits .and .i64 x0_2 1))) 2)), (wrap64 (x13_2 + 1)), (by first | rfl | (simp; done) | (simp [*]; done)), (by first | rfl | (simp; done) | (simp [*]; done)), H', ⟨by have := HJ2.out; have := HK2.out; omega⟩, by repeat (first | exact Drawn0.refl _ | apply Drawn0.step)⟩
            · rw [if_neg c6] at H
              have c6b0 : decide (x13_2 < a1) = false := decide_eq_false c6
              clear c6
              simp only [Option.some.injEq, Prod.mk.injEq] at H
              obtain ⟨rfl, rfl⟩ := H
              go_wp2
              go_ret2
              exact ⟨by first | rfl | (simp; done) | (simp [*]; done), by repeat (first | exact Drawn0.refl _ | apply Drawn0.step)⟩

def thrumref01_Shift.f (a0 a1 : Int) : Option (Int × Int) := if I64 a0 then some (shiftF a0 a1) else none
theorem thrumref01_Shift.of (a0 a1 : Int)  (h_ : I64 a0) : thrumref01_Shift.f a0 a1 = some (shiftF a0 a1) := if_pos h_
theorem thrumref01_ShiftP.loop (n : Nat) : ∀ (a f i : Int) (k : Nat), I64 a → 0 ≤ i → f ≤ 62 → f - i = n → thrumref01_ShiftP.l0 (n + 1 + k) a f i = some (a / 2 ^ n, 0) := by
  induction n with
  | zero =>
    intro a f i k ha hi hf hn
    rw [show 0 + 1 + k = k + 1 by omega, thrumref01_ShiftP.l0, if_neg (by omega), Int.pow_zero, Int.ediv_one]
  | succ n ih =>
    intro a f i k ha hi hf hn
    rw [show n + 1 + 1 + k = (n + 1 + k) + 1 by omega, thrumref01_ShiftP.l0, if_pos (by omega)]
    have e : wrap64 (Int.tdiv (wrap64 (a - Go.bits .and .i64 a 1)) 2) = a / 2 := by
      unfold I64 at ha
      rw [and1_i64, wrap64_of (show I64 (a - a % 2) by unfold I64; omega)]
      have : Int.tdiv (a - a % 2) 2 = a / 2 := by
        have hd : a - a % 2 = 2 * (a / 2) := by omega
        rw [hd, Int.mul_tdiv_cancel_left _ (by omega)]
      rw [this, wrap64_of (by unfold I64; omega)]
    rw [e, wrap64_of (show I64 (i + 1) by unfold I64; omega), ih (a / 2) f (i + 1) k (by unfold I64 at *; omega) (by omega) hf (by omega), Int.pow_succ, Int.mul_comm, Int.ediv_ediv_of_nonneg (by omega)]
theorem thrumref01_ShiftP.spec {a0 a1 : Int} (h0 : I64 a0) : thrumref01_ShiftP.f (a1.toNat + 2) a0 a1 = some (shiftF a0 a1) := by
  unfold thrumref01_ShiftP.f shiftF
  rw [show a1.toNat + 2 = (a1.toNat + 1) + 1 from rfl]
  by_cases c : a1 < 0
  · rw [if_pos c, if_pos (.inl c), thrumref01_ShiftP.j0, if_pos rfl]
  · rw [if_neg c, thrumref01_ShiftP.j0]
    by_cases c2 : a1 > 62
    · rw [if_pos (by simpa using c2), if_pos (.inr c2)]
    · rw [if_neg (by simpa using c2), if_neg (by omega)]
      exact thrumref01_ShiftP.loop a1.toNat a0 a1 0 0 h0 (by omega) (by omega) (by omega)
theorem thrumref01_Shift.calls (a0 : Int) (a1 : Int) (r1 : Int) (r2 : Int) (w : World) (h : thrumref01_Shift.f a0 a1 = some (r1, r2)) :
    Calls Try.prog 41 #[.int .i64 a0, .int .i64 a1] w fun e w' => e = .returned (.tuple #[.int .i64 r1, .int .i64 r2]) ∧ Drawn0 w w' := by
  unfold thrumref01_Shift.f at h
  split at h
  · rename_i hu
    exact thrumref01_ShiftP.calls _ a0 a1 r1 r2 w ((thrumref01_ShiftP.spec hu).trans h)
  · cases h


/-! ### fix_Wide: function 42 -/
def fix_Wide.f (a0 a1 : Int) : Option (Int × Int) := if I64 a0 ∧ I64 a1 then some (a0 * a1 / 18446744073709551616, a0 * a1 % 18446744073709551616) else none
theorem fix_Wide.of (a0 a1 : Int)  (h_ : I64 a0 ∧ I64 a1) : fix_Wide.f a0 a1 = some (a0 * a1 / 18446744073709551616, a0 * a1 % 18446744073709551616) := if_pos h_
set_option maxRecDepth 100000 in
set_option maxHeartbeats 1000000 in
theorem fix_Wide.calls (a0 : Int) (a1 : Int) (r1 : Int) (r2 : Int) (w : World) (h : fix_Wide.f a0 a1 = some (r1, r2)) :
    Calls Try.prog 42 #[.int .i64 a0, .int .i64 a1] w fun e w' => e = .returned (.tuple #[.int .i64 r1, .int .u64 r2]) ∧ Below w.heap.size w w' := by
  unfold fix_Wide.f at h
  split at h
  · rename_i hr
    obtain ⟨h0, h1⟩ := hr
    have hb1 : -170141183460469231731687303715884105728 ≤ a0 * a1 ∧ a0 * a1 < 170141183460469231731687303715884105728 := prod_bd h0 h1
    obtain ⟨p, hp⟩ : ∃ p, p = a0 * a1 := ⟨_, rfl⟩
    rw [← hp] at h hb1
    have HT : ∀ w : World, Calls Try.prog 94 #[.int .i64 a0, .int .i64 a1] w fun e w' => e = .returned (.agg #[.int .u64 (p / 18446744073709551616 % 18446744073709551616), .int .u64 (p % 18446744073709551616)]) ∧ Below w.heap.size w w' := fun w => by rw [hp]; exact fix_times.calls a0 a1 w h0 h1
    have HT0 := Aside0.mk HT
    clear HT hp h0 h1
    have hw : wrap64 (p / 18446744073709551616 % 18446744073709551616) = p / 18446744073709551616 := by rw [wrap64_def]; omega
    have HW := Aside0.mk hw
    clear hw
    cases h
    have hu := Try.underlying84
    go_enter Try.func42, Try.ntmps42
    go_wp2_with (go_at_call 94; refine (HT0.out _).mono ?_; rintro e w1 ⟨rfl, hb_1⟩; have B1 := Aside0.mk hb_1; clear hb_1)
    go_quiet (fail)
    go_wp2
    go_ret2
    exact ⟨by simp [HW.out], pw_below_drewN (below_then B1.out B1.out.size (below_alloc (Below.refl _ _) _)) nq⟩
  · cases h


end Go.Proofs.Ytllicjinmlkcfaa.HA
