/- What Go functions do, each as a plain Lean function with the same answers, and the proof of it, in every world: printed by the session's driver over the kit's print, with texts by hand. -/
import Derived.Test.YtnhdeljkoackfaaHCx0
namespace Go.Proofs.Ytnhdeljkoackfaa.HC
open Go.RowKit Go.Proofs.YtnhdeljkoackfaaW.PrintWords Go.Proofs.YtnhdeljkoackfaaW.PrintLast Go.Proofs.YtnhdeljkoackfaaW.PrintMore
attribute [local go_sem] max2_int min2_int max_two min_two max_three min_three max_four min_four   -- for this text's walks alone
open Go.Proofs.Ytnhdeljkoackfaa.Sp
attribute [local go_sem] Go.Proofs.Ytnhdeljkoackfaa.Sp.u64_not
set_option linter.unusedVariables false
set_option linter.unusedSimpArgs false

/-! ### thrumref05_WidthP: function 40 -/
def thrumref05_WidthP.l0 : Nat → Int → Int → Option (Int)
 | 0, _, _ => none
 | k + 1, x0, x3 => if x0 > 0 then (thrumref05_WidthP.l0 k (IntKind.u64.wrap (Int.tdiv x0 2)) (wrap64 (x3 + 1))) else (some x3)
def thrumref05_WidthP.f (k : Nat) (a0 : Int) : Option (Int) := thrumref05_WidthP.l0 k a0 0
theorem thrumref05_WidthP.mono_l : ∀ k, (∀ y0 y1, LeO (thrumref05_WidthP.l0 k y0 y1) (thrumref05_WidthP.l0 (k + 1) y0 y1))
 | 0 => fun _ _ r h => by simp [thrumref05_WidthP.l0] at h
 | k + 1 => by
  have ih0 := thrumref05_WidthP.mono_l k
  ·
   intro y0 y1
   unfold thrumref05_WidthP.l0
   repeat' first
   | (with_reducible exact ih0 _ _)
   | (with_reducible exact LeO.refl _)
   | (with_reducible exact LeO.none _)
   | (with_reducible refine LeO.ite ?_ ?_)
   | (with_reducible refine LeO.bind ?_ (fun _ => ?_))
   | exact ih0 _ _
   | exact LeO.none _
   | refine LeO.ite ?_ ?_
   | refine LeO.bind ?_ (fun _ => ?_)
theorem thrumref05_WidthP.mono : ∀ a0 k, LeO (thrumref05_WidthP.f k a0) (thrumref05_WidthP.f (k + 1) a0) := by
 intro a0 k
 have ih0 := thrumref05_WidthP.mono_l k
 unfold thrumref05_WidthP.f
 repeat' first
   | (with_reducible exact ih0 _ _)
   | (with_reducible exact LeO.refl _)
   | (with_reducible exact LeO.none _)
   | (with_reducible refine LeO.ite ?_ ?_)
   | (with_reducible refine LeO.bind ?_ (fun _ => ?_))
   | exact ih0 _ _
   | exact LeO.none _
   | refine LeO.ite ?_ ?_
   | refine LeO.bind ?_ (fun _ => ?_)
set_option maxHeartbeats 8000000 in
set_option maxRecDepth 100000 in
theorem thrumref05_WidthP.calls (k : Nat) (a0 : Int) (r : Int) (w : World) (h : thrumref05_WidthP.f k a0 = some r) :
  Calls Try.prog 40 #[.int .u64 a0] w fun e w' => e = .returned (.int .i64 r) ∧ Drawn0 w w' := by
 have H : (thrumref05_WidthP.l0 k a0 0) = some r := h
 clear h
 have H' := Aside0.mk H
 clear H
 go_enter Try.func40, Try.ntmps40
 go_wp2
 go_loopg [0, 3] k (fun kq v0 v3 w' => ∃ (x0_1 : Int) (x3_1 : Int), v0 = .int .u64 x0_1 ∧ v3 = .int .i64 x3_1 ∧ Aside0 (thrumref05_WidthP.l0 kq x0_1 x3_1 = some r) ∧ Aside0 (kq ≤ k) ∧ Drawn0 w w')
 case atStart => exact ⟨(a0), (0), (by first | rfl | (simp; done) | (simp [*]; done)), (by first | rfl | (simp; done) | (simp [*]; done)), H', ⟨Nat.le_refl _⟩, by repeat (first | exact Drawn0.refl _ | apply Drawn0.step)⟩
 case round =>
  clear H'
  obtain ⟨x0_1, x3_1, rfl, rfl, HA, HK1, ⟨m1, rfl⟩⟩ := hrel
  cases gk with
  | zero => exact absurd HA.out (by simp [thrumref05_WidthP.l0])
  | succ k1 =>
   have H := HA.out
   clear HA
   simp only [thrumref05_WidthP.l0] at H
   by_cases c2 : x0_1 > 0
   ·
    rw [if_pos c2] at H
    have c2b0 : decide (0 < x0_1) = true := decide_eq_true c2
    clear c2
    have H' := Aside0.mk H
    clear H
    go_wp2
    go_roundg k1
    case measure => have := HK1.out; omega
    case rel => exact ⟨(IntKind.u64.wrap (Int.tdiv x0_1 2)), (wrap64 (x3_1 + 1)), (by first | rfl | (simp; done) | (simp [*]; done)), (by first | rfl | (simp; done) | (simp [*]; done)), H', ⟨by have := HK1.out; omega⟩, by repeat (first | exact Drawn0.refl _ | apply Drawn0.step)⟩
   ·
    rw [if_neg c2] at H
    have c2b0 : decide (0 < x0_1) = false := decide_eq_false c2
    clear c2
    obtain rfl := Option.some.inj H
    go_wp2
    go_ret
    exact ⟨by first | rfl | (simp; done) | (simp [*]; done), by repeat (first | exact Drawn0.refl _ | apply Drawn0.step)⟩

theorem thrumref05_WidthP.loop : ∀ (k : Nat) (x y : Int), 0 ≤ x → x < 2 ^ k → x ≤ 18446744073709551615 → 0 ≤ y → y + k ≤ 1000000 →
    thrumref05_WidthP.l0 (k + 1) x y = some (y + bl x.toNat) := by
  intro k
  induction k with
  | zero =>
    intro x y h0 h1 h2 h3 h4
    have : x = 0 := by simp at h1; omega
    subst this
    rw [thrumref05_WidthP.l0, if_neg (by omega)]; simp [bl]
  | succ k ih =>
    intro x y h0 h1 h2 h3 h4
    rw [thrumref05_WidthP.l0]
    by_cases c : x > 0
    · have e : Int.tdiv x 2 = x / 2 := Int.tdiv_eq_ediv_of_nonneg h0
      rw [if_pos c, e, wu, Int.emod_eq_of_lt (by omega) (by omega), wrap64_of (by unfold I64; omega), ih (x / 2) (y + 1) (by omega) (by have h1' := h1; rw [Int.pow_succ] at h1'; generalize (2 : Int) ^ k = q at *; omega) (by omega) (by omega) (by omega)]
      have hb : bl x.toNat = 1 + bl (x.toNat / 2 ^ 1) := by
        by_cases q1 : x = 1
        · subst q1; first | decide | rfl | simp [bl]
        · exact bl_shift (k := 1) (show 2 ^ 1 ≤ x.toNat by simp; omega)
      rw [hb, show (x / 2).toNat = x.toNat / 2 ^ 1 by omega]
      congr 1; omega
    · have : x = 0 := by omega
      subst this
      rw [if_neg c]; simp [bl]
def thrumref05_Width.f (a0 : Int) : Option Int := if U64 a0 then some (bl a0.toNat : Int) else none
theorem thrumref05_Width.of (a0 : Int)  (h_ : U64 a0) : thrumref05_Width.f a0 = some (bl a0.toNat : Int) := if_pos h_
theorem thrumref05_Width.calls (a0 : Int) (r : Int) (w : World) (h : thrumref05_Width.f a0 = some r) :
    Calls Try.prog 40 #[.int .u64 a0] w fun e w' => e = .returned (.int .i64 r) ∧ Drawn0 w w' := by
  unfold thrumref05_Width.f at h
  split at h
  case isFalse => cases h
  rename_i hu
  refine thrumref05_WidthP.calls 65 a0 r w (Eq.trans ?_ h)
  unfold U64 at hu
  unfold thrumref05_WidthP.f
  rw [thrumref05_WidthP.loop 64 a0 0 hu.1 (by simp only [Int.reducePow]; omega) hu.2 (by omega) (by omega)]; simp


end Go.Proofs.Ytnhdeljkoackfaa.HC
