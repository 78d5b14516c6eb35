/- What Go functions do, each as a plain Lean function with the same answers, and the proof of it, in every world: printed by the session's driver over the kit's print, with texts by hand. -/
import Derived.Test.YtllicjinmlkcfaaHAx0
import Derived.Test.YtllicjinmlkcfaaHAx1
import Derived.Test.YtllicjinmlkcfaaHAx4
import Derived.Test.YtllicjinmlkcfaaHAx5
namespace Go.Proofs.Ytllicjinmlkcfaa.HA
open Go.RowKit Go.Proofs.YtllicjinmlkcfaaW.PrintWords Go.Proofs.YtllicjinmlkcfaaW.PrintLast Go.Proofs.YtllicjinmlkcfaaW.PrintMore
attribute [local go_sem] max2_int min2_int max_two min_two max_three min_three max_four min_four   -- for this text's walks alone
open Go.Proofs.Ytllicjinmlkcfaa.Sp
attribute [local go_sem] Go.Proofs.Ytllicjinmlkcfaa.Sp.u64_not
set_option linter.unusedVariables false
set_option linter.unusedSimpArgs false

/-! ### thrumlaw01_FixSmall: function 4 -/
def thrumlaw01_FixSmall.j0 : Nat → Int → Bool → Int → Int → Bool → Option (Bool)
  | 0, _, _, _, _, _ => none
  | k + 1, x2, x7, x8, x9, x58 => if x58 = true then (some false) else (if x9 = 0 then ((fix_Div.f x8 x9 x2).bind fun bt205 => (if x7 = true then (some (bt205.2 == 1)) else (some false))) else ((fix_Div.f x8 x9 x2).bind fun bt207 => (if 0 ≤ x2 then (if x7 = true then (if bt207.2 = 0 then (if x9 > 0 then (if (wrap64 ((wrap64 (x8 * (shl .i64 1 x2))) - (wrap64 (bt207.1 * x9)))) ≥ 0 then (if (wrap64 ((wrap64 (x8 * (shl .i64 1 x2))) - (wrap64 (bt207.1 * x9)))) < x9 then (some true) else (if x9 < 0 then (if (wrap64 ((wrap64 (x8 * (shl .i64 1 x2))) - (wrap64 (bt207.1 * x9)))) ≤ 0 then (some (decide ((wrap64 ((wrap64 (x8 * (shl .i64 1 x2))) - (wrap64 (bt207.1 * x9)))) > x9))) else (some false)) else (some false))) else (if x9 < 0 then (if (wrap64 ((wrap64 (x8 * (shl .i64 1 x2))) - (wrap64 (bt207.1 * x9)))) ≤ 0 then (some (decide ((wrap64 ((wrap64 (x8 * (shl .i64 1 x2))) - (wrap64 (bt207.1 * x9)))) > x9))) else (some false)) else (some false))) else (if x9 < 0 then (if (wrap64 ((wrap64 (x8 * (shl .i64 1 x2))) - (wrap64 (bt207.1 * x9)))) ≤ 0 then (some (decide ((wrap64 ((wrap64 (x8 * (shl .i64 1 x2))) - (wrap64 (bt207.1 * x9)))) > x9))) else (some false)) else (some false))) else (some false)) else (some false)) else (none))))
def thrumlaw01_FixSmall.f (k : Nat) (a0 : Int) (a1 : Int) (a2 : Int) : Option (Bool) := (thrumlaw01_live.f).bind fun t202 => (if t202 = true then ((fix_Mul.f (wrap64 (a0)) (Int.tmod (wrap64 (a1)) 16384) (Int.tmod (wrap64 ((Int.tmod a2 17) + 17)) 17)).bind fun bt203 => (if 0 ≤ (Int.tmod (wrap64 ((Int.tmod a2 17) + 17)) 17) then (if bt203.2 = 0 then (if (wrap64 ((wrap64 ((wrap64 (a0)) * (Int.tmod (wrap64 (a1)) 16384))) - (wrap64 (bt203.1 * (shl .i64 1 (Int.tmod (wrap64 ((Int.tmod a2 17) + 17)) 17)))))) < 0 then (thrumlaw01_FixSmall.j0 k (Int.tmod (wrap64 ((Int.tmod a2 17) + 17)) 17) t202 (wrap64 (a0)) (Int.tmod (wrap64 (a1)) 16384) true) else (thrumlaw01_FixSmall.j0 k (Int.tmod (wrap64 ((Int.tmod a2 17) + 17)) 17) t202 (wrap64 (a0)) (Int.tmod (wrap64 (a1)) 16384) (decide ((wrap64 ((wrap64 ((wrap64 (a0)) * (Int.tmod (wrap64 (a1)) 16384))) - (wrap64 (bt203.1 * (shl .i64 1 (Int.tmod (wrap64 ((Int.tmod a2 17) + 17)) 17)))))) ≥ (shl .i64 1 (Int.tmod (wrap64 ((Int.tmod a2 17) + 17)) 17)))))) else (thrumlaw01_FixSmall.j0 k (Int.tmod (wrap64 ((Int.tmod a2 17) + 17)) 17) t202 (wrap64 (a0)) (Int.tmod (wrap64 (a1)) 16384) true)) else (none))) else (some false))
theorem thrumlaw01_FixSmall.mono_l : ∀ k, (∀ y0 y1 y2 y3 y4, LeO (thrumlaw01_FixSmall.j0 k y0 y1 y2 y3 y4) (thrumlaw01_FixSmall.j0 (k + 1) y0 y1 y2 y3 y4))
  | 0 => fun _ _ _ _ _ r h => by simp [thrumlaw01_FixSmall.j0] at h
  | k + 1 => by
    have ih0 := thrumlaw01_FixSmall.mono_l k
    · intro y0 y1 y2 y3 y4
      unfold thrumlaw01_FixSmall.j0
      repeat' first
      | (with_reducible exact ih0 _ _ _ _ _)
      | (with_reducible exact LeO.refl _)
      | (with_reducible exact LeO.none _)
      | (with_reducible refine LeO.ite ?_ ?_)
      | (with_reducible refine LeO.bind ?_ (fun _ => ?_))
      | exact ih0 _ _ _ _ _
      | exact LeO.none _
      | refine LeO.ite ?_ ?_
      | refine LeO.bind ?_ (fun _ => ?_)
theorem thrumlaw01_FixSmall.mono : ∀ a0 a1 a2 k, LeO (thrumlaw01_FixSmall.f k a0 a1 a2) (thrumlaw01_FixSmall.f (k + 1) a0 a1 a2) := by
  intro a0 a1 a2 k
  have ih0 := thrumlaw01_FixSmall.mono_l k
  unfold thrumlaw01_FixSmall.f
  repeat' first
      | (with_reducible exact ih0 _ _ _ _ _)
      | (with_reducible exact LeO.refl _)
      | (with_reducible exact LeO.none _)
      | (with_reducible refine LeO.ite ?_ ?_)
      | (with_reducible refine LeO.bind ?_ (fun _ => ?_))
      | exact ih0 _ _ _ _ _
      | exact LeO.none _
      | refine LeO.ite ?_ ?_
      | refine LeO.bind ?_ (fun _ => ?_)
set_option maxHeartbeats 8000000 in
set_option maxRecDepth 100000 in
theorem thrumlaw01_FixSmall.calls (k : Nat) (a0 : Int) (a1 : Int) (a2 : Int) (r : Bool) (w : World) (h : thrumlaw01_FixSmall.f k a0 a1 a2 = some r) :
    Calls Try.prog 4 #[.int .i32 a0, .int .i32 a1, .int .i64 a2] w fun e w' => e = .returned (.bool r) ∧ Below w.heap.size w w' := by
  have HB := Aside0.mk (Below.refl w.heap.size w)
  have H : ((thrumlaw01_live.f).bind fun t202 => (if t202 = true then ((fix_Mul.f (wrap64 (a0)) (Int.tmod (wrap64 (a1)) 16384) (Int.tmod (wrap64 ((Int.tmod a2 17) + 17)) 17)).bind fun bt203 => (if 0 ≤ (Int.tmod (wrap64 ((Int.tmod a2 17) + 17)) 17) then (if bt203.2 = 0 then (if (wrap64 ((wrap64 ((wrap64 (a0)) * (Int.tmod (wrap64 (a1)) 16384))) - (wrap64 (bt203.1 * (shl .i64 1 (Int.tmod (wrap64 ((Int.tmod a2 17) + 17)) 17)))))) < 0 then (thrumlaw01_FixSmall.j0 k (Int.tmod (wrap64 ((Int.tmod a2 17) + 17)) 17) t202 (wrap64 (a0)) (Int.tmod (wrap64 (a1)) 16384) true) else (thrumlaw01_FixSmall.j0 k (Int.tmod (wrap64 ((Int.tmod a2 17) + 17)) 17) t202 (wrap64 (a0)) (Int.tmod (wrap64 (a1)) 16384) (decide ((wrap64 ((wrap64 ((wrap64 (a0)) * (Int.tmod (wrap64 (a1)) 16384))) - (wrap64 (bt203.1 * (shl .i64 1 (Int.tmod (wrap64 ((Int.tmod a2 17) + 17)) 17)))))) ≥ (shl .i64 1 (Int.tmod (wrap64 ((Int.tmod a2 17) + 17)) 17)))))) else (thrumlaw01_FixSmall.j0 k (Int.tmod (wrap64 ((Int.tmod a2 17) + 17)) 17) t202 (wrap64 (a0)) (Int.tmod (wrap64 (a1)) 16384) true)) else (none))) else (some false))) = some r := h
  clear h
  replace H := Option.bind_eq_some_iff.mp H
  obtain ⟨t202, A40, H⟩ := H
  replace H : (if t202 = true then ((fix_Mul.f (wrap64 (a0)) (Int.tmod (wrap64 (a1)) 16384) (Int.tmod (wrap64 ((Int.tmod a2 17) + 17)) 17)).bind fun bt203 => (if 0 ≤ (Int.tmod (wrap64 ((Int.tmod a2 17) + 17)) 17) then (if bt203.2 = 0 then (if (wrap64 ((wrap64 ((wrap64 (a0)) * (Int.tmod (wrap64 (a1)) 16384))) - (wrap64 (bt203.1 * (shl .i64 1 (Int.tmod (wrap64 ((Int.tmod a2 17) + 17)) 17)))))) < 0 then (thrumlaw01_FixSmall.j0 k (Int.tmod (wrap64 ((Int.tmod a2 17) + 17)) 17) t202 (wrap64 (a0)) (Int.tmod (wrap64 (a1)) 16384) true) else (thrumlaw01_FixSmall.j0 k (Int.tmod (wrap64 ((Int.tmod a2 17) + 17)) 17) t202 (wrap64 (a0)) (Int.tmod (wrap64 (a1)) 16384) (decide ((wrap64 ((wrap64 ((wrap64 (a0)) * (Int.tmod (wrap64 (a1)) 16384))) - (wrap64 (bt203.1 * (shl .i64 1 (Int.tmod (wrap64 ((Int.tmod a2 17) + 17)) 17)))))) ≥ (shl .i64 1 (Int.tmod (wrap64 ((Int.tmod a2 17) + 17)) 17)))))) else (thrumlaw01_FixSmall.j0 k (Int.tmod (wrap64 ((Int.tmod a2 17) + 17)) 17) t202 (wrap64 (a0)) (Int.tmod (wrap64 (a1)) 16384) true)) else (none))) else (some false)) = some r := H
  have A4 := Aside0.mk A40
  clear A40
  by_cases c5 : t202 = true
  · subst c5
    have H1 : ((fix_Mul.f (wrap64 (a0)) (Int.tmod (wrap64 (a1)) 16384) (Int.tmod (wrap64 ((Int.tmod a2 17) + 17)) 17)).bind fun bt203 => (if 0 ≤ (Int.tmod (wrap64 ((Int.tmod a2 17) + 17)) 17) then (if bt203.2 = 0 then (if (wrap64 ((wrap64 ((wrap64 (a0)) * (Int.tmod (wrap64 (a1)) 16384))) - (wrap64 (bt203.1 * (shl .i64 1 (Int.tmod (wrap64 ((Int.tmod a2 17) + 17)) 17)))))) < 0 then (thrumlaw01_FixSmall.j0 k (Int.tmod (wrap64 ((Int.tmod a2 17) + 17)) 17) true (wrap64 (a0)) (Int.tmod (wrap64 (a1)) 16384) true) else (thrumlaw01_FixSmall.j0 k (Int.tmod (wrap64 ((Int.tmod a2 17) + 17)) 17) true (wrap64 (a0)) (Int.tmod (wrap64 (a1)) 16384) (decide ((wrap64 ((wrap64 ((wrap64 (a0)) * (Int.tmod (wrap64 (a1)) 16384))) - (wrap64 (bt203.1 * (shl .i64 1 (Int.tmod (wrap64 ((Int.tmod a2 17) + 17)) 17)))))) ≥ (shl .i64 1 (Int.tmod (wrap64 ((Int.tmod a2 17) + 17)) 17)))))) else (thrumlaw01_FixSmall.j0 k (Int.tmod (wrap64 ((Int.tmod a2 17) + 17)) 17) true (wrap64 (a0)) (Int.tmod (wrap64 (a1)) 16384) true)) else (none))) = some r := by rw [if_pos rfl] at H; exact H
    clear H
    have H := H1
    clear H1
    replace H := Option.bind_eq_some_iff.mp H
    obtain ⟨⟨t203, t204⟩, A60, H⟩ := H
    replace H : (if 0 ≤ (Int.tmod (wrap64 ((Int.tmod a2 17) + 17)) 17) then (if t204 = 0 then (if (wrap64 ((wrap64 ((wrap64 (a0)) * (Int.tmod (wrap64 (a1)) 16384))) - (wrap64 (t203 * (shl .i64 1 (Int.tmod (wrap64 ((Int.tmod a2 17) + 17)) 17)))))) < 0 then (thrumlaw01_FixSmall.j0 k (Int.tmod (wrap64 ((Int.tmod a2 17) + 17)) 17) true (wrap64 (a0)) (Int.tmod (wrap64 (a1)) 16384) true) else (thrumlaw01_FixSmall.j0 k (Int.tmod (wrap64 ((Int.tmod a2 17) + 17)) 17) true (wrap64 (a0)) (Int.tmod (wrap64 (a1)) 16384) (decide ((wrap64 ((wrap64 ((wrap64 (a0)) * (Int.tmod (wrap64 (a1)) 16384))) - (wrap64 (t203 * (shl .i64 1 (Int.tmod (wrap64 ((Int.tmod a2 17) + 17)) 17)))))) ≥ (shl .i64 1 (Int.tmod (wrap64 ((Int.tmod a2 17) + 17)) 17)))))) else (thrumlaw01_FixSmall.j0 k (Int.tmod (wrap64 ((Int.tmod a2 17) + 17)) 17) true (wrap64 (a0)) (Int.tmod (wrap64 (a1)) 16384) true)) else (none)) = some r := H
    have A6 := Aside0.mk A60
    clear A60
    obtain ⟨ji7, hji7⟩ : ∃ j_ : Int, (Int.tmod (wrap64 ((Int.tmod a2 17) + 17)) 17) = j_ := ⟨_, rfl⟩
    replace H : (if 0 ≤ (ji7) then (if t204 = 0 then (if (wrap64 ((wrap64 ((wrap64 (a0)) * (Int.tmod (wrap64 (a1)) 16384))) - (wrap64 (t203 * (shl .i64 1 (ji7)))))) < 0 then (thrumlaw01_FixSmall.j0 k ji7 true (wrap64 (a0)) (Int.tmod (wrap64 (a1)) 16384) true) else (thrumlaw01_FixSmall.j0 k ji7 true (wrap64 (a0)) (Int.tmod (wrap64 (a1)) 16384) (decide ((wrap64 ((wrap64 ((wrap64 (a0)) * (Int.tmod (wrap64 (a1)) 16384))) - (wrap64 (t203 * (shl .i64 1 (ji7)))))) ≥ (shl .i64 1 (ji7)))))) else (thrumlaw01_FixSmall.j0 k ji7 true (wrap64 (a0)) (Int.tmod (wrap64 (a1)) 16384) true)) else (none)) = some r := by first | (rw [hji7] at H; exact H) | (simp only [hji7] at H ⊢; exact H)
    (try rw [hji7] at A4)
    (try rw [hji7] at A6)
    by_cases c8 : 0 ≤ (ji7)
    · rw [if_pos c8] at H
      have c8b0 := eq_true c8
      have c8b1 : decide (0 ≤ (ji7)) = true := decide_eq_true c8
      clear c8
      obtain ⟨ji9, hji9⟩ : ∃ j_ : Int, (shl .i64 1 (ji7)) = j_ := ⟨_, rfl⟩
      replace H : (if t204 = 0 then (if (wrap64 ((wrap64 ((wrap64 (a0)) * (Int.tmod (wrap64 (a1)) 16384))) - (wrap64 (t203 * (ji9))))) < 0 then (thrumlaw01_FixSmall.j0 k ji7 true (wrap64 (a0)) (Int.tmod (wrap64 (a1)) 16384) true) else (thrumlaw01_FixSmall.j0 k ji7 true (wrap64 (a0)) (Int.tmod (wrap64 (a1)) 16384) (decide ((wrap64 ((wrap64 ((wrap64 (a0)) * (Int.tmod (wrap64 (a1)) 16384))) - (wrap64 (t203 * (ji9))))) ≥ (ji9))))) else (thrumlaw01_FixSmall.j0 k ji7 true (wrap64 (a0)) (Int.tmod (wrap64 (a1)) 16384) true)) = some r := by first | (rw [hji9] at H; exact H) | (simp only [hji9] at H ⊢; exact H)
      (try rw [hji9] at A4)
      (try rw [hji9] at A6)
      have hji9_ : (IntKind.i64.wrap (1 * 2 ^ min (ji7).toNat 64)) = ji9 := hji9
      have hji9z : (ji7) ≤ 64 → (IntKind.i64.wrap (1 * 2 ^ (ji7).toNat)) = ji9 := shl_small hji9
      have hji9u : (IntKind.i64.wrap (2 ^ min (ji7).toNat 64)) = ji9 := by have h_ := hji9_; rw [Int.one_mul] at h_; exact h_
      have hji9v : (ji7) ≤ 64 → (IntKind.i64.wrap (2 ^ (ji7).toNat)) = ji9 := fun hle_ => by have h_ := hji9z hle_; rw [Int.one_mul] at h_; exact h_
      have hji9y : (wrap64 (1 * 2 ^ min (ji7).toNat 64)) = ji9 := (i64_w _).symm.trans hji9_
      have hji9x : (ji7) ≤ 64 → (wrap64 (1 * 2 ^ (ji7).toNat)) = ji9 := fun h_ => (i64_w _).symm.trans (hji9z h_)
      have HC10 := Aside0.mk H
      clear H
      go_enter Try.func4, Try.ntmps4
      go_upto_region 10 with (first | ((with_reducible refine gate_callee (f := 29) rfl ?_); refine goesL_ (some 19) rfl rfl Try.func29 (by kernel_rfl) rfl #[] rfl (by (try simp only [List.map_toArray, List.map_cons, List.map_nil]); first | done | rfl | (simp only [List.length_drop, List.length_take]; rfl)) ?_; (with_reducible refine (thrumlaw01_live.calls  true _ A4.out).mono ?_); rintro e w11 ⟨rfl, hb⟩; refine ⟨_, rfl, ?_⟩; have n0_ := Aside0.mk (below_step (by repeat (first | (with_reducible first | exact HB.out | apply below_alloc | apply pw_below_drewN | apply below_drew1) | exact HB.out)) hb); clear HB; have HB := n0_; clear n0_; (try clear hb); (try clear hb2); (try clear hk); (try clear hi)) | ((with_reducible refine gate_callee (f := 30) rfl ?_); refine goesL_ (some 35) rfl rfl Try.func30 (by kernel_rfl) rfl #[.int .i64 (wrap64 (a0)), .int .i64 (Int.tmod (wrap64 (a1)) 16384), .int .i64 ji7] rfl (by (try simp only [List.map_toArray, List.map_cons, List.map_nil]); first | done | (simp only [hji7]; rfl) | rfl | (simp only [List.length_drop, List.length_take]; rfl)) ?_; (with_reducible refine (fix_Mul.calls (wrap64 (a0)) (Int.tmod (wrap64 (a1)) 16384) ji7 t203 t204 _ A6.out).mono ?_); rintro e w12 ⟨rfl, hb⟩; refine ⟨_, rfl, ?_⟩; have n0_ := Aside0.mk (below_step (by repeat (first | (with_reducible first | exact HB.out | apply below_alloc | apply pw_below_drewN | apply below_drew1) | exact HB.out)) hb); clear HB; have HB := n0_; clear n0_; (try clear hb); (try clear hb2); (try clear hk); (try clear hi)))
      (try simp only [Act.put, List.setIfInBounds_toArray, List.set_cons_zero, List.set_cons_succ])
      go_cut [58] (fun v58 wc => ∃ (kq : Nat) (x58_9 : Bool), v58 = .bool x58_9 ∧ Aside0 (thrumlaw01_FixSmall.j0 kq ji7 true (wrap64 (a0)) (Int.tmod (wrap64 (a1)) 16384) x58_9 = some r) ∧ Aside0 (kq ≤ k) ∧ Aside0 (Below w.heap.size w wc))
      case first =>
        have H := HC10.out
        clear HC10
        by_cases c13 : t204 = 0
        · rw [if_pos c13] at H
          have c13b0 : (t204 == 0) = true := beq_iff_eq.mpr c13
          have c13b1 : (t204 != 0) = false := bne_eq_false_iff_eq.mpr c13
          clear c13
          (first | rw [c13b0] | (simp only [i64_w, i32_w]; rw [c13b0]) | skip)
          by_cases c14 : (wrap64 ((wrap64 ((wrap64 (a0)) * (Int.tmod (wrap64 (a1)) 16384))) - (wrap64 (t203 * (ji9))))) < 0
          · rw [if_pos c14] at H
            have c14b0 : decide ((wrap64 ((wrap64 ((wrap64 (a0)) * (Int.tmod (wrap64 (a1)) 16384))) - (wrap64 (t203 * (ji9))))) < 0) = true := decide_eq_true c14
            clear c14
            have H' := Aside0.mk H
            clear H
            go_wp2
            go_meet
            case rel => exact ⟨_, (true), (by first | rfl | (simp; done) | (simp [*]; done)), H', ⟨by first | omega | exact Nat.le_refl _⟩, ⟨by repeat (first | (with_reducible first | exact HB.out | apply below_alloc | apply pw_below_drewN | apply below_drew1) | exact HB.out)⟩⟩
          · rw [if_neg c14] at H
            have c14b0 : decide ((wrap64 ((wrap64 ((wrap64 (a0)) * (Int.tmod (wrap64 (a1)) 16384))) - (wrap64 (t203 * (ji9))))) < 0) = false := decide_eq_false c14
            clear c14
            have c15b0 := eq_true (of_decide_eq_true (by first | (with_reducible assumption) | assumption) : 0 ≤ (ji7))
            have H' := Aside0.mk H
            clear H
            go_wp2
            go_meet
            case rel => exact ⟨_, (decide ((wrap64 ((wrap64 ((wrap64 (a0)) * (Int.tmod (wrap64 (a1)) 16384))) - (wrap64 (t203 * (ji9))))) ≥ (ji9))), (by first | rfl | (simp; done) | (simp only [← hji9] <;> (first | rfl | simp)) | (simp [*]; done)), H', ⟨by first | omega | exact Nat.le_refl _⟩, ⟨by repeat (first | (with_reducible first | exact HB.out | apply below_alloc | apply pw_below_drewN | apply below_drew1) | exact HB.out)⟩⟩
        · rw [if_neg c13] at H
          have c13b0 : (t204 == 0) = false := beq_eq_false_iff_ne.mpr c13
          have c13b1 : (t204 != 0) = true := bne_iff_ne.mpr c13
          (first | rw [c13b0] | (simp only [i64_w, i32_w]; rw [c13b0]) | skip)
          have H' := Aside0.mk H
          clear H
          go_wp2
          go_meet
          case rel => exact ⟨_, (true), (by first | rfl | (simp; done) | (simp [*]; done)), H', ⟨by first | omega | exact Nat.le_refl _⟩, ⟨by repeat (first | (with_reducible first | exact HB.out | apply below_alloc | apply pw_below_drewN | apply below_drew1) | exact HB.out)⟩⟩
      case rest =>
        clear HC10
        try clear c1
        try clear c2
        try clear p2
        try clear c3
        try clear c4
        try clear c5
        try clear p6
        try clear c8
        try clear c8b0
        try clear c8b1
        try clear c13
        try clear c13b0
        try clear c13b1
        try clear c14
        try clear c14b0
        try clear c15
        try clear c15b0
        obtain ⟨kq, x58_9, rfl, HA, HJ9, HB⟩ := hcut
        cases kq with
        | zero => exact absurd HA.out (by simp [thrumlaw01_FixSmall.j0])
        | succ kj9 =>
          have H := HA.out
          clear HA
          simp only [thrumlaw01_FixSmall.j0] at H
          by_cases c16 : x58_9 = true
          · subst c16
            have H1 : (some false) = some r := by rw [if_pos rfl] at H; exact H
            clear H
            have H := H1
            clear H1
            obtain rfl := Option.some.inj H
            go_wp2
            go_ret
            exact ⟨by first | rfl | (simp [errW_none, errW_some] <;> rfl) | (simp only [← hji7, ← hji9]; first | rfl | (simp [errW_none, errW_some] <;> rfl)) | (simp [*, errW_none, errW_some] <;> rfl), by repeat (first | (with_reducible first | exact HB.out | apply below_alloc | apply pw_below_drewN | apply below_drew1) | exact HB.out)⟩
          · replace c16 := Bool.eq_false_iff.mpr c16
            subst c16
            have H1 : (if (Int.tmod (wrap64 (a1)) 16384) = 0 then ((fix_Div.f (wrap64 (a0)) (Int.tmod (wrap64 (a1)) 16384) ji7).bind fun bt205 => (if true = true then (some (bt205.2 == 1)) else (some false))) else ((fix_Div.f (wrap64 (a0)) (Int.tmod (wrap64 (a1)) 16384) ji7).bind fun bt207 => (if 0 ≤ ji7 then (if true = true then (if bt207.2 = 0 then (if (Int.tmod (wrap64 (a1)) 16384) > 0 then (if (wrap64 ((wrap64 ((wrap64 (a0)) * (shl .i64 1 ji7))) - (wrap64 (bt207.1 * (Int.tmod (wrap64 (a1)) 16384))))) ≥ 0 then (if (wrap64 ((wrap64 ((wrap64 (a0)) * (shl .i64 1 ji7))) - (wrap64 (bt207.1 * (Int.tmod (wrap64 (a1)) 16384))))) < (Int.tmod (wrap64 (a1)) 16384) then (some true) else (if (Int.tmod (wrap64 (a1)) 16384) < 0 then (if (wrap64 ((wrap64 ((wrap64 (a0)) * (shl .i64 1 ji7))) - (wrap64 (bt207.1 * (Int.tmod (wrap64 (a1)) 16384))))) ≤ 0 then (some (decide ((wrap64 ((wrap64 ((wrap64 (a0)) * (shl .i64 1 ji7))) - (wrap64 (bt207.1 * (Int.tmod (wrap64 (a1)) 16384))))) > (Int.tmod (wrap64 (a1)) 16384)))) else (some false)) else (some false))) else (if (Int.tmod (wrap64 (a1)) 16384) < 0 then (if (wrap64 ((wrap64 ((wrap64 (a0)) * (shl .i64 1 ji7))) - (wrap64 (bt207.1 * (Int.tmod (wrap64 (a1)) 16384))))) ≤ 0 then (some (decide ((wrap64 ((wrap64 ((wrap64 (a0)) * (shl .i64 1 ji7))) - (wrap64 (bt207.1 * (Int.tmod (wrap64 (a1)) 16384))))) > (Int.tmod (wrap64 (a1)) 16384)))) else (some false)) else (some false))) else (if (Int.tmod (wrap64 (a1)) 16384) < 0 then (if (wrap64 ((wrap64 ((wrap64 (a0)) * (shl .i64 1 ji7))) - (wrap64 (bt207.1 * (Int.tmod (wrap64 (a1)) 16384))))) ≤ 0 then (some (decide ((wrap64 ((wrap64 ((wrap64 (a0)) * (shl .i64 1 ji7))) - (wrap64 (bt207.1 * (Int.tmod (wrap64 (a1)) 16384))))) > (Int.tmod (wrap64 (a1)) 16384)))) else (some false)) else (some false))) else (some false)) else (some false)) else (none)))) = some r := by rw [if_neg (show ¬ (false = true) by decide)] at H; exact H
            clear H
            have H := H1
            clear H1
            by_cases c17 : (Int.tmod (wrap64 (a1)) 16384) = 0
            · rw [if_pos c17] at H
              have c17b0 : ((Int.tmod (wrap64 (a1)) 16384) == 0) = true := beq_iff_eq.mpr c17
              have c17b1 : ((Int.tmod (wrap64 (a1)) 16384) != 0) = false := bne_eq_false_iff_eq.mpr c17
              clear c17
              replace H := Option.bind_eq_some_iff.mp H
              obtain ⟨⟨t205, t206⟩, A180, H⟩ := H
              replace H : (if true = true then (some (t206 == 1)) else (some false)) = some r := H
              have A18 := Aside0.mk A180
              clear A180
              rw [if_pos rfl] at H
              obtain rfl := Option.some.inj H
              go_wp2_with (first | ((with_reducible refine gate_callee (f := 31) rfl ?_); refine goesL_ (some 65) rfl rfl Try.func31 (by kernel_rfl) rfl #[.int .i64 (wrap64 (a0)), .int .i64 (Int.tmod (wrap64 (a1)) 16384), .int .i64 ji7] rfl (by (try simp only [List.map_toArray, List.map_cons, List.map_nil]); first | done | (simp only [hji7]; rfl) | rfl | (simp only [List.length_drop, List.length_take]; rfl)) ?_; (with_reducible refine (fix_Div.calls (wrap64 (a0)) (Int.tmod (wrap64 (a1)) 16384) ji7 t205 t206 _ A18.out).mono ?_); rintro e w' ⟨rfl, ⟨nd, rfl⟩⟩; refine ⟨_, rfl, ?_⟩))
              go_ret
              exact ⟨by first | rfl | (simp [errW_none, errW_some] <;> rfl) | (simp only [← hji7, ← hji9]; first | rfl | (simp [errW_none, errW_some] <;> rfl)) | (simp [*, errW_none, errW_some] <;> rfl), by repeat (first | (with_reducible first | exact HB.out | apply below_alloc | apply pw_below_drewN | apply below_drew1) | exact HB.out)⟩
            · rw [if_neg c17] at H
              have c17b0 : ((Int.tmod (wrap64 (a1)) 16384) == 0) = false := beq_eq_false_iff_ne.mpr c17
              have c17b1 : ((Int.tmod (wrap64 (a1)) 16384) != 0) = true := bne_iff_ne.mpr c17
              replace H := Option.bind_eq_some_iff.mp H
              obtain ⟨⟨t207, t208⟩, A190, H⟩ := H
              replace H : (if 0 ≤ ji7 then (if true = true then (if t208 = 0 then (if (Int.tmod (wrap64 (a1)) 16384) > 0 then (if (wrap64 ((wrap64 ((wrap64 (a0)) * (shl .i64 1 ji7))) - (wrap64 (t207 * (Int.tmod (wrap64 (a1)) 16384))))) ≥ 0 then (if (wrap64 ((wrap64 ((wrap64 (a0)) * (shl .i64 1 ji7))) - (wrap64 (t207 * (Int.tmod (wrap64 (a1)) 16384))))) < (Int.tmod (wrap64 (a1)) 16384) then (some true) else (if (Int.tmod (wrap64 (a1)) 16384) < 0 then (if (wrap64 ((wrap64 ((wrap64 (a0)) * (shl .i64 1 ji7))) - (wrap64 (t207 * (Int.tmod (wrap64 (a1)) 16384))))) ≤ 0 then (some (decide ((wrap64 ((wrap64 ((wrap64 (a0)) * (shl .i64 1 ji7))) - (wrap64 (t207 * (Int.tmod (wrap64 (a1)) 16384))))) > (Int.tmod (wrap64 (a1)) 16384)))) else (some false)) else (some false))) else (if (Int.tmod (wrap64 (a1)) 16384) < 0 then (if (wrap64 ((wrap64 ((wrap64 (a0)) * (shl .i64 1 ji7))) - (wrap64 (t207 * (Int.tmod (wrap64 (a1)) 16384))))) ≤ 0 then (some (decide ((wrap64 ((wrap64 ((wrap64 (a0)) * (shl .i64 1 ji7))) - (wrap64 (t207 * (Int.tmod (wrap64 (a1)) 16384))))) > (Int.tmod (wrap64 (a1)) 16384)))) else (some false)) else (some false))) else (if (Int.tmod (wrap64 (a1)) 16384) < 0 then (if (wrap64 ((wrap64 ((wrap64 (a0)) * (shl .i64 1 ji7))) - (wrap64 (t207 * (Int.tmod (wrap64 (a1)) 16384))))) ≤ 0 then (some (decide ((wrap64 ((wrap64 ((wrap64 (a0)) * (shl .i64 1 ji7))) - (wrap64 (t207 * (Int.tmod (wrap64 (a1)) 16384))))) > (Int.tmod (wrap64 (a1)) 16384)))) else (some false)) else (some false))) else (some false)) else (some false)) else (none)) = some r := H
              have A19 := Aside0.mk A190
              clear A190
              by_cases c20 : 0 ≤ ji7
              · rw [if_pos c20] at H
                have c20b0 := eq_true c20
                have c20b1 : decide (0 ≤ ji7) = true := decide_eq_true c20
                clear c20
                replace H : (if true = true then (if t208 = 0 then (if (Int.tmod (wrap64 (a1)) 16384) > 0 then (if (wrap64 ((wrap64 ((wrap64 (a0)) * (ji9))) - (wrap64 (t207 * (Int.tmod (wrap64 (a1)) 16384))))) ≥ 0 then (if (wrap64 ((wrap64 ((wrap64 (a0)) * (ji9))) - (wrap64 (t207 * (Int.tmod (wrap64 (a1)) 16384))))) < (Int.tmod (wrap64 (a1)) 16384) then (some true) else (if (Int.tmod (wrap64 (a1)) 16384) < 0 then (if (wrap64 ((wrap64 ((wrap64 (a0)) * (ji9))) - (wrap64 (t207 * (Int.tmod (wrap64 (a1)) 16384))))) ≤ 0 then (some (decide ((wrap64 ((wrap64 ((wrap64 (a0)) * (ji9))) - (wrap64 (t207 * (Int.tmod (wrap64 (a1)) 16384))))) > (Int.tmod (wrap64 (a1)) 16384)))) else (some false)) else (some false))) else (if (Int.tmod (wrap64 (a1)) 16384) < 0 then (if (wrap64 ((wrap64 ((wrap64 (a0)) * (ji9))) - (wrap64 (t207 * (Int.tmod (wrap64 (a1)) 16384))))) ≤ 0 then (some (decide ((wrap64 ((wrap64 ((wrap64 (a0)) * (ji9))) - (wrap64 (t207 * (Int.tmod (wrap64 (a1)) 16384))))) > (Int.tmod (wrap64 (a1)) 16384)))) else (some false)) else (some false))) else (if (Int.tmod (wrap64 (a1)) 16384) < 0 then (if (wrap64 ((wrap64 ((wrap64 (a0)) * (ji9))) - (wrap64 (t207 * (Int.tmod (wrap64 (a1)) 16384))))) ≤ 0 then (some (decide ((wrap64 ((wrap64 ((wrap64 (a0)) * (ji9))) - (wrap64 (t207 * (Int.tmod (wrap64 (a1)) 16384))))) > (Int.tmod (wrap64 (a1)) 16384)))) else (some false)) else (some false))) else (some false)) else (some false)) = some r := by first | (rw [hji9] at H; exact H) | (simp only [hji9] at H ⊢; exact H)
                (try rw [hji9] at A19)
                rw [if_pos rfl] at H
                by_cases c21 : t208 = 0
                · rw [if_pos c21] at H
                  have c21b0 : (t208 == 0) = true := beq_iff_eq.mpr c21
                  have c21b1 : (t208 != 0) = false := bne_eq_false_iff_eq.mpr c21
                  clear c21
                  by_cases c22 : (Int.tmod (wrap64 (a1)) 16384) > 0
                  · rw [if_pos c22] at H
                    have c22b0 : decide (0 < (Int.tmod (wrap64 (a1)) 16384)) = true := decide_eq_true c22
                    clear c22
                    by_cases c23 : (wrap64 ((wrap64 ((wrap64 (a0)) * (ji9))) - (wrap64 (t207 * (Int.tmod (wrap64 (a1)) 16384))))) ≥ 0
                    · rw [if_pos c23] at H
                      have c23b0 : decide (0 ≤ (wrap64 ((wrap64 ((wrap64 (a0)) * (ji9))) - (wrap64 (t207 * (Int.tmod (wrap64 (a1)) 16384)))))) = true := decide_eq_true c23
                      clear c23
                      by_cases c24 : (wrap64 ((wrap64 ((wrap64 (a0)) * (ji9))) - (wrap64 (t207 * (Int.tmod (wrap64 (a1)) 16384))))) < (Int.tmod (wrap64 (a1)) 16384)
                      · rw [if_pos c24] at H
                        have c24b0 : decide ((wrap64 ((wrap64 ((wrap64 (a0)) * (ji9))) - (wrap64 (t207 * (Int.tmod (wrap64 (a1)) 16384))))) < (Int.tmod (wrap64 (a1)) 16384)) = true := decide_eq_true c24
                        clear c24
                        obtain rfl := Option.some.inj H
                        go_wp2_with (first | ((with_reducible refine gate_callee (f := 31) rfl ?_); refine goesL_ (some 77) rfl rfl Try.func31 (by kernel_rfl) rfl #[.int .i64 (wrap64 (a0)), .int .i64 (Int.tmod (wrap64 (a1)) 16384), .int .i64 ji7] rfl (by (try simp only [List.map_toArray, List.map_cons, List.map_nil]); first | done | (simp only [hji7]; rfl) | rfl | (simp only [List.length_drop, List.length_take]; rfl)) ?_; (with_reducible refine (fix_Div.calls (wrap64 (a0)) (Int.tmod (wrap64 (a1)) 16384) ji7 t207 t208 _ A19.out).mono ?_); rintro e w' ⟨rfl, ⟨nd, rfl⟩⟩; refine ⟨_, rfl, ?_⟩))
                        go_ret
                        exact ⟨by first | rfl | (simp [errW_none, errW_some] <;> rfl) | (simp only [← hji7, ← hji9, ← hji9]; first | rfl | (simp [errW_none, errW_some] <;> rfl)) | (simp [*, errW_none, errW_some] <;> rfl), by repeat (first | (with_reducible first | exact HB.out | apply below_alloc | apply pw_below_drewN | apply below_drew1) | exact HB.out)⟩
                      · rw [if_neg c24] at H
                        have c24b0 : decide ((wrap64 ((wrap64 ((wrap64 (a0)) * (ji9))) - (wrap64 (t207 * (Int.tmod (wrap64 (a1)) 16384))))) < (Int.tmod (wrap64 (a1)) 16384)) = false := decide_eq_false c24
                        clear c24
                        by_cases c25 : (Int.tmod (wrap64 (a1)) 16384) < 0
                        · rw [if_pos c25] at H
                          have c25b0 : decide ((Int.tmod (wrap64 (a1)) 16384) < 0) = true := decide_eq_true c25
                          clear c25
                          by_cases c26 : (wrap64 ((wrap64 ((wrap64 (a0)) * (ji9))) - (wrap64 (t207 * (Int.tmod (wrap64 (a1)) 16384))))) ≤ 0
                          · rw [if_pos c26] at H
                            have c26b0 : decide ((wrap64 ((wrap64 ((wrap64 (a0)) * (ji9))) - (wrap64 (t207 * (Int.tmod (wrap64 (a1)) 16384))))) ≤ 0) = true := decide_eq_true c26
                            clear c26
                            obtain rfl := Option.some.inj H
                            go_wp2_with (first | ((with_reducible refine gate_callee (f := 31) rfl ?_); refine goesL_ (some 77) rfl rfl Try.func31 (by kernel_rfl) rfl #[.int .i64 (wrap64 (a0)), .int .i64 (Int.tmod (wrap64 (a1)) 16384), .int .i64 ji7] rfl (by (try simp only [List.map_toArray, List.map_cons, List.map_nil]); first | done | (simp only [hji7]; rfl) | rfl | (simp only [List.length_drop, List.length_take]; rfl)) ?_; (with_reducible refine (fix_Div.calls (wrap64 (a0)) (Int.tmod (wrap64 (a1)) 16384) ji7 t207 t208 _ A19.out).mono ?_); rintro e w' ⟨rfl, ⟨nd, rfl⟩⟩; refine ⟨_, rfl, ?_⟩))
                            go_ret
                            exact ⟨by first | rfl | (simp [errW_none, errW_some] <;> rfl) | (simp only [← hji7, ← hji9, ← hji9]; first | rfl | (simp [errW_none, errW_some] <;> rfl)) | (simp [*, errW_none, errW_some] <;> rfl), by repeat (first | (with_reducible first | exact HB.out | apply below_alloc | apply pw_below_drewN | apply below_drew1) | exact HB.out)⟩
                          · rw [if_neg c26] at H
                            have c26b0 : decide ((wrap64 ((wrap64 ((wrap64 (a0)) * (ji9))) - (wrap64 (t207 * (Int.tmod (wrap64 (a1)) 16384))))) ≤ 0) = false := decide_eq_false c26
                            clear c26
                            obtain rfl := Option.some.inj H
                            go_wp2_with (first | ((with_reducible refine gate_callee (f := 31) rfl ?_); refine goesL_ (some 77) rfl rfl Try.func31 (by kernel_rfl) rfl #[.int .i64 (wrap64 (a0)), .int .i64 (Int.tmod (wrap64 (a1)) 16384), .int .i64 ji7] rfl (by (try simp only [List.map_toArray, List.map_cons, List.map_nil]); first | done | (simp only [hji7]; rfl) | rfl | (simp only [List.length_drop, List.length_take]; rfl)) ?_; (with_reducible refine (fix_Div.calls (wrap64 (a0)) (Int.tmod (wrap64 (a1)) 16384) ji7 t207 t208 _ A19.out).mono ?_); rintro e w' ⟨rfl, ⟨nd, rfl⟩⟩; refine ⟨_, rfl, ?_⟩))
                            go_ret
                            exact ⟨by first | rfl | (simp [errW_none, errW_some] <;> rfl) | (simp only [← hji7, ← hji9, ← hji9]; first | rfl | (simp [errW_none, errW_some] <;> rfl)) | (simp [*, errW_none, errW_some] <;> rfl), by repeat (first | (with_reducible first | exact HB.out | apply below_alloc | apply pw_below_drewN | apply below_drew1) | exact HB.out)⟩
                        · rw [if_neg c25] at H
                          have c25b0 : decide ((Int.tmod (wrap64 (a1)) 16384) < 0) = false := decide_eq_false c25
                          clear c25
                          obtain rfl := Option.some.inj H
                          go_wp2_with (first | ((with_reducible refine gate_callee (f := 31) rfl ?_); refine goesL_ (some 77) rfl rfl Try.func31 (by kernel_rfl) rfl #[.int .i64 (wrap64 (a0)), .int .i64 (Int.tmod (wrap64 (a1)) 16384), .int .i64 ji7] rfl (by (try simp only [List.map_toArray, List.map_cons, List.map_nil]); first | done | (simp only [hji7]; rfl) | rfl | (simp only [List.length_drop, List.length_take]; rfl)) ?_; (with_reducible refine (fix_Div.calls (wrap64 (a0)) (Int.tmod (wrap64 (a1)) 16384) ji7 t207 t208 _ A19.out).mono ?_); rintro e w' ⟨rfl, ⟨nd, rfl⟩⟩; refine ⟨_, rfl, ?_⟩))
                          go_ret
                          exact ⟨by first | rfl | (simp [errW_none, errW_some] <;> rfl) | (simp only [← hji7, ← hji9, ← hji9]; first | rfl | (simp [errW_none, errW_some] <;> rfl)) | (simp [*, errW_none, errW_some] <;> rfl), by repeat (first | (with_reducible first | exact HB.out | apply below_alloc | apply pw_below_drewN | apply below_drew1) | exact HB.out)⟩
                    · rw [if_neg c23] at H
                      have c23b0 : decide (0 ≤ (wrap64 ((wrap64 ((wrap64 (a0)) * (ji9))) - (wrap64 (t207 * (Int.tmod (wrap64 (a1)) 16384)))))) = false := decide_eq_false c23
                      clear c23
                      by_cases c27 : (Int.tmod (wrap64 (a1)) 16384) < 0
                      · rw [if_pos c27] at H
                        have c27b0 : decide ((Int.tmod (wrap64 (a1)) 16384) < 0) = true := decide_eq_true c27
                        clear c27
                        by_cases c28 : (wrap64 ((wrap64 ((wrap64 (a0)) * (ji9))) - (wrap64 (t207 * (Int.tmod (wrap64 (a1)) 16384))))) ≤ 0
                        · rw [if_pos c28] at H
                          have c28b0 : decide ((wrap64 ((wrap64 ((wrap64 (a0)) * (ji9))) - (wrap64 (t207 * (Int.tmod (wrap64 (a1)) 16384))))) ≤ 0) = true := decide_eq_true c28
                          clear c28
                          obtain rfl := Option.some.inj H
                          go_wp2_with (first | ((with_reducible refine gate_callee (f := 31) rfl ?_); refine goesL_ (some 77) rfl rfl Try.func31 (by kernel_rfl) rfl #[.int .i64 (wrap64 (a0)), .int .i64 (Int.tmod (wrap64 (a1)) 16384), .int .i64 ji7] rfl (by (try simp only [List.map_toArray, List.map_cons, List.map_nil]); first | done | (simp only [hji7]; rfl) | rfl | (simp only [List.length_drop, List.length_take]; rfl)) ?_; (with_reducible refine (fix_Div.calls (wrap64 (a0)) (Int.tmod (wrap64 (a1)) 16384) ji7 t207 t208 _ A19.out).mono ?_); rintro e w' ⟨rfl, ⟨nd, rfl⟩⟩; refine ⟨_, rfl, ?_⟩))
                          go_ret
                          exact ⟨by first | rfl | (simp [errW_none, errW_some] <;> rfl) | (simp only [← hji7, ← hji9, ← hji9]; first | rfl | (simp [errW_none, errW_some] <;> rfl)) | (simp [*, errW_none, errW_some] <;> rfl), by repeat (first | (with_reducible first | exact HB.out | apply below_alloc | apply pw_below_drewN | apply below_drew1) | exact HB.out)⟩
                        · rw [if_neg c28] at H
                          have c28b0 : decide ((wrap64 ((wrap64 ((wrap64 (a0)) * (ji9))) - (wrap64 (t207 * (Int.tmod (wrap64 (a1)) 16384))))) ≤ 0) = false := decide_eq_false c28
                          clear c28
                          obtain rfl := Option.some.inj H
                          go_wp2_with (first | ((with_reducible refine gate_callee (f := 31) rfl ?_); refine goesL_ (some 77) rfl rfl Try.func31 (by kernel_rfl) rfl #[.int .i64 (wrap64 (a0)), .int .i64 (Int.tmod (wrap64 (a1)) 16384), .int .i64 ji7] rfl (by (try simp only [List.map_toArray, List.map_cons, List.map_nil]); first | done | (simp only [hji7]; rfl) | rfl | (simp only [List.length_drop, List.length_take]; rfl)) ?_; (with_reducible refine (fix_Div.calls (wrap64 (a0)) (Int.tmod (wrap64 (a1)) 16384) ji7 t207 t208 _ A19.out).mono ?_); rintro e w' ⟨rfl, ⟨nd, rfl⟩⟩; refine ⟨_, rfl, ?_⟩))
                          go_ret
                          exact ⟨by first | rfl | (simp [errW_none, errW_some] <;> rfl) | (simp only [← hji7, ← hji9, ← hji9]; first | rfl | (simp [errW_none, errW_some] <;> rfl)) | (simp [*, errW_none, errW_some] <;> rfl), by repeat (first | (with_reducible first | exact HB.out | apply below_alloc | apply pw_below_drewN | apply below_drew1) | exact HB.out)⟩
                      · rw [if_neg c27] at H
                        have c27b0 : decide ((Int.tmod (wrap64 (a1)) 16384) < 0) = false := decide_eq_false c27
                        clear c27
                        obtain rfl := Option.some.inj H
                        go_wp2_with (first | ((with_reducible refine gate_callee (f := 31) rfl ?_); refine goesL_ (some 77) rfl rfl Try.func31 (by kernel_rfl) rfl #[.int .i64 (wrap64 (a0)), .int .i64 (Int.tmod (wrap64 (a1)) 16384), .int .i64 ji7] rfl (by (try simp only [List.map_toArray, List.map_cons, List.map_nil]); first | done | (simp only [hji7]; rfl) | rfl | (simp only [List.length_drop, List.length_take]; rfl)) ?_; (with_reducible refine (fix_Div.calls (wrap64 (a0)) (Int.tmod (wrap64 (a1)) 16384) ji7 t207 t208 _ A19.out).mono ?_); rintro e w' ⟨rfl, ⟨nd, rfl⟩⟩; refine ⟨_, rfl, ?_⟩))
                        go_ret
                        exact ⟨by first | rfl | (simp [errW_none, errW_some] <;> rfl) | (simp only [← hji7, ← hji9, ← hji9]; first | rfl | (simp [errW_none, errW_some] <;> rfl)) | (simp [*, errW_none, errW_some] <;> rfl), by repeat (first | (with_reducible first | exact HB.out | apply below_alloc | apply pw_below_drewN | apply below_drew1) | exact HB.out)⟩
                  · rw [if_neg c22] at H
                    have c22b0 : decide (0 < (Int.tmod (wrap64 (a1)) 16384)) = false := decide_eq_false c22
                    clear c22
                    by_cases c29 : (Int.tmod (wrap64 (a1)) 16384) < 0
                    · rw [if_pos c29] at H
                      have c29b0 : decide ((Int.tmod (wrap64 (a1)) 16384) < 0) = true := decide_eq_true c29
                      clear c29
                      by_cases c30 : (wrap64 ((wrap64 ((wrap64 (a0)) * (ji9))) - (wrap64 (t207 * (Int.tmod (wrap64 (a1)) 16384))))) ≤ 0
                      · rw [if_pos c30] at H
                        have c30b0 : decide ((wrap64 ((wrap64 ((wrap64 (a0)) * (ji9))) - (wrap64 (t207 * (Int.tmod (wrap64 (a1)) 16384))))) ≤ 0) = true := decide_eq_true c30
                        clear c30
                        obtain rfl := Option.some.inj H
                        go_wp2_with (first | ((with_reducible refine gate_callee (f := 31) rfl ?_); refine goesL_ (some 77) rfl rfl Try.func31 (by kernel_rfl) rfl #[.int .i64 (wrap64 (a0)), .int .i64 (Int.tmod (wrap64 (a1)) 16384), .int .i64 ji7] rfl (by (try simp only [List.map_toArray, List.map_cons, List.map_nil]); first | done | (simp only [hji7]; rfl) | rfl | (simp only [List.length_drop, List.length_take]; rfl)) ?_; (with_reducible refine (fix_Div.calls (wrap64 (a0)) (Int.tmod (wrap64 (a1)) 16384) ji7 t207 t208 _ A19.out).mono ?_); rintro e w' ⟨rfl, ⟨nd, rfl⟩⟩; refine ⟨_, rfl, ?_⟩))
                        go_ret
                        exact ⟨by first | rfl | (simp [errW_none, errW_some] <;> rfl) | (simp only [← hji7, ← hji9, ← hji9]; first | rfl | (simp [errW_none, errW_some] <;> rfl)) | (simp [*, errW_none, errW_some] <;> rfl), by repeat (first | (with_reducible first | exact HB.out | apply below_alloc | apply pw_below_drewN | apply below_drew1) | exact HB.out)⟩
                      · rw [if_neg c30] at H
                        have c30b0 : decide ((wrap64 ((wrap64 ((wrap64 (a0)) * (ji9))) - (wrap64 (t207 * (Int.tmod (wrap64 (a1)) 16384))))) ≤ 0) = false := decide_eq_false c30
                        clear c30
                        obtain rfl := Option.some.inj H
                        go_wp2_with (first | ((with_reducible refine gate_callee (f := 31) rfl ?_); refine goesL_ (some 77) rfl rfl Try.func31 (by kernel_rfl) rfl #[.int .i64 (wrap64 (a0)), .int .i64 (Int.tmod (wrap64 (a1)) 16384), .int .i64 ji7] rfl (by (try simp only [List.map_toArray, List.map_cons, List.map_nil]); first | done | (simp only [hji7]; rfl) | rfl | (simp only [List.length_drop, List.length_take]; rfl)) ?_; (with_reducible refine (fix_Div.calls (wrap64 (a0)) (Int.tmod (wrap64 (a1)) 16384) ji7 t207 t208 _ A19.out).mono ?_); rintro e w' ⟨rfl, ⟨nd, rfl⟩⟩; refine ⟨_, rfl, ?_⟩))
                        go_ret
                        exact ⟨by first | rfl | (simp [errW_none, errW_some] <;> rfl) | (simp only [← hji7, ← hji9, ← hji9]; first | rfl | (simp [errW_none, errW_some] <;> rfl)) | (simp [*, errW_none, errW_some] <;> rfl), by repeat (first | (with_reducible first | exact HB.out | apply below_alloc | apply pw_below_drewN | apply below_drew1) | exact HB.out)⟩
                    · rw [if_neg c29] at H
                      have c29b0 : decide ((Int.tmod (wrap64 (a1)) 16384) < 0) = false := decide_eq_false c29
                      clear c29
                      obtain rfl := Option.some.inj H
                      go_wp2_with (first | ((with_reducible refine gate_callee (f := 31) rfl ?_); refine goesL_ (some 77) rfl rfl Try.func31 (by kernel_rfl) rfl #[.int .i64 (wrap64 (a0)), .int .i64 (Int.tmod (wrap64 (a1)) 16384), .int .i64 ji7] rfl (by (try simp only [List.map_toArray, List.map_cons, List.map_nil]); first | done | (simp only [hji7]; rfl) | rfl | (simp only [List.length_drop, List.length_take]; rfl)) ?_; (with_reducible refine (fix_Div.calls (wrap64 (a0)) (Int.tmod (wrap64 (a1)) 16384) ji7 t207 t208 _ A19.out).mono ?_); rintro e w' ⟨rfl, ⟨nd, rfl⟩⟩; refine ⟨_, rfl, ?_⟩))
                      go_ret
                      exact ⟨by first | rfl | (simp [errW_none, errW_some] <;> rfl) | (simp only [← hji7, ← hji9, ← hji9]; first | rfl | (simp [errW_none, errW_some] <;> rfl)) | (simp [*, errW_none, errW_some] <;> rfl), by repeat (first | (with_reducible first | exact HB.out | apply below_alloc | apply pw_below_drewN | apply below_drew1) | exact HB.out)⟩
                · rw [if_neg c21] at H
                  have c21b0 : (t208 == 0) = false := beq_eq_false_iff_ne.mpr c21
                  have c21b1 : (t208 != 0) = true := bne_iff_ne.mpr c21
                  obtain rfl := Option.some.inj H
                  go_wp2_with (first | ((with_reducible refine gate_callee (f := 31) rfl ?_); refine goesL_ (some 77) rfl rfl Try.func31 (by kernel_rfl) rfl #[.int .i64 (wrap64 (a0)), .int .i64 (Int.tmod (wrap64 (a1)) 16384), .int .i64 ji7] rfl (by (try simp only [List.map_toArray, List.map_cons, List.map_nil]); first | done | (simp only [hji7]; rfl) | rfl | (simp only [List.length_drop, List.length_take]; rfl)) ?_; (with_reducible refine (fix_Div.calls (wrap64 (a0)) (Int.tmod (wrap64 (a1)) 16384) ji7 t207 t208 _ A19.out).mono ?_); rintro e w' ⟨rfl, ⟨nd, rfl⟩⟩; refine ⟨_, rfl, ?_⟩))
                  go_ret
                  exact ⟨by first | rfl | (simp [errW_none, errW_some] <;> rfl) | (simp only [← hji7, ← hji9, ← hji9]; first | rfl | (simp [errW_none, errW_some] <;> rfl)) | (simp [*, errW_none, errW_some] <;> rfl), by repeat (first | (with_reducible first | exact HB.out | apply below_alloc | apply pw_below_drewN | apply below_drew1) | exact HB.out)⟩
              · rw [if_neg c20] at H
                exact absurd H (by simp)
    · rw [if_neg c8] at H
      exact absurd H (by simp)
  · replace c5 := Bool.eq_false_iff.mpr c5
    subst c5
    have H1 : (some false) = some r := by rw [if_neg (show ¬ (false = true) by decide)] at H; exact H
    clear H
    have H := H1
    clear H1
    obtain rfl := Option.some.inj H
    go_enter Try.func4, Try.ntmps4
    go_wp2_with (first | ((with_reducible refine gate_callee (f := 29) rfl ?_); refine goesL_ (some 19) rfl rfl Try.func29 (by kernel_rfl) rfl #[] rfl (by (try simp only [List.map_toArray, List.map_cons, List.map_nil]); first | done | rfl | (simp only [List.length_drop, List.length_take]; rfl)) ?_; (with_reducible refine (thrumlaw01_live.calls  false _ A4.out).mono ?_); rintro e w31 ⟨rfl, hb⟩; refine ⟨_, rfl, ?_⟩; have n0_ := Aside0.mk (below_step (by repeat (first | (with_reducible first | exact HB.out | apply below_alloc | apply pw_below_drewN | apply below_drew1) | exact HB.out)) hb); clear HB; have HB := n0_; clear n0_; (try clear hb); (try clear hb2); (try clear hk); (try clear hi)))
    go_ret
    exact ⟨by first | rfl | (simp [errW_none, errW_some] <;> rfl) | (simp [*, errW_none, errW_some] <;> rfl), by repeat (first | (with_reducible first | exact HB.out | apply below_alloc | apply pw_below_drewN | apply below_drew1) | exact HB.out)⟩

/-- THE ONE PURE STATEMENT of thrumlaw01_FixSmall: yours. -/
def thrumlaw01_FixSmall.Pure : Prop := ∀ (a0 : Int) (a1 : Int) (a2 : Int), (Lit.int .i32 a0).wf = true → (Lit.int .i32 a1).wf = true → (Lit.int .i64 a2).wf = true → ∃ k, thrumlaw01_FixSmall.f k a0 a1 a2 = some true
theorem thrumlaw01_FixSmall.walk (P : thrumlaw01_FixSmall.Pure) (a0 : Int) (a1 : Int) (a2 : Int) (w : World) (w0 : (Lit.int .i32 a0).wf = true) (w1 : (Lit.int .i32 a1).wf = true) (w2 : (Lit.int .i64 a2).wf = true) :
    Calls Try.prog 4 #[.int .i32 a0, .int .i32 a1, .int .i64 a2] w fun e w' => e = .returned (.bool true) ∧ Below w.heap.size w w' := by
  obtain ⟨k, h⟩ := P a0 a1 a2 w0 w1 w2
  refine (thrumlaw01_FixSmall.calls k a0 a1 a2 true w h).mono ?_
  rintro e w' ⟨rfl, hd⟩
  exact ⟨rfl, hd⟩

end Go.Proofs.Ytllicjinmlkcfaa.HA
