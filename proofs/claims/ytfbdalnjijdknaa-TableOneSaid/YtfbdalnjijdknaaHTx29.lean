/- What Go functions do, each as a plain Lean function with the same answers, and the proof of it, in every world: printed by the session's driver over the kit's print, with texts by hand. -/
import Derived.Test.YtfbdalnjijdknaaHTx0
import Derived.Test.YtfbdalnjijdknaaHTx11
import Derived.Test.YtfbdalnjijdknaaHTx12
namespace Go.Proofs.Ytfbdalnjijdknaa.HT
open Go.RowKit Go.Proofs.YtfbdalnjijdknaaW.PrintWords Go.Proofs.YtfbdalnjijdknaaW.PrintLast Go.Proofs.YtfbdalnjijdknaaW.PrintMore
attribute [local go_sem] max2_int min2_int max_two min_two max_three min_three max_four min_four   -- for this text's walks alone
open Go.Proofs.Ytfbdalnjijdknaa.Sp
attribute [local go_sem] Go.Proofs.Ytfbdalnjijdknaa.Sp.u64_not
set_option linter.unusedVariables false
set_option linter.unusedSimpArgs false

/-! ### thrumlaw13_TableOne: function 9 -/
mutual
def thrumlaw13_TableOne.l0 : Nat → Int → Int → Int → Bool → List Int → Int → Int → Option (Bool)
  | 0, _, _, _, _, _, _, _ => none
  | k + 1, x0, x1, x2, x7, x8, x31, x32 => if x32 < x31 then (if 0 ≤ x32 then (if x32 < (x8.length : Int) then (thrumlaw13_TableOne.l0 k x0 x1 x2 x7 (x8.set (x32 : Int).toNat x1) x31 (wrap64 (x32 + 1))) else (none)) else (none)) else ((table_Soft.f x0 x8).bind fun bt268 => (if bt268.2 = 0 then (thrumlaw13_TableOne.j1 k x0 x1 x2 x7 bt268.1 ((bt268.1.length : Int) != x2)) else (thrumlaw13_TableOne.j1 k x0 x1 x2 x7 bt268.1 true)))
def thrumlaw13_TableOne.j1 : Nat → Int → Int → Int → Bool → List Int → Bool → Option (Bool)
  | 0, _, _, _, _, _, _ => none
  | k + 1, x0, x1, x2, x7, x10, x53 => if x53 = true then (some false) else (thrumlaw13_TableOne.l1 k x0 x1 x2 x7 x10 (x10.length : Int) 0)
def thrumlaw13_TableOne.l1 : Nat → Int → Int → Int → Bool → List Int → Int → Int → Option (Bool)
  | 0, _, _, _, _, _, _, _ => none
  | k + 1, x0, x1, x2, x7, x54, x55, x56 => if x56 < x55 then (if 0 ≤ x56 then (if x56 < (x54.length : Int) then (if 0 ≤ x0 then (if x2 = 0 then (none) else (if (rd x54 x56) = (wrap64 (Int.tdiv (shl .i64 1 x0) x2)) then (thrumlaw13_TableOne.l1 k x0 x1 x2 x7 x54 x55 (wrap64 (x56 + 1))) else (some false))) else (none)) else (none)) else (none)) else (if x1 < (-2305843009213693952) then (some x7) else (if 0 ≤ x0 then ((table_Soft.f x0 (([x1, wrap64 (x1 - (shl .i64 64 x0))] : List Int))).bind fun bt276 => (if x7 = true then (if bt276.2 = 0 then (if (bt276.1.length : Int) = 2 then (if 0 < (bt276.1.length : Int) then (if (rd bt276.1 0) = (shl .i64 1 x0) then (if 1 < (bt276.1.length : Int) then (some ((rd bt276.1 1) == 0)) else (none)) else (some false)) else (none)) else (some false)) else (some false)) else (some false))) else (none)))
end
def thrumlaw13_TableOne.f (k : Nat) (a0 : Int) (a1 : Int) (a2 : Int) : Option (Bool) := (thrumlaw13_live.f).bind fun t263 => (if t263 = true then (if 0 ≤ (wrap64 (1 + (Int.tmod (wrap64 ((Int.tmod a2 40) + 40)) 40))) then (if (wrap64 (1 + (Int.tmod (wrap64 ((Int.tmod a2 40) + 40)) 40)) : Int).toNat ≤ 35184372088832 then ((some (List.replicate (wrap64 (1 + (Int.tmod (wrap64 ((Int.tmod a2 40) + 40)) 40)) : Int).toNat 0 : List Int)).bind fun y264 => (thrumlaw13_TableOne.l0 k (Int.tmod (wrap64 ((Int.tmod a0 31) + 31)) 31) a1 (wrap64 (1 + (Int.tmod (wrap64 ((Int.tmod a2 40) + 40)) 40))) t263 y264 (y264.length : Int) 0)) else (none)) else (none)) else (some false))
theorem thrumlaw13_TableOne.mono_l : ∀ k, (∀ y0 y1 y2 y3 y4 y5 y6, LeO (thrumlaw13_TableOne.l0 k y0 y1 y2 y3 y4 y5 y6) (thrumlaw13_TableOne.l0 (k + 1) y0 y1 y2 y3 y4 y5 y6)) ∧ (∀ y0 y1 y2 y3 y4 y5, LeO (thrumlaw13_TableOne.j1 k y0 y1 y2 y3 y4 y5) (thrumlaw13_TableOne.j1 (k + 1) y0 y1 y2 y3 y4 y5)) ∧ (∀ y0 y1 y2 y3 y4 y5 y6, LeO (thrumlaw13_TableOne.l1 k y0 y1 y2 y3 y4 y5 y6) (thrumlaw13_TableOne.l1 (k + 1) y0 y1 y2 y3 y4 y5 y6))
  | 0 => ⟨fun _ _ _ _ _ _ _ r h => by simp [thrumlaw13_TableOne.l0] at h, fun _ _ _ _ _ _ r h => by simp [thrumlaw13_TableOne.j1] at h, fun _ _ _ _ _ _ _ r h => by simp [thrumlaw13_TableOne.l1] at h⟩
  | k + 1 => by
    obtain ⟨ih0, ih1, ih2⟩ := thrumlaw13_TableOne.mono_l k
    refine ⟨?_, ?_, ?_⟩
    · intro y0 y1 y2 y3 y4 y5 y6
      unfold thrumlaw13_TableOne.l0
      repeat' first
      | (with_reducible exact ih0 _ _ _ _ _ _ _)
      | (with_reducible exact ih1 _ _ _ _ _ _)
      | (with_reducible exact ih2 _ _ _ _ _ _ _)
      | (with_reducible exact LeO.refl _)
      | (with_reducible exact LeO.none _)
      | (with_reducible refine LeO.ite ?_ ?_)
      | (with_reducible refine LeO.bind ?_ (fun _ => ?_))
      | exact ih0 _ _ _ _ _ _ _
      | exact ih1 _ _ _ _ _ _
      | exact ih2 _ _ _ _ _ _ _
      | exact LeO.none _
      | refine LeO.ite ?_ ?_
      | refine LeO.bind ?_ (fun _ => ?_)
    · intro y0 y1 y2 y3 y4 y5
      unfold thrumlaw13_TableOne.j1
      repeat' first
      | (with_reducible exact ih0 _ _ _ _ _ _ _)
      | (with_reducible exact ih1 _ _ _ _ _ _)
      | (with_reducible exact ih2 _ _ _ _ _ _ _)
      | (with_reducible exact LeO.refl _)
      | (with_reducible exact LeO.none _)
      | (with_reducible refine LeO.ite ?_ ?_)
      | (with_reducible refine LeO.bind ?_ (fun _ => ?_))
      | exact ih0 _ _ _ _ _ _ _
      | exact ih1 _ _ _ _ _ _
      | exact ih2 _ _ _ _ _ _ _
      | exact LeO.none _
      | refine LeO.ite ?_ ?_
      | refine LeO.bind ?_ (fun _ => ?_)
    · intro y0 y1 y2 y3 y4 y5 y6
      unfold thrumlaw13_TableOne.l1
      repeat' first
      | (with_reducible exact ih0 _ _ _ _ _ _ _)
      | (with_reducible exact ih1 _ _ _ _ _ _)
      | (with_reducible exact ih2 _ _ _ _ _ _ _)
      | (with_reducible exact LeO.refl _)
      | (with_reducible exact LeO.none _)
      | (with_reducible refine LeO.ite ?_ ?_)
      | (with_reducible refine LeO.bind ?_ (fun _ => ?_))
      | exact ih0 _ _ _ _ _ _ _
      | exact ih1 _ _ _ _ _ _
      | exact ih2 _ _ _ _ _ _ _
      | exact LeO.none _
      | refine LeO.ite ?_ ?_
      | refine LeO.bind ?_ (fun _ => ?_)
theorem thrumlaw13_TableOne.mono : ∀ a0 a1 a2 k, LeO (thrumlaw13_TableOne.f k a0 a1 a2) (thrumlaw13_TableOne.f (k + 1) a0 a1 a2) := by
  intro a0 a1 a2 k
  obtain ⟨ih0, ih1, ih2⟩ := thrumlaw13_TableOne.mono_l k
  unfold thrumlaw13_TableOne.f
  repeat' first
      | (with_reducible exact ih0 _ _ _ _ _ _ _)
      | (with_reducible exact ih1 _ _ _ _ _ _)
      | (with_reducible exact ih2 _ _ _ _ _ _ _)
      | (with_reducible exact LeO.refl _)
      | (with_reducible exact LeO.none _)
      | (with_reducible refine LeO.ite ?_ ?_)
      | (with_reducible refine LeO.bind ?_ (fun _ => ?_))
      | exact ih0 _ _ _ _ _ _ _
      | exact ih1 _ _ _ _ _ _
      | exact ih2 _ _ _ _ _ _ _
      | exact LeO.none _
      | refine LeO.ite ?_ ?_
      | refine LeO.bind ?_ (fun _ => ?_)
set_option maxHeartbeats 8000000 in
set_option maxRecDepth 100000 in
theorem thrumlaw13_TableOne.calls (k : Nat) (a0 : Int) (a1 : Int) (a2 : Int) (r : Bool) (w : World) (h : thrumlaw13_TableOne.f k a0 a1 a2 = some r) :
    Calls Try.prog 9 #[.int .i64 a0, .int .i64 a1, .int .i64 a2] w fun e w' => e = .returned (.bool r) ∧ Below w.heap.size w w' := by
  have HB := Aside0.mk (Below.refl w.heap.size w)
  have H : ((thrumlaw13_live.f).bind fun t263 => (if t263 = true then (if 0 ≤ (wrap64 (1 + (Int.tmod (wrap64 ((Int.tmod a2 40) + 40)) 40))) then (if (wrap64 (1 + (Int.tmod (wrap64 ((Int.tmod a2 40) + 40)) 40)) : Int).toNat ≤ 35184372088832 then ((some (List.replicate (wrap64 (1 + (Int.tmod (wrap64 ((Int.tmod a2 40) + 40)) 40)) : Int).toNat 0 : List Int)).bind fun y264 => (thrumlaw13_TableOne.l0 k (Int.tmod (wrap64 ((Int.tmod a0 31) + 31)) 31) a1 (wrap64 (1 + (Int.tmod (wrap64 ((Int.tmod a2 40) + 40)) 40))) t263 y264 (y264.length : Int) 0)) else (none)) else (none)) else (some false))) = some r := h
  clear h
  replace H := Option.bind_eq_some_iff.mp H
  obtain ⟨t263, A40, H⟩ := H
  replace H : (if t263 = true then (if 0 ≤ (wrap64 (1 + (Int.tmod (wrap64 ((Int.tmod a2 40) + 40)) 40))) then (if (wrap64 (1 + (Int.tmod (wrap64 ((Int.tmod a2 40) + 40)) 40)) : Int).toNat ≤ 35184372088832 then ((some (List.replicate (wrap64 (1 + (Int.tmod (wrap64 ((Int.tmod a2 40) + 40)) 40)) : Int).toNat 0 : List Int)).bind fun y264 => (thrumlaw13_TableOne.l0 k (Int.tmod (wrap64 ((Int.tmod a0 31) + 31)) 31) a1 (wrap64 (1 + (Int.tmod (wrap64 ((Int.tmod a2 40) + 40)) 40))) t263 y264 (y264.length : Int) 0)) else (none)) else (none)) else (some false)) = some r := H
  have A4 := Aside0.mk A40
  clear A40
  by_cases c5 : t263 = true
  · subst c5
    have H1 : (if 0 ≤ (wrap64 (1 + (Int.tmod (wrap64 ((Int.tmod a2 40) + 40)) 40))) then (if (wrap64 (1 + (Int.tmod (wrap64 ((Int.tmod a2 40) + 40)) 40)) : Int).toNat ≤ 35184372088832 then ((some (List.replicate (wrap64 (1 + (Int.tmod (wrap64 ((Int.tmod a2 40) + 40)) 40)) : Int).toNat 0 : List Int)).bind fun y264 => (thrumlaw13_TableOne.l0 k (Int.tmod (wrap64 ((Int.tmod a0 31) + 31)) 31) a1 (wrap64 (1 + (Int.tmod (wrap64 ((Int.tmod a2 40) + 40)) 40))) true y264 (y264.length : Int) 0)) else (none)) else (none)) = some r := by rw [if_pos rfl] at H; exact H
    clear H
    have H := H1
    clear H1
    obtain ⟨ji6, hji6⟩ : ∃ j_ : Int, (wrap64 (1 + (Int.tmod (wrap64 ((Int.tmod a2 40) + 40)) 40))) = j_ := ⟨_, rfl⟩
    replace H : (if 0 ≤ (ji6) then (if (ji6 : Int).toNat ≤ 35184372088832 then ((some (List.replicate (ji6 : Int).toNat 0 : List Int)).bind fun y264 => (thrumlaw13_TableOne.l0 k (Int.tmod (wrap64 ((Int.tmod a0 31) + 31)) 31) a1 ji6 true y264 (y264.length : Int) 0)) else (none)) else (none)) = some r := by first | (rw [hji6] at H; exact H) | (simp only [hji6] at H ⊢; exact H)
    (try rw [hji6] at A4)
    have hji6w : (IntKind.i64.wrap (1 + (Int.tmod (wrap64 ((Int.tmod a2 40) + 40)) 40))) = ji6 := (i64_w _).trans hji6
    by_cases c7 : 0 ≤ (ji6)
    · rw [if_pos c7] at H
      have c7b0 := eq_true c7
      have c7b1 : decide (0 ≤ (ji6)) = true := decide_eq_true c7
      clear c7
      by_cases c8 : (ji6 : Int).toNat ≤ 35184372088832
      · rw [if_pos c8] at H
        have c8b0 := eq_true c8
        have c8b1 : decide ((ji6 : Int).toNat ≤ 35184372088832) = true := decide_eq_true c8
        clear c8
        obtain ⟨y264, hy264⟩ : ∃ y_ : List Int, y_ = (List.replicate (ji6 : Int).toNat 0) := ⟨_, rfl⟩
        replace H : (thrumlaw13_TableOne.l0 k (Int.tmod (wrap64 ((Int.tmod a0 31) + 31)) 31) a1 ji6 true y264 (y264.length : Int) 0) = some r := by first | (rw [hy264]; with_reducible exact H) | (have H2_ := (Option.bind_some _ _).symm.trans H; rw [hy264]; with_reducible exact H2_) | (have H2_ := (Option.bind_some _ _).symm.trans H; with_reducible exact H2_) | with_reducible exact H | (rw [hy264]; exact H) | exact H
        have Ny264 := Aside0.mk hy264
        clear hy264
        have H' := Aside0.mk H
        clear H
        go_enter Try.func9, Try.ntmps9
        go_wp2_with (first | (go_at_call 48; (with_reducible refine (thrumlaw13_live.calls  true _ A4.out).mono ?_); rintro e w9 ⟨rfl, hb⟩; have n0_ := Aside0.mk (below_step (by repeat (first | (with_reducible first | exact HB.out | apply below_alloc | apply pw_below_drewN | apply below_drew1) | exact HB.out)) hb); clear HB; have HB := n0_; clear n0_; (try clear hb); (try clear hb2); (try clear hk); (try clear hi)) | ((with_reducible refine gate_dst (N := 29) rfl ?_); (try (refine gate_guard (by rfl) ?_; dsimp only)); refine Kd.R_make (Kd.int .i64) _ 2 rfl (N := 29) rfl 22 _ _ rfl ji6 rfl rfl Try.underlying22 (.int .i64 0) 8 info2 rfl (by decide) (by omega) 0 (ok := fun _ => True) (okp := fun _ => True) rfl (fun _ hk => hk) trivial (of_decide_eq_true (by first | (with_reducible assumption) | assumption)) (Nat.le_trans (Nat.mul_le_mul_right _ (of_decide_eq_true (by first | (with_reducible assumption) | assumption) : ji6.toNat ≤ 35184372088832)) (by omega)) (Below.refl _ _) (Nat.le_refl _) ?_; intro v265 w10 ho11 hb hg_ hnew_; clear hg_ hnew_; (first | rw [← Ny264.out] at ho11 | (simp only [Int.reduceToNat] at ho11; rw [← Ny264.out] at ho11)); have n0_ := Aside0.mk (Kd.R_lower ho11 (below_size (by repeat (first | (with_reducible first | exact HB.out | apply below_alloc | apply pw_below_drewN | apply below_drew1) | exact HB.out)))); have n1_ := Aside0.mk (below_step (by repeat (first | (with_reducible first | exact HB.out | apply below_alloc | apply pw_below_drewN | apply below_drew1) | exact HB.out)) hb); clear HB; have HO266 := n0_; have HB := n1_; clear n0_ n1_; clear hb ho11; obtain ⟨Ao12, co12, eo12⟩ := Kd.R_slice HO266.out; subst eo12))
        repeat (go_quiet (first | (go_at_call 48; (with_reducible refine (thrumlaw13_live.calls  true _ A4.out).mono ?_); rintro e w9 ⟨rfl, hb⟩; have n0_ := Aside0.mk (below_step (by repeat (first | (with_reducible first | exact HB.out | apply below_alloc | apply pw_below_drewN | apply below_drew1) | exact HB.out)) hb); clear HB; have HB := n0_; clear n0_; (try clear hb); (try clear hb2); (try clear hk); (try clear hi)) | ((with_reducible refine gate_dst (N := 29) rfl ?_); (try (refine gate_guard (by rfl) ?_; dsimp only)); refine Kd.R_make (Kd.int .i64) _ 2 rfl (N := 29) rfl 22 _ _ rfl ji6 rfl rfl Try.underlying22 (.int .i64 0) 8 info2 rfl (by decide) (by omega) 0 (ok := fun _ => True) (okp := fun _ => True) rfl (fun _ hk => hk) trivial (of_decide_eq_true (by first | (with_reducible assumption) | assumption)) (Nat.le_trans (Nat.mul_le_mul_right _ (of_decide_eq_true (by first | (with_reducible assumption) | assumption) : ji6.toNat ≤ 35184372088832)) (by omega)) (Below.refl _ _) (Nat.le_refl _) ?_; intro v265 w10 ho11 hb hg_ hnew_; clear hg_ hnew_; (first | rw [← Ny264.out] at ho11 | (simp only [Int.reduceToNat] at ho11; rw [← Ny264.out] at ho11)); have n0_ := Aside0.mk (Kd.R_lower ho11 (below_size (by repeat (first | (with_reducible first | exact HB.out | apply below_alloc | apply pw_below_drewN | apply below_drew1) | exact HB.out)))); have n1_ := Aside0.mk (below_step (by repeat (first | (with_reducible first | exact HB.out | apply below_alloc | apply pw_below_drewN | apply below_drew1) | exact HB.out)) hb); clear HB; have HO266 := n0_; have HB := n1_; clear n0_ n1_; clear hb ho11; obtain ⟨Ao12, co12, eo12⟩ := Kd.R_slice HO266.out; subst eo12)); try go_wp2_with (first | (go_at_call 48; (with_reducible refine (thrumlaw13_live.calls  true _ A4.out).mono ?_); rintro e w9 ⟨rfl, hb⟩; have n0_ := Aside0.mk (below_step (by repeat (first | (with_reducible first | exact HB.out | apply below_alloc | apply pw_below_drewN | apply below_drew1) | exact HB.out)) hb); clear HB; have HB := n0_; clear n0_; (try clear hb); (try clear hb2); (try clear hk); (try clear hi)) | ((with_reducible refine gate_dst (N := 29) rfl ?_); (try (refine gate_guard (by rfl) ?_; dsimp only)); refine Kd.R_make (Kd.int .i64) _ 2 rfl (N := 29) rfl 22 _ _ rfl ji6 rfl rfl Try.underlying22 (.int .i64 0) 8 info2 rfl (by decide) (by omega) 0 (ok := fun _ => True) (okp := fun _ => True) rfl (fun _ hk => hk) trivial (of_decide_eq_true (by first | (with_reducible assumption) | assumption)) (Nat.le_trans (Nat.mul_le_mul_right _ (of_decide_eq_true (by first | (with_reducible assumption) | assumption) : ji6.toNat ≤ 35184372088832)) (by omega)) (Below.refl _ _) (Nat.le_refl _) ?_; intro v265 w10 ho11 hb hg_ hnew_; clear hg_ hnew_; (first | rw [← Ny264.out] at ho11 | (simp only [Int.reduceToNat] at ho11; rw [← Ny264.out] at ho11)); have n0_ := Aside0.mk (Kd.R_lower ho11 (below_size (by repeat (first | (with_reducible first | exact HB.out | apply below_alloc | apply pw_below_drewN | apply below_drew1) | exact HB.out)))); have n1_ := Aside0.mk (below_step (by repeat (first | (with_reducible first | exact HB.out | apply below_alloc | apply pw_below_drewN | apply below_drew1) | exact HB.out)) hb); clear HB; have HO266 := n0_; have HB := n1_; clear n0_ n1_; clear hb ho11; obtain ⟨Ao12, co12, eo12⟩ := Kd.R_slice HO266.out; subst eo12)))
        go_loopg [32] k (fun kq v32 w' => ∃ (x8_1 : List Int) (x32_1 : Int), v32 = .int .i64 x32_1 ∧ Aside0 (thrumlaw13_TableOne.l0 kq (Int.tmod (wrap64 ((Int.tmod a0 31) + 31)) 31) a1 ji6 true x8_1 (y264.length : Int) x32_1 = some r) ∧ Aside0 (kq ≤ k) ∧ Aside0 (Kd.R (Kd.int .i64) 2 w' w.heap.size (fun _ => True) (.slice Ao12 y264.length co12) x8_1) ∧ Aside0 (Below w.heap.size w w'))
        case atStart => exact ⟨(y264), (0), (by first | rfl | (simp; done) | (simp [*]; done)), H', ⟨Nat.le_refl _⟩, ⟨by (with_reducible repeat (first | apply Kd.R_alloc | apply Kd.R_drewN | apply Kd.R_drew)); exact HO266.out⟩, ⟨by repeat (first | (with_reducible first | exact HB.out | apply below_alloc | apply pw_below_drewN | apply below_drew1) | exact HB.out)⟩⟩
        case round =>
          clear H'
          try clear p2
          try clear c5
          try clear p6
          try clear c7
          try clear c7b0
          try clear c7b1
          try clear c8
          try clear c8b0
          try clear c8b1
          try clear c9
          obtain ⟨x8_1, x32_1, rfl, HA, HK1, HO_8, HB⟩ := hrel
          have hl8_1 := (Kd.R_reads' HO_8.out).1
          rw [hl8_1] at HO_8
          (try simp only [hl8_1])
          cases gk with
          | zero => exact absurd HA.out (by simp [thrumlaw13_TableOne.l0])
          | succ k1 =>
            have H := HA.out
            clear HA
            simp only [thrumlaw13_TableOne.l0] at H
            by_cases c13 : x32_1 < (y264.length : Int)
            · rw [if_pos c13] at H
              have c13b0 : decide (x32_1 < (y264.length : Int)) = true := decide_eq_true c13
              clear c13
              by_cases c14 : 0 ≤ x32_1
              · rw [if_pos c14] at H
                have c14b0 : decide (0 ≤ x32_1) = true := decide_eq_true c14
                clear c14
                by_cases c15 : x32_1 < (x8_1.length : Int)
                · rw [if_pos c15] at H
                  have c15b0 : decide (x32_1 < (x8_1.length : Int)) = true := decide_eq_true c15
                  clear c15
                  obtain ⟨y267, hy267⟩ : ∃ y_ : List Int, y_ = (x8_1.set (x32_1 : Int).toNat a1) := ⟨_, rfl⟩
                  replace H : (thrumlaw13_TableOne.l0 k1 (Int.tmod (wrap64 ((Int.tmod a0 31) + 31)) 31) a1 ji6 true y267 (y264.length : Int) (wrap64 (x32_1 + 1))) = some r := by first | (rw [hy267]; with_reducible exact H) | (have H2_ := (Option.bind_some _ _).symm.trans H; rw [hy267]; with_reducible exact H2_) | (have H2_ := (Option.bind_some _ _).symm.trans H; with_reducible exact H2_) | with_reducible exact H | (rw [hy267]; exact H) | exact H
                  have Ny267 := Aside0.mk hy267
                  clear hy267
                  have H' := Aside0.mk H
                  clear H
                  have p16 : 0 ≤ (x32_1 : Int) := of_decide_eq_true (by first | (with_reducible assumption) | assumption)
                  have q16 : (x32_1 : Int) < ((x8_1.length : Int) : Int) := of_decide_eq_true (by first | (with_reducible assumption) | assumption)
                  obtain ⟨go16, co16, eo16, gb16, gl16, cl16, HG16⟩ := Kd.R_form HO_8.out (by omega)
                  (first | cases eo16 | (injection eo16 with ea_ en_ ec_; (first | subst ea_ | (injection ea_ with ea_; subst ea_)); subst ec_; clear en_))
                  have GB16 := Aside0.mk gb16
                  have GG16 := Aside0.mk HG16
                  clear gb16 gl16 HG16
                  obtain ⟨hx16_0, hf16_0⟩ := Kd.R_celln 0 HO_8.out (x32_1 : Int) p16 q16
                  replace p16 := eq_true p16
                  replace q16 := eq_true q16
                  have HP17 := Kd.R_putg HO_8.out (x32_1 : Int) a1
                  go_wp2_with (first | ((with_reducible refine gate_store (t := 2) (p := 38) rfl ?_); (try (rw [drewN_self wr]; generalize hq_ : World.drewN wr _ = wr; have n0_ := Aside0.mk (Kd.R_at hq_ HO_8.out); have n1_ := Aside0.mk (below_at hq_ HB.out); clear hq_ HO_8 HB; have HO_8 := n0_; have HB := n1_; clear n0_ n1_; (try (have HP17 := Kd.R_putg HO_8.out (x32_1 : Int) a1)))); refine store_event (t := 2) (p := 38) (v := ?vo_w18) (w1 := (wr.setCell ⟨go16, (x32_1 : Int).toNat, none⟩ (.int .i64 a1))) ?hg ?ho ?hn ?hr ?_; (case ho => rfl); (case hg => rfl); (case hn => rfl); (case hr => first | (go_simp; done) | (go_simp; rfl)); intro w18 hw; have hg : wr.grownBy w18 (some go16) := (by rw [hw]; exact HP17.2); have hp_ : Kd.R (Kd.int .i64) 2 w18 w.heap.size (fun _ => True) (.slice (some ⟨go16, 0, none⟩) x8_1.length co12) y267 := (by rw [hw, Ny267.out]; exact HP17.1); clear HP17; have n0_ := Aside0.mk (hp_); have n1_ := Aside0.mk ((by rw [hw]; exact below_set (HB.out) GB16.out : Below w.heap.size w w18)); clear HO_8; clear HB; have HO_8 := n0_; have HB := n1_; clear n0_ n1_; clear hg hw hp_))
                  repeat (go_quiet (first | ((with_reducible refine gate_store (t := 2) (p := 38) rfl ?_); (try (rw [drewN_self wr]; generalize hq_ : World.drewN wr _ = wr; have n0_ := Aside0.mk (Kd.R_at hq_ HO_8.out); have n1_ := Aside0.mk (below_at hq_ HB.out); clear hq_ HO_8 HB; have HO_8 := n0_; have HB := n1_; clear n0_ n1_; (try (have HP17 := Kd.R_putg HO_8.out (x32_1 : Int) a1)))); refine store_event (t := 2) (p := 38) (v := ?vo_w18) (w1 := (wr.setCell ⟨go16, (x32_1 : Int).toNat, none⟩ (.int .i64 a1))) ?hg ?ho ?hn ?hr ?_; (case ho => rfl); (case hg => rfl); (case hn => rfl); (case hr => first | (go_simp; done) | (go_simp; rfl)); intro w18 hw; have hg : wr.grownBy w18 (some go16) := (by rw [hw]; exact HP17.2); have hp_ : Kd.R (Kd.int .i64) 2 w18 w.heap.size (fun _ => True) (.slice (some ⟨go16, 0, none⟩) x8_1.length co12) y267 := (by rw [hw, Ny267.out]; exact HP17.1); clear HP17; have n0_ := Aside0.mk (hp_); have n1_ := Aside0.mk ((by rw [hw]; exact below_set (HB.out) GB16.out : Below w.heap.size w w18)); clear HO_8; clear HB; have HO_8 := n0_; have HB := n1_; clear n0_ n1_; clear hg hw hp_)); try go_wp2_with (first | ((with_reducible refine gate_store (t := 2) (p := 38) rfl ?_); (try (rw [drewN_self wr]; generalize hq_ : World.drewN wr _ = wr; have n0_ := Aside0.mk (Kd.R_at hq_ HO_8.out); have n1_ := Aside0.mk (below_at hq_ HB.out); clear hq_ HO_8 HB; have HO_8 := n0_; have HB := n1_; clear n0_ n1_; (try (have HP17 := Kd.R_putg HO_8.out (x32_1 : Int) a1)))); refine store_event (t := 2) (p := 38) (v := ?vo_w18) (w1 := (wr.setCell ⟨go16, (x32_1 : Int).toNat, none⟩ (.int .i64 a1))) ?hg ?ho ?hn ?hr ?_; (case ho => rfl); (case hg => rfl); (case hn => rfl); (case hr => first | (go_simp; done) | (go_simp; rfl)); intro w18 hw; have hg : wr.grownBy w18 (some go16) := (by rw [hw]; exact HP17.2); have hp_ : Kd.R (Kd.int .i64) 2 w18 w.heap.size (fun _ => True) (.slice (some ⟨go16, 0, none⟩) x8_1.length co12) y267 := (by rw [hw, Ny267.out]; exact HP17.1); clear HP17; have n0_ := Aside0.mk (hp_); have n1_ := Aside0.mk ((by rw [hw]; exact below_set (HB.out) GB16.out : Below w.heap.size w w18)); clear HO_8; clear HB; have HO_8 := n0_; have HB := n1_; clear n0_ n1_; clear hg hw hp_)))
                  (try simp only [← hl8_1])
                  go_roundg k1
                  case measure => have := HK1.out; omega
                  case rel => exact ⟨(y267), (wrap64 (x32_1 + 1)), (by first | rfl | (simp; done) | (simp [*]; done)), H', ⟨by have := HK1.out; omega⟩, ⟨by (try simp only [hl8_1]); (with_reducible repeat (first | apply Kd.R_alloc | apply Kd.R_drewN | apply Kd.R_drew)); exact HO_8.out⟩, ⟨by repeat (first | (with_reducible first | exact HB.out | apply below_alloc | apply pw_below_drewN | apply below_drew1) | exact HB.out)⟩⟩
                · rw [if_neg c15] at H
                  exact absurd H (by simp)
              · rw [if_neg c14] at H
                exact absurd H (by simp)
            · rw [if_neg c13] at H
              have c13b0 : decide (x32_1 < (y264.length : Int)) = false := decide_eq_false c13; have c13c0 : decide (x32_1 < (x8_1.length : Int)) = false := (by rw [← hl8_1]; exact c13b0)
              clear c13
              replace H := Option.bind_eq_some_iff.mp H
              obtain ⟨⟨t268, t269⟩, A190, H⟩ := H
              replace H : (if t269 = 0 then (thrumlaw13_TableOne.j1 k1 (Int.tmod (wrap64 ((Int.tmod a0 31) + 31)) 31) a1 ji6 true t268 ((t268.length : Int) != ji6)) else (thrumlaw13_TableOne.j1 k1 (Int.tmod (wrap64 ((Int.tmod a0 31) + 31)) 31) a1 ji6 true t268 true)) = some r := H
              have A19 := Aside0.mk A190
              clear A190
              have HC20 := Aside0.mk H
              clear H
              go_upto_region 13 with (first | (go_at_call 50; (with_reducible refine (table_Soft.calls (Int.tmod (wrap64 ((Int.tmod a0 31) + 31)) 31) _ _ x8_1 t268 t269 _ ?side1 ?side2 A19.out).mono ?_); (case side1 => repeat (first | exact (Kd.R_reads' HO_8.out).2.2 | (with_reducible refine Kd.C_alloc ?_ _) | (with_reducible refine Kd.C_drewN ?_ _) | (with_reducible refine Kd.C_drew ?_))); (case side2 => exact (Kd.R_reads' HO_8.out).2.1); rintro e w21 ⟨v270, rfl, ho0, hb⟩; have n0_ := Aside0.mk (Kd.R_elder' (by (with_reducible repeat (first | apply Kd.R_alloc | apply Kd.R_drewN | apply Kd.R_drew)); exact HO_8.out) (Kd.R_base ho0) hb); have n1_ := Aside0.mk (Kd.R_lower (Kd.R_new' ho0 (Kd.R_lt (by (with_reducible repeat (first | apply Kd.R_alloc | apply Kd.R_drewN | apply Kd.R_drew)); exact HO_8.out))) (below_size (by repeat (first | (with_reducible first | exact HB.out | apply below_alloc | apply pw_below_drewN | apply below_drew1) | exact HB.out)))); have n2_ := Aside0.mk (below_step (by repeat (first | (with_reducible first | exact HB.out | apply below_alloc | apply pw_below_drewN | apply below_drew1) | exact HB.out)) hb); clear HO_8; clear HB; have HO_8 := n0_; have HO271 := n1_; have HB := n2_; clear n0_ n1_ n2_; (try clear hb); (try clear hb2); (try clear hk); (try clear hi); (try clear ho0)))
              repeat (go_quiet (first | (go_at_call 50; (with_reducible refine (table_Soft.calls (Int.tmod (wrap64 ((Int.tmod a0 31) + 31)) 31) _ _ x8_1 t268 t269 _ ?side1 ?side2 A19.out).mono ?_); (case side1 => repeat (first | exact (Kd.R_reads' HO_8.out).2.2 | (with_reducible refine Kd.C_alloc ?_ _) | (with_reducible refine Kd.C_drewN ?_ _) | (with_reducible refine Kd.C_drew ?_))); (case side2 => exact (Kd.R_reads' HO_8.out).2.1); rintro e w21 ⟨v270, rfl, ho0, hb⟩; have n0_ := Aside0.mk (Kd.R_elder' (by (with_reducible repeat (first | apply Kd.R_alloc | apply Kd.R_drewN | apply Kd.R_drew)); exact HO_8.out) (Kd.R_base ho0) hb); have n1_ := Aside0.mk (Kd.R_lower (Kd.R_new' ho0 (Kd.R_lt (by (with_reducible repeat (first | apply Kd.R_alloc | apply Kd.R_drewN | apply Kd.R_drew)); exact HO_8.out))) (below_size (by repeat (first | (with_reducible first | exact HB.out | apply below_alloc | apply pw_below_drewN | apply below_drew1) | exact HB.out)))); have n2_ := Aside0.mk (below_step (by repeat (first | (with_reducible first | exact HB.out | apply below_alloc | apply pw_below_drewN | apply below_drew1) | exact HB.out)) hb); clear HO_8; clear HB; have HO_8 := n0_; have HO271 := n1_; have HB := n2_; clear n0_ n1_ n2_; (try clear hb); (try clear hb2); (try clear hk); (try clear hi); (try clear ho0))); go_upto_region 13 with (first | (go_at_call 50; (with_reducible refine (table_Soft.calls (Int.tmod (wrap64 ((Int.tmod a0 31) + 31)) 31) _ _ x8_1 t268 t269 _ ?side1 ?side2 A19.out).mono ?_); (case side1 => repeat (first | exact (Kd.R_reads' HO_8.out).2.2 | (with_reducible refine Kd.C_alloc ?_ _) | (with_reducible refine Kd.C_drewN ?_ _) | (with_reducible refine Kd.C_drew ?_))); (case side2 => exact (Kd.R_reads' HO_8.out).2.1); rintro e w21 ⟨v270, rfl, ho0, hb⟩; have n0_ := Aside0.mk (Kd.R_elder' (by (with_reducible repeat (first | apply Kd.R_alloc | apply Kd.R_drewN | apply Kd.R_drew)); exact HO_8.out) (Kd.R_base ho0) hb); have n1_ := Aside0.mk (Kd.R_lower (Kd.R_new' ho0 (Kd.R_lt (by (with_reducible repeat (first | apply Kd.R_alloc | apply Kd.R_drewN | apply Kd.R_drew)); exact HO_8.out))) (below_size (by repeat (first | (with_reducible first | exact HB.out | apply below_alloc | apply pw_below_drewN | apply below_drew1) | exact HB.out)))); have n2_ := Aside0.mk (below_step (by repeat (first | (with_reducible first | exact HB.out | apply below_alloc | apply pw_below_drewN | apply below_drew1) | exact HB.out)) hb); clear HO_8; clear HB; have HO_8 := n0_; have HO271 := n1_; have HB := n2_; clear n0_ n1_ n2_; (try clear hb); (try clear hb2); (try clear hk); (try clear hi); (try clear ho0))))
              (try simp only [Act.put, List.setIfInBounds_toArray, List.set_cons_zero, List.set_cons_succ])
              go_cut [53] (fun v53 wc => ∃ (kq : Nat) (x53_19 : Bool), v53 = .bool x53_19 ∧ Aside0 (thrumlaw13_TableOne.j1 kq (Int.tmod (wrap64 ((Int.tmod a0 31) + 31)) 31) a1 ji6 true t268 x53_19 = some r) ∧ Aside0 (kq ≤ k1) ∧ Aside0 (Kd.R (Kd.int .i64) 2 wc w.heap.size (fun _ => True) v270 t268) ∧ Aside0 (Below w.heap.size w wc))
              case first =>
                have H := HC20.out
                clear HC20
                by_cases c22 : t269 = 0
                · rw [if_pos c22] at H
                  have c22b0 : (t269 == 0) = true := beq_iff_eq.mpr c22
                  have c22b1 : (t269 != 0) = false := bne_eq_false_iff_eq.mpr c22
                  clear c22
                  (first | rw [c22b0] | (simp only [i64_w, i32_w]; rw [c22b0]) | skip)
                  have H' := Aside0.mk H
                  clear H
                  obtain ⟨Ao23, co23, eo23⟩ := Kd.R_slice HO271.out
                  subst eo23
                  go_wp2
                  repeat (go_quiet (fail); try go_wp2)
                  go_meet
                  case rel => exact ⟨_, (((t268.length : Int) != ji6)), (by first | rfl | (simp; done) | (simp only [← hji6] <;> (first | rfl | simp)) | (simp [*]; done)), H', ⟨by have := HK1.out; first | omega | exact Nat.le_refl _⟩, ⟨by (try simp only [hl8_1]); (with_reducible repeat (first | apply Kd.R_alloc | apply Kd.R_drewN | apply Kd.R_drew)); exact Kd.R_mono HO271.out (fun _ hk => trivial)⟩, ⟨by repeat (first | (with_reducible first | exact HB.out | apply below_alloc | apply pw_below_drewN | apply below_drew1) | exact HB.out)⟩⟩
                · rw [if_neg c22] at H
                  have c22b0 : (t269 == 0) = false := beq_eq_false_iff_ne.mpr c22
                  have c22b1 : (t269 != 0) = true := bne_iff_ne.mpr c22
                  (first | rw [c22b0] | (simp only [i64_w, i32_w]; rw [c22b0]) | skip)
                  have H' := Aside0.mk H
                  clear H
                  go_wp2
                  repeat (go_quiet (fail); try go_wp2)
                  go_meet
                  case rel => exact ⟨_, (true), (by first | rfl | (simp; done) | (simp [*]; done)), H', ⟨by have := HK1.out; first | omega | exact Nat.le_refl _⟩, ⟨by (try simp only [hl8_1]); (with_reducible repeat (first | apply Kd.R_alloc | apply Kd.R_drewN | apply Kd.R_drew)); exact Kd.R_mono HO271.out (fun _ hk => trivial)⟩, ⟨by repeat (first | (with_reducible first | exact HB.out | apply below_alloc | apply pw_below_drewN | apply below_drew1) | exact HB.out)⟩⟩
              case rest =>
                clear HC20
                try clear c1
                try clear p1
                try clear q1
                try clear hx1
                try clear c2
                try clear p2
                try clear c5
                try clear p6
                try clear c7
                try clear c7b0
                try clear c7b1
                try clear c8
                try clear c8b0
                try clear c8b1
                try clear c9
                try clear c13
                try clear c13b0
                try clear c14
                try clear c14b0
                try clear c15
                try clear c15b0
                try clear p16
                try clear q16
                try clear hx16
                try clear hf16
                try clear c22
                try clear c22b0
                try clear c22b1
                try clear hx16_0
                try clear p16
                try clear p2
                try clear p6
                try clear q16
                obtain ⟨kq, x53_19, rfl, HA, HJ19, HO_10, HB⟩ := hcut
                cases kq with
                | zero => exact absurd HA.out (by simp [thrumlaw13_TableOne.j1])
                | succ kj19 =>
                  have H := HA.out
                  clear HA
                  simp only [thrumlaw13_TableOne.j1] at H
                  by_cases c24 : x53_19 = true
                  · subst c24
                    have H1 : (some false) = some r := by rw [if_pos rfl] at H; exact H
                    clear H
                    have H := H1
                    clear H1
                    obtain rfl := Option.some.inj H
                    go_wp2
                    repeat (go_quiet (fail); try go_wp2)
                    go_ret
                    exact ⟨by first | rfl | (simp [errW_none, errW_some] <;> rfl) | (simp only [← hji6]; first | rfl | (simp [errW_none, errW_some] <;> rfl)) | (simp [*, errW_none, errW_some] <;> rfl), by repeat (first | (with_reducible first | exact HB.out | apply below_alloc | apply pw_below_drewN | apply below_drew1) | exact HB.out)⟩
                  · replace c24 := Bool.eq_false_iff.mpr c24
                    subst c24
                    have H1 : (thrumlaw13_TableOne.l1 kj19 (Int.tmod (wrap64 ((Int.tmod a0 31) + 31)) 31) a1 ji6 true t268 (t268.length : Int) 0) = some r := by rw [if_neg (show ¬ (false = true) by decide)] at H; exact H
                    clear H
                    have H := H1
                    clear H1
                    have H' := Aside0.mk H
                    clear H
                    obtain ⟨Ao25, co25, eo25⟩ := Kd.R_slice HO_10.out
                    subst eo25
                    go_wp2
                    repeat (go_quiet (fail); try go_wp2)
                    go_loopg [56] kj19 (fun kq v56 w' => ∃ (x56_3 : Int), v56 = .int .i64 x56_3 ∧ Aside0 (thrumlaw13_TableOne.l1 kq (Int.tmod (wrap64 ((Int.tmod a0 31) + 31)) 31) a1 ji6 true t268 (t268.length : Int) x56_3 = some r) ∧ Aside0 (kq ≤ kj19) ∧ Aside0 (Kd.R (Kd.int .i64) 2 w' w.heap.size (fun _ => True) (.slice Ao25 t268.length co25) t268) ∧ Aside0 (Below w.heap.size w w'))
                    case atStart => exact ⟨(0), (by first | rfl | (simp; done) | (simp [*]; done)), H', ⟨Nat.le_refl _⟩, ⟨by (try simp only [hl8_1]); (with_reducible repeat (first | apply Kd.R_alloc | apply Kd.R_drewN | apply Kd.R_drew)); exact HO_10.out⟩, ⟨by repeat (first | (with_reducible first | exact HB.out | apply below_alloc | apply pw_below_drewN | apply below_drew1) | exact HB.out)⟩⟩
                    case round =>
                      clear H'
                      try clear c1
                      try clear p1
                      try clear q1
                      try clear hx1
                      try clear c2
                      try clear p2
                      try clear c5
                      try clear p6
                      try clear c7
                      try clear c7b0
                      try clear c7b1
                      try clear c8
                      try clear c8b0
                      try clear c8b1
                      try clear c9
                      try clear c13
                      try clear c13b0
                      try clear c14
                      try clear c14b0
                      try clear c15
                      try clear c15b0
                      try clear p16
                      try clear q16
                      try clear hx16
                      try clear hf16
                      try clear c22
                      try clear c22b0
                      try clear c22b1
                      try clear c24
                      try clear hx16_0
                      try clear p1
                      try clear p16
                      try clear p2
                      try clear p6
                      try clear q1
                      try clear q16
                      obtain ⟨x56_3, rfl, HA, HK3, HO_54, HB⟩ := hrel
                      cases gk with
                      | zero => exact absurd HA.out (by simp [thrumlaw13_TableOne.l1])
                      | succ k3 =>
                        have H := HA.out
                        clear HA
                        simp only [thrumlaw13_TableOne.l1] at H
                        by_cases c26 : x56_3 < (t268.length : Int)
                        · rw [if_pos c26] at H
                          have c26b0 : decide (x56_3 < (t268.length : Int)) = true := decide_eq_true c26
                          clear c26
                          by_cases c27 : 0 ≤ x56_3
                          · rw [if_pos c27] at H
                            have c27b0 : decide (0 ≤ x56_3) = true := decide_eq_true c27
                            clear c27
                            by_cases c28 : x56_3 < (t268.length : Int)
                            · rw [if_pos c28] at H
                              have c28b0 : decide (x56_3 < (t268.length : Int)) = true := decide_eq_true c28
                              clear c28
                              obtain ⟨ji29, hji29⟩ : ∃ j_ : Int, (Int.tmod (wrap64 ((Int.tmod a0 31) + 31)) 31) = j_ := ⟨_, rfl⟩
                              replace H : (if 0 ≤ (ji29) then (if ji6 = 0 then (none) else (if (rd t268 x56_3) = (wrap64 (Int.tdiv (shl .i64 1 (ji29)) ji6)) then (thrumlaw13_TableOne.l1 k3 (ji29) a1 ji6 true t268 (t268.length : Int) (wrap64 (x56_3 + 1))) else (some false))) else (none)) = some r := by first | (rw [hji29] at H; exact H) | (simp only [hji29] at H ⊢; exact H)
                              by_cases c30 : 0 ≤ (ji29)
                              · rw [if_pos c30] at H
                                have c30b0 := eq_true c30
                                have c30b1 : decide (0 ≤ (ji29)) = true := decide_eq_true c30
                                clear c30
                                obtain ⟨ji31, hji31⟩ : ∃ j_ : Int, (shl .i64 1 (ji29)) = j_ := ⟨_, rfl⟩
                                replace H : (if ji6 = 0 then (none) else (if (rd t268 x56_3) = (wrap64 (Int.tdiv (ji31) ji6)) then (thrumlaw13_TableOne.l1 k3 (ji29) a1 ji6 true t268 (t268.length : Int) (wrap64 (x56_3 + 1))) else (some false))) = some r := by first | (rw [hji31] at H; exact H) | (simp only [hji31] at H ⊢; exact H)
                                have hji31_ : (IntKind.i64.wrap (1 * 2 ^ min (ji29).toNat 64)) = ji31 := hji31
                                have hji31z : (ji29) ≤ 64 → (IntKind.i64.wrap (1 * 2 ^ (ji29).toNat)) = ji31 := shl_small hji31
                                have hji31u : (IntKind.i64.wrap (2 ^ min (ji29).toNat 64)) = ji31 := by have h_ := hji31_; rw [Int.one_mul] at h_; exact h_
                                have hji31v : (ji29) ≤ 64 → (IntKind.i64.wrap (2 ^ (ji29).toNat)) = ji31 := fun hle_ => by have h_ := hji31z hle_; rw [Int.one_mul] at h_; exact h_
                                have hji31y : (wrap64 (1 * 2 ^ min (ji29).toNat 64)) = ji31 := (i64_w _).symm.trans hji31_
                                have hji31x : (ji29) ≤ 64 → (wrap64 (1 * 2 ^ (ji29).toNat)) = ji31 := fun h_ => (i64_w _).symm.trans (hji31z h_)
                                by_cases c32 : ji6 = 0
                                · rw [if_pos c32] at H
                                  exact absurd H (by simp)
                                · rw [if_neg c32] at H
                                  have c32b0 : (ji6 == 0) = false := beq_eq_false_iff_ne.mpr c32
                                  have c32b1 : (ji6 != 0) = true := bne_iff_ne.mpr c32
                                  by_cases c33 : (rd t268 x56_3) = (wrap64 (Int.tdiv (ji31) ji6))
                                  · rw [if_pos c33] at H
                                    have c33b0 : ((rd t268 x56_3) == (wrap64 (Int.tdiv (ji31) ji6))) = true := beq_iff_eq.mpr c33
                                    have c33b1 : ((rd t268 x56_3) != (wrap64 (Int.tdiv (ji31) ji6))) = false := bne_eq_false_iff_eq.mpr c33
                                    clear c33
                                    have H' := Aside0.mk H
                                    clear H
                                    have p272 : 0 ≤ (x56_3 : Int) := of_decide_eq_true (by first | (with_reducible assumption) | assumption)
                                    have q272 : x56_3 < (t268.length : Int) := of_decide_eq_true (by first | (with_reducible assumption) | assumption)
                                    obtain ⟨ad272, e272, hx272_0⟩ := Kd.at_int (Kd.R_reads' HO_54.out).2.2 x56_3 p272 q272
                                    cases e272
                                    replace p272 := eq_true p272
                                    replace q272 := eq_true q272
                                    go_wp2
                                    repeat (go_quiet (fail); try go_wp2)
                                    go_roundg k3
                                    case measure => have := HK1.out; have := HJ19.out; have := HK3.out; omega
                                    case rel => exact ⟨(wrap64 (x56_3 + 1)), (by first | rfl | (simp; done) | (simp [*]; done)), (by first | exact H' | (rw [hji29]; exact H')), ⟨by have := HK1.out; have := HJ19.out; have := HK3.out; omega⟩, ⟨by (try simp only [hl8_1]); (with_reducible repeat (first | apply Kd.R_alloc | apply Kd.R_drewN | apply Kd.R_drew)); exact HO_54.out⟩, ⟨by repeat (first | (with_reducible first | exact HB.out | apply below_alloc | apply pw_below_drewN | apply below_drew1) | exact HB.out)⟩⟩
                                  · rw [if_neg c33] at H
                                    have c33b0 : ((rd t268 x56_3) == (wrap64 (Int.tdiv (ji31) ji6))) = false := beq_eq_false_iff_ne.mpr c33
                                    have c33b1 : ((rd t268 x56_3) != (wrap64 (Int.tdiv (ji31) ji6))) = true := bne_iff_ne.mpr c33
                                    obtain rfl := Option.some.inj H
                                    have p272 : 0 ≤ (x56_3 : Int) := of_decide_eq_true (by first | (with_reducible assumption) | assumption)
                                    have q272 : x56_3 < (t268.length : Int) := of_decide_eq_true (by first | (with_reducible assumption) | assumption)
                                    obtain ⟨ad272, e272, hx272_0⟩ := Kd.at_int (Kd.R_reads' HO_54.out).2.2 x56_3 p272 q272
                                    cases e272
                                    replace p272 := eq_true p272
                                    replace q272 := eq_true q272
                                    go_wp2
                                    repeat (go_quiet (fail); try go_wp2)
                                    go_ret
                                    exact ⟨by first | rfl | (simp [errW_none, errW_some] <;> rfl) | (simp only [← hji6, ← hji29, ← hji31]; first | rfl | (simp [errW_none, errW_some] <;> rfl)) | (simp [*, errW_none, errW_some] <;> rfl), by repeat (first | (with_reducible first | exact HB.out | apply below_alloc | apply pw_below_drewN | apply below_drew1) | exact HB.out)⟩
                              · rw [if_neg c30] at H
                                exact absurd H (by simp)
                            · rw [if_neg c28] at H
                              exact absurd H (by simp)
                          · rw [if_neg c27] at H
                            exact absurd H (by simp)
                        · rw [if_neg c26] at H
                          have c26b0 : decide (x56_3 < (t268.length : Int)) = false := decide_eq_false c26; (try simp only [hl8_1] at c26b0)
                          clear c26
                          by_cases c34 : a1 < (-2305843009213693952)
                          · rw [if_pos c34] at H
                            have c34b0 : decide (a1 < (-2305843009213693952)) = true := decide_eq_true c34
                            clear c34
                            obtain rfl := Option.some.inj H
                            go_wp2
                            repeat (go_quiet (fail); try go_wp2)
                            go_ret
                            exact ⟨by first | rfl | (simp [errW_none, errW_some] <;> rfl) | (simp only [← hji6]; first | rfl | (simp [errW_none, errW_some] <;> rfl)) | (simp [*, errW_none, errW_some] <;> rfl), by repeat (first | (with_reducible first | exact HB.out | apply below_alloc | apply pw_below_drewN | apply below_drew1) | exact HB.out)⟩
                          · rw [if_neg c34] at H
                            have c34b0 : decide (a1 < (-2305843009213693952)) = false := decide_eq_false c34
                            clear c34
                            obtain ⟨ji35, hji35⟩ : ∃ j_ : Int, (Int.tmod (wrap64 ((Int.tmod a0 31) + 31)) 31) = j_ := ⟨_, rfl⟩
                            replace H : (if 0 ≤ (ji35) then ((table_Soft.f (ji35) (([a1, wrap64 (a1 - (shl .i64 64 (ji35)))] : List Int))).bind fun bt276 => (if true = true then (if bt276.2 = 0 then (if (bt276.1.length : Int) = 2 then (if 0 < (bt276.1.length : Int) then (if (rd bt276.1 0) = (shl .i64 1 (ji35)) then (if 1 < (bt276.1.length : Int) then (some ((rd bt276.1 1) == 0)) else (none)) else (some false)) else (none)) else (some false)) else (some false)) else (some false))) else (none)) = some r := by first | (rw [hji35] at H; exact H) | (simp only [hji35] at H ⊢; exact H)
                            by_cases c36 : 0 ≤ (ji35)
                            · rw [if_pos c36] at H
                              have c36b0 := eq_true c36
                              have c36b1 : decide (0 ≤ (ji35)) = true := decide_eq_true c36
                              clear c36
                              obtain ⟨ji37, hji37⟩ : ∃ j_ : Int, (shl .i64 64 (ji35)) = j_ := ⟨_, rfl⟩
                              replace H : ((table_Soft.f (ji35) (([a1, wrap64 (a1 - (ji37))] : List Int))).bind fun bt276 => (if true = true then (if bt276.2 = 0 then (if (bt276.1.length : Int) = 2 then (if 0 < (bt276.1.length : Int) then (if (rd bt276.1 0) = (shl .i64 1 (ji35)) then (if 1 < (bt276.1.length : Int) then (some ((rd bt276.1 1) == 0)) else (none)) else (some false)) else (none)) else (some false)) else (some false)) else (some false))) = some r := by first | (rw [hji37] at H; exact H) | (simp only [hji37] at H ⊢; exact H)
                              have hji37_ : (IntKind.i64.wrap (64 * 2 ^ min (ji35).toNat 64)) = ji37 := hji37
                              have hji37z : (ji35) ≤ 64 → (IntKind.i64.wrap (64 * 2 ^ (ji35).toNat)) = ji37 := shl_small hji37
                              have hji37y : (wrap64 (64 * 2 ^ min (ji35).toNat 64)) = ji37 := (i64_w _).symm.trans hji37_
                              have hji37x : (ji35) ≤ 64 → (wrap64 (64 * 2 ^ (ji35).toNat)) = ji37 := fun h_ => (i64_w _).symm.trans (hji37z h_)
                              obtain ⟨y273, hy273⟩ : ∃ y_ : List Int, y_ = (([a1, wrap64 (a1 - (ji37))] : List Int)) := ⟨_, rfl⟩
                              replace H : ((table_Soft.f (ji35) y273).bind fun bt276 => (if true = true then (if bt276.2 = 0 then (if (bt276.1.length : Int) = 2 then (if 0 < (bt276.1.length : Int) then (if (rd bt276.1 0) = (shl .i64 1 (ji35)) then (if 1 < (bt276.1.length : Int) then (some ((rd bt276.1 1) == 0)) else (none)) else (some false)) else (none)) else (some false)) else (some false)) else (some false))) = some r := by first | (rw [hy273]; with_reducible exact H) | (have H2_ := (Option.bind_some _ _).symm.trans H; rw [hy273]; with_reducible exact H2_) | (have H2_ := (Option.bind_some _ _).symm.trans H; with_reducible exact H2_) | with_reducible exact H | (rw [hy273]; exact H) | exact H
                              have Ny273 := Aside0.mk hy273
                              clear hy273
                              replace H := Option.bind_eq_some_iff.mp H
                              obtain ⟨⟨t276, t277⟩, A380, H⟩ := H
                              replace H : (if true = true then (if t277 = 0 then (if (t276.length : Int) = 2 then (if 0 < (t276.length : Int) then (if (rd t276 0) = (shl .i64 1 (ji35)) then (if 1 < (t276.length : Int) then (some ((rd t276 1) == 0)) else (none)) else (some false)) else (none)) else (some false)) else (some false)) else (some false)) = some r := H
                              have A38 := Aside0.mk A380
                              clear A380
                              rw [if_pos rfl] at H
                              by_cases c39 : t277 = 0
                              · rw [if_pos c39] at H
                                have c39b0 : (t277 == 0) = true := beq_iff_eq.mpr c39
                                have c39b1 : (t277 != 0) = false := bne_eq_false_iff_eq.mpr c39
                                clear c39
                                by_cases c40 : (t276.length : Int) = 2
                                · rw [if_pos c40] at H
                                  have c40b0 : ((t276.length : Int) == 2) = true := beq_iff_eq.mpr c40
                                  have c40b1 : ((t276.length : Int) != 2) = false := bne_eq_false_iff_eq.mpr c40
                                  clear c40
                                  by_cases c41 : 0 < (t276.length : Int)
                                  · rw [if_pos c41] at H
                                    have c41b0 : decide (0 < (t276.length : Int)) = true := decide_eq_true c41
                                    have c41b1 : decide (0 < t276.length) = true := decide_eq_true (by omega)
                                    clear c41
                                    have c42b0 := eq_true (of_decide_eq_true (by first | (with_reducible assumption) | assumption) : 0 ≤ (ji35))
                                    obtain ⟨ji43, hji43⟩ : ∃ j_ : Int, (shl .i64 1 (ji35)) = j_ := ⟨_, rfl⟩
                                    replace H : (if (rd t276 0) = (ji43) then (if 1 < (t276.length : Int) then (some ((rd t276 1) == 0)) else (none)) else (some false)) = some r := by first | (rw [hji43] at H; exact H) | (simp only [hji43] at H ⊢; exact H)
                                    (try rw [hji43] at A38)
                                    have hji43_ : (IntKind.i64.wrap (1 * 2 ^ min (ji35).toNat 64)) = ji43 := hji43
                                    have hji43z : (ji35) ≤ 64 → (IntKind.i64.wrap (1 * 2 ^ (ji35).toNat)) = ji43 := shl_small hji43
                                    have hji43u : (IntKind.i64.wrap (2 ^ min (ji35).toNat 64)) = ji43 := by have h_ := hji43_; rw [Int.one_mul] at h_; exact h_
                                    have hji43v : (ji35) ≤ 64 → (IntKind.i64.wrap (2 ^ (ji35).toNat)) = ji43 := fun hle_ => by have h_ := hji43z hle_; rw [Int.one_mul] at h_; exact h_
                                    have hji43y : (wrap64 (1 * 2 ^ min (ji35).toNat 64)) = ji43 := (i64_w _).symm.trans hji43_
                                    have hji43x : (ji35) ≤ 64 → (wrap64 (1 * 2 ^ (ji35).toNat)) = ji43 := fun h_ => (i64_w _).symm.trans (hji43z h_)
                                    by_cases c44 : (rd t276 0) = (ji43)
                                    · rw [if_pos c44] at H
                                      have c44b0 : ((rd t276 0) == (ji43)) = true := beq_iff_eq.mpr c44
                                      have c44b1 : ((rd t276 0) != (ji43)) = false := bne_eq_false_iff_eq.mpr c44
                                      clear c44
                                      by_cases c45 : 1 < (t276.length : Int)
                                      · rw [if_pos c45] at H
                                        have c45b0 : decide (1 < (t276.length : Int)) = true := decide_eq_true c45
                                        have c45b1 : decide (1 < t276.length) = true := decide_eq_true (by omega)
                                        clear c45
                                        obtain rfl := Option.some.inj H
                                        go_wp2_with (first | ((with_reducible refine gate_dst (N := 77) rfl ?_); (try (refine gate_guard (by rfl) ?_; dsimp only)); refine Kd.R_lit (Kd.int .i64) _ 2 ?hg (N := 77) ?hd (xs := ([a1, wrap64 (a1 - (ji37))] : List Int)) (inner := [.int .i64 a1, .int .i64 (wrap64 (a1 - (ji37)))]) (ok := fun _ => True) (okp := fun _ => True) ?hr ?hp (fun _ hk => hk) trivial (Below.refl _ _) (Nat.le_refl _) (by simp) ?_; (case hd => rfl); (case hg => rfl); (case hr => first | (go_simp; done) | (go_simp; rfl)); (case hp => exact (Reps.one (show Kd.M (Kd.int .i64) _ _ _ a1 [.int .i64 a1] from rfl) (Reps.one (show Kd.M (Kd.int .i64) _ _ _ (wrap64 (a1 - (ji37))) [.int .i64 (wrap64 (a1 - (ji37)))] from rfl) (Reps.none _ _)))); intro v274 w46 ho47 hb hg_ hnew_; clear hg_ hnew_; (first | rw [← Ny273.out] at ho47 | (simp only [Int.reduceToNat] at ho47; rw [← Ny273.out] at ho47)); have n0_ := Aside0.mk (Kd.R_elder' (by (with_reducible repeat (first | apply Kd.R_alloc | apply Kd.R_drewN | apply Kd.R_drew)); exact HO_54.out) (Kd.R_base ho47) hb); have n1_ := Aside0.mk (Kd.R_lower (Kd.R_new' ho47 (Kd.R_lt (by (with_reducible repeat (first | apply Kd.R_alloc | apply Kd.R_drewN | apply Kd.R_drew)); exact HO_54.out))) (below_size (by repeat (first | (with_reducible first | exact HB.out | apply below_alloc | apply pw_below_drewN | apply below_drew1) | exact HB.out)))); have n2_ := Aside0.mk (below_step (by repeat (first | (with_reducible first | exact HB.out | apply below_alloc | apply pw_below_drewN | apply below_drew1) | exact HB.out)) hb); clear HO_54; clear HB; have HO_54 := n0_; have HO275 := n1_; have HB := n2_; clear n0_ n1_ n2_; clear hb ho47; obtain ⟨Ao48, co48, eo48⟩ := Kd.R_slice HO275.out; subst eo48) | (go_at_call 50; (with_reducible refine (table_Soft.calls (ji35) _ _ y273 t276 t277 _ ?side1 ?side2 A38.out).mono ?_); (case side1 => repeat (first | exact (Kd.R_reads' HO275.out).2.2 | (with_reducible refine Kd.C_alloc ?_ _) | (with_reducible refine Kd.C_drewN ?_ _) | (with_reducible refine Kd.C_drew ?_))); (case side2 => exact (Kd.R_reads' HO275.out).2.1); rintro e w49 ⟨v278, rfl, ho0, hb⟩; have n0_ := Aside0.mk (Kd.R_elder' (by (with_reducible repeat (first | apply Kd.R_alloc | apply Kd.R_drewN | apply Kd.R_drew)); exact HO_54.out) (Kd.R_base ho0) hb); have n1_ := Aside0.mk (Kd.R_elder' (by (with_reducible repeat (first | apply Kd.R_alloc | apply Kd.R_drewN | apply Kd.R_drew)); exact HO275.out) (Kd.R_base ho0) hb); have n2_ := Aside0.mk (Kd.R_lower (Kd.R_new' (Kd.R_new' ho0 (Kd.R_lt (by (with_reducible repeat (first | apply Kd.R_alloc | apply Kd.R_drewN | apply Kd.R_drew)); exact HO_54.out))) (Kd.R_lt (by (with_reducible repeat (first | apply Kd.R_alloc | apply Kd.R_drewN | apply Kd.R_drew)); exact HO275.out))) (below_size (by repeat (first | (with_reducible first | exact HB.out | apply below_alloc | apply pw_below_drewN | apply below_drew1) | exact HB.out)))); have n3_ := Aside0.mk (below_step (by repeat (first | (with_reducible first | exact HB.out | apply below_alloc | apply pw_below_drewN | apply below_drew1) | exact HB.out)) hb); clear HO_54; clear HO275; clear HB; have HO_54 := n0_; have HO275 := n1_; have HO279 := n2_; have HB := n3_; clear n0_ n1_ n2_ n3_; (try clear hb); (try clear hb2); (try clear hk); (try clear hi); (try clear ho0); obtain ⟨Ao50, co50, eo50⟩ := Kd.R_slice HO279.out; subst eo50; have p280 : 0 ≤ (0 : Int) := (by omega); have q280 : 0 < (t276.length : Int) := of_decide_eq_true (by first | (with_reducible assumption) | assumption); obtain ⟨ad280, e280, hx280_0⟩ := Kd.at_int (Kd.R_reads' HO279.out).2.2 0 p280 q280; cases e280; have qi280 : (0 < t276.length) = True := eq_true (by omega); (try rw [show ((0 : Int)).toNat = 0 from rfl] at hx280_0); (try rw [Addr.add_zero'] at hx280_0); replace p280 := eq_true p280; replace q280 := eq_true q280; have p281 : 0 ≤ (1 : Int) := (by omega); have q281 : 1 < (t276.length : Int) := of_decide_eq_true (by first | (with_reducible assumption) | assumption); obtain ⟨ad281, e281, hx281_0⟩ := Kd.at_int (Kd.R_reads' HO279.out).2.2 1 p281 q281; obtain rfl : ad280 = ad281 := (by injection e281); (try simp only [show (1 : Int).toNat = 1 from rfl, Nat.reduceMul, Nat.reduceEqDiff, Go.Addr.add, ↓reduceIte] at hx281_0); have qi281 : (1 < t276.length) = True := eq_true (by omega); (try rw [show ((1 : Int)).toNat = 1 from rfl] at hx281_0); replace p281 := eq_true p281; replace q281 := eq_true q281))
                                        repeat (go_quiet (first | ((with_reducible refine gate_dst (N := 77) rfl ?_); (try (refine gate_guard (by rfl) ?_; dsimp only)); refine Kd.R_lit (Kd.int .i64) _ 2 ?hg (N := 77) ?hd (xs := ([a1, wrap64 (a1 - (ji37))] : List Int)) (inner := [.int .i64 a1, .int .i64 (wrap64 (a1 - (ji37)))]) (ok := fun _ => True) (okp := fun _ => True) ?hr ?hp (fun _ hk => hk) trivial (Below.refl _ _) (Nat.le_refl _) (by simp) ?_; (case hd => rfl); (case hg => rfl); (case hr => first | (go_simp; done) | (go_simp; rfl)); (case hp => exact (Reps.one (show Kd.M (Kd.int .i64) _ _ _ a1 [.int .i64 a1] from rfl) (Reps.one (show Kd.M (Kd.int .i64) _ _ _ (wrap64 (a1 - (ji37))) [.int .i64 (wrap64 (a1 - (ji37)))] from rfl) (Reps.none _ _)))); intro v274 w46 ho47 hb hg_ hnew_; clear hg_ hnew_; (first | rw [← Ny273.out] at ho47 | (simp only [Int.reduceToNat] at ho47; rw [← Ny273.out] at ho47)); have n0_ := Aside0.mk (Kd.R_elder' (by (with_reducible repeat (first | apply Kd.R_alloc | apply Kd.R_drewN | apply Kd.R_drew)); exact HO_54.out) (Kd.R_base ho47) hb); have n1_ := Aside0.mk (Kd.R_lower (Kd.R_new' ho47 (Kd.R_lt (by (with_reducible repeat (first | apply Kd.R_alloc | apply Kd.R_drewN | apply Kd.R_drew)); exact HO_54.out))) (below_size (by repeat (first | (with_reducible first | exact HB.out | apply below_alloc | apply pw_below_drewN | apply below_drew1) | exact HB.out)))); have n2_ := Aside0.mk (below_step (by repeat (first | (with_reducible first | exact HB.out | apply below_alloc | apply pw_below_drewN | apply below_drew1) | exact HB.out)) hb); clear HO_54; clear HB; have HO_54 := n0_; have HO275 := n1_; have HB := n2_; clear n0_ n1_ n2_; clear hb ho47; obtain ⟨Ao48, co48, eo48⟩ := Kd.R_slice HO275.out; subst eo48) | (go_at_call 50; (with_reducible refine (table_Soft.calls (ji35) _ _ y273 t276 t277 _ ?side1 ?side2 A38.out).mono ?_); (case side1 => repeat (first | exact (Kd.R_reads' HO275.out).2.2 | (with_reducible refine Kd.C_alloc ?_ _) | (with_reducible refine Kd.C_drewN ?_ _) | (with_reducible refine Kd.C_drew ?_))); (case side2 => exact (Kd.R_reads' HO275.out).2.1); rintro e w49 ⟨v278, rfl, ho0, hb⟩; have n0_ := Aside0.mk (Kd.R_elder' (by (with_reducible repeat (first | apply Kd.R_alloc | apply Kd.R_drewN | apply Kd.R_drew)); exact HO_54.out) (Kd.R_base ho0) hb); have n1_ := Aside0.mk (Kd.R_elder' (by (with_reducible repeat (first | apply Kd.R_alloc | apply Kd.R_drewN | apply Kd.R_drew)); exact HO275.out) (Kd.R_base ho0) hb); have n2_ := Aside0.mk (Kd.R_lower (Kd.R_new' (Kd.R_new' ho0 (Kd.R_lt (by (with_reducible repeat (first | apply Kd.R_alloc | apply Kd.R_drewN | apply Kd.R_drew)); exact HO_54.out))) (Kd.R_lt (by (with_reducible repeat (first | apply Kd.R_alloc | apply Kd.R_drewN | apply Kd.R_drew)); exact HO275.out))) (below_size (by repeat (first | (with_reducible first | exact HB.out | apply below_alloc | apply pw_below_drewN | apply below_drew1) | exact HB.out)))); have n3_ := Aside0.mk (below_step (by repeat (first | (with_reducible first | exact HB.out | apply below_alloc | apply pw_below_drewN | apply below_drew1) | exact HB.out)) hb); clear HO_54; clear HO275; clear HB; have HO_54 := n0_; have HO275 := n1_; have HO279 := n2_; have HB := n3_; clear n0_ n1_ n2_ n3_; (try clear hb); (try clear hb2); (try clear hk); (try clear hi); (try clear ho0); obtain ⟨Ao50, co50, eo50⟩ := Kd.R_slice HO279.out; subst eo50; have p280 : 0 ≤ (0 : Int) := (by omega); have q280 : 0 < (t276.length : Int) := of_decide_eq_true (by first | (with_reducible assumption) | assumption); obtain ⟨ad280, e280, hx280_0⟩ := Kd.at_int (Kd.R_reads' HO279.out).2.2 0 p280 q280; cases e280; have qi280 : (0 < t276.length) = True := eq_true (by omega); (try rw [show ((0 : Int)).toNat = 0 from rfl] at hx280_0); (try rw [Addr.add_zero'] at hx280_0); replace p280 := eq_true p280; replace q280 := eq_true q280; have p281 : 0 ≤ (1 : Int) := (by omega); have q281 : 1 < (t276.length : Int) := of_decide_eq_true (by first | (with_reducible assumption) | assumption); obtain ⟨ad281, e281, hx281_0⟩ := Kd.at_int (Kd.R_reads' HO279.out).2.2 1 p281 q281; obtain rfl : ad280 = ad281 := (by injection e281); (try simp only [show (1 : Int).toNat = 1 from rfl, Nat.reduceMul, Nat.reduceEqDiff, Go.Addr.add, ↓reduceIte] at hx281_0); have qi281 : (1 < t276.length) = True := eq_true (by omega); (try rw [show ((1 : Int)).toNat = 1 from rfl] at hx281_0); replace p281 := eq_true p281; replace q281 := eq_true q281)); try go_wp2_with (first | ((with_reducible refine gate_dst (N := 77) rfl ?_); (try (refine gate_guard (by rfl) ?_; dsimp only)); refine Kd.R_lit (Kd.int .i64) _ 2 ?hg (N := 77) ?hd (xs := ([a1, wrap64 (a1 - (ji37))] : List Int)) (inner := [.int .i64 a1, .int .i64 (wrap64 (a1 - (ji37)))]) (ok := fun _ => True) (okp := fun _ => True) ?hr ?hp (fun _ hk => hk) trivial (Below.refl _ _) (Nat.le_refl _) (by simp) ?_; (case hd => rfl); (case hg => rfl); (case hr => first | (go_simp; done) | (go_simp; rfl)); (case hp => exact (Reps.one (show Kd.M (Kd.int .i64) _ _ _ a1 [.int .i64 a1] from rfl) (Reps.one (show Kd.M (Kd.int .i64) _ _ _ (wrap64 (a1 - (ji37))) [.int .i64 (wrap64 (a1 - (ji37)))] from rfl) (Reps.none _ _)))); intro v274 w46 ho47 hb hg_ hnew_; clear hg_ hnew_; (first | rw [← Ny273.out] at ho47 | (simp only [Int.reduceToNat] at ho47; rw [← Ny273.out] at ho47)); have n0_ := Aside0.mk (Kd.R_elder' (by (with_reducible repeat (first | apply Kd.R_alloc | apply Kd.R_drewN | apply Kd.R_drew)); exact HO_54.out) (Kd.R_base ho47) hb); have n1_ := Aside0.mk (Kd.R_lower (Kd.R_new' ho47 (Kd.R_lt (by (with_reducible repeat (first | apply Kd.R_alloc | apply Kd.R_drewN | apply Kd.R_drew)); exact HO_54.out))) (below_size (by repeat (first | (with_reducible first | exact HB.out | apply below_alloc | apply pw_below_drewN | apply below_drew1) | exact HB.out)))); have n2_ := Aside0.mk (below_step (by repeat (first | (with_reducible first | exact HB.out | apply below_alloc | apply pw_below_drewN | apply below_drew1) | exact HB.out)) hb); clear HO_54; clear HB; have HO_54 := n0_; have HO275 := n1_; have HB := n2_; clear n0_ n1_ n2_; clear hb ho47; obtain ⟨Ao48, co48, eo48⟩ := Kd.R_slice HO275.out; subst eo48) | (go_at_call 50; (with_reducible refine (table_Soft.calls (ji35) _ _ y273 t276 t277 _ ?side1 ?side2 A38.out).mono ?_); (case side1 => repeat (first | exact (Kd.R_reads' HO275.out).2.2 | (with_reducible refine Kd.C_alloc ?_ _) | (with_reducible refine Kd.C_drewN ?_ _) | (with_reducible refine Kd.C_drew ?_))); (case side2 => exact (Kd.R_reads' HO275.out).2.1); rintro e w49 ⟨v278, rfl, ho0, hb⟩; have n0_ := Aside0.mk (Kd.R_elder' (by (with_reducible repeat (first | apply Kd.R_alloc | apply Kd.R_drewN | apply Kd.R_drew)); exact HO_54.out) (Kd.R_base ho0) hb); have n1_ := Aside0.mk (Kd.R_elder' (by (with_reducible repeat (first | apply Kd.R_alloc | apply Kd.R_drewN | apply Kd.R_drew)); exact HO275.out) (Kd.R_base ho0) hb); have n2_ := Aside0.mk (Kd.R_lower (Kd.R_new' (Kd.R_new' ho0 (Kd.R_lt (by (with_reducible repeat (first | apply Kd.R_alloc | apply Kd.R_drewN | apply Kd.R_drew)); exact HO_54.out))) (Kd.R_lt (by (with_reducible repeat (first | apply Kd.R_alloc | apply Kd.R_drewN | apply Kd.R_drew)); exact HO275.out))) (below_size (by repeat (first | (with_reducible first | exact HB.out | apply below_alloc | apply pw_below_drewN | apply below_drew1) | exact HB.out)))); have n3_ := Aside0.mk (below_step (by repeat (first | (with_reducible first | exact HB.out | apply below_alloc | apply pw_below_drewN | apply below_drew1) | exact HB.out)) hb); clear HO_54; clear HO275; clear HB; have HO_54 := n0_; have HO275 := n1_; have HO279 := n2_; have HB := n3_; clear n0_ n1_ n2_ n3_; (try clear hb); (try clear hb2); (try clear hk); (try clear hi); (try clear ho0); obtain ⟨Ao50, co50, eo50⟩ := Kd.R_slice HO279.out; subst eo50; have p280 : 0 ≤ (0 : Int) := (by omega); have q280 : 0 < (t276.length : Int) := of_decide_eq_true (by first | (with_reducible assumption) | assumption); obtain ⟨ad280, e280, hx280_0⟩ := Kd.at_int (Kd.R_reads' HO279.out).2.2 0 p280 q280; cases e280; have qi280 : (0 < t276.length) = True := eq_true (by omega); (try rw [show ((0 : Int)).toNat = 0 from rfl] at hx280_0); (try rw [Addr.add_zero'] at hx280_0); replace p280 := eq_true p280; replace q280 := eq_true q280; have p281 : 0 ≤ (1 : Int) := (by omega); have q281 : 1 < (t276.length : Int) := of_decide_eq_true (by first | (with_reducible assumption) | assumption); obtain ⟨ad281, e281, hx281_0⟩ := Kd.at_int (Kd.R_reads' HO279.out).2.2 1 p281 q281; obtain rfl : ad280 = ad281 := (by injection e281); (try simp only [show (1 : Int).toNat = 1 from rfl, Nat.reduceMul, Nat.reduceEqDiff, Go.Addr.add, ↓reduceIte] at hx281_0); have qi281 : (1 < t276.length) = True := eq_true (by omega); (try rw [show ((1 : Int)).toNat = 1 from rfl] at hx281_0); replace p281 := eq_true p281; replace q281 := eq_true q281)))
                                        go_ret
                                        exact ⟨by first | rfl | (simp [errW_none, errW_some] <;> rfl) | (simp only [← hji6, ← hji35, ← hji37, ← hji43]; first | rfl | (simp [errW_none, errW_some] <;> rfl)) | (simp [*, errW_none, errW_some] <;> rfl), by repeat (first | (with_reducible first | exact HB.out | apply below_alloc | apply pw_below_drewN | apply below_drew1) | exact HB.out)⟩
                                      · rw [if_neg c45] at H
                                        exact absurd H (by simp)
                                    · rw [if_neg c44] at H
                                      have c44b0 : ((rd t276 0) == (ji43)) = false := beq_eq_false_iff_ne.mpr c44
                                      have c44b1 : ((rd t276 0) != (ji43)) = true := bne_iff_ne.mpr c44
                                      obtain rfl := Option.some.inj H
                                      go_wp2_with (first | ((with_reducible refine gate_dst (N := 77) rfl ?_); (try (refine gate_guard (by rfl) ?_; dsimp only)); refine Kd.R_lit (Kd.int .i64) _ 2 ?hg (N := 77) ?hd (xs := ([a1, wrap64 (a1 - (ji37))] : List Int)) (inner := [.int .i64 a1, .int .i64 (wrap64 (a1 - (ji37)))]) (ok := fun _ => True) (okp := fun _ => True) ?hr ?hp (fun _ hk => hk) trivial (Below.refl _ _) (Nat.le_refl _) (by simp) ?_; (case hd => rfl); (case hg => rfl); (case hr => first | (go_simp; done) | (go_simp; rfl)); (case hp => exact (Reps.one (show Kd.M (Kd.int .i64) _ _ _ a1 [.int .i64 a1] from rfl) (Reps.one (show Kd.M (Kd.int .i64) _ _ _ (wrap64 (a1 - (ji37))) [.int .i64 (wrap64 (a1 - (ji37)))] from rfl) (Reps.none _ _)))); intro v274 w51 ho52 hb hg_ hnew_; clear hg_ hnew_; (first | rw [← Ny273.out] at ho52 | (simp only [Int.reduceToNat] at ho52; rw [← Ny273.out] at ho52)); have n0_ := Aside0.mk (Kd.R_elder' (by (with_reducible repeat (first | apply Kd.R_alloc | apply Kd.R_drewN | apply Kd.R_drew)); exact HO_54.out) (Kd.R_base ho52) hb); have n1_ := Aside0.mk (Kd.R_lower (Kd.R_new' ho52 (Kd.R_lt (by (with_reducible repeat (first | apply Kd.R_alloc | apply Kd.R_drewN | apply Kd.R_drew)); exact HO_54.out))) (below_size (by repeat (first | (with_reducible first | exact HB.out | apply below_alloc | apply pw_below_drewN | apply below_drew1) | exact HB.out)))); have n2_ := Aside0.mk (below_step (by repeat (first | (with_reducible first | exact HB.out | apply below_alloc | apply pw_below_drewN | apply below_drew1) | exact HB.out)) hb); clear HO_54; clear HB; have HO_54 := n0_; have HO275 := n1_; have HB := n2_; clear n0_ n1_ n2_; clear hb ho52; obtain ⟨Ao53, co53, eo53⟩ := Kd.R_slice HO275.out; subst eo53) | (go_at_call 50; (with_reducible refine (table_Soft.calls (ji35) _ _ y273 t276 t277 _ ?side1 ?side2 A38.out).mono ?_); (case side1 => repeat (first | exact (Kd.R_reads' HO275.out).2.2 | (with_reducible refine Kd.C_alloc ?_ _) | (with_reducible refine Kd.C_drewN ?_ _) | (with_reducible refine Kd.C_drew ?_))); (case side2 => exact (Kd.R_reads' HO275.out).2.1); rintro e w54 ⟨v278, rfl, ho0, hb⟩; have n0_ := Aside0.mk (Kd.R_elder' (by (with_reducible repeat (first | apply Kd.R_alloc | apply Kd.R_drewN | apply Kd.R_drew)); exact HO_54.out) (Kd.R_base ho0) hb); have n1_ := Aside0.mk (Kd.R_elder' (by (with_reducible repeat (first | apply Kd.R_alloc | apply Kd.R_drewN | apply Kd.R_drew)); exact HO275.out) (Kd.R_base ho0) hb); have n2_ := Aside0.mk (Kd.R_lower (Kd.R_new' (Kd.R_new' ho0 (Kd.R_lt (by (with_reducible repeat (first | apply Kd.R_alloc | apply Kd.R_drewN | apply Kd.R_drew)); exact HO_54.out))) (Kd.R_lt (by (with_reducible repeat (first | apply Kd.R_alloc | apply Kd.R_drewN | apply Kd.R_drew)); exact HO275.out))) (below_size (by repeat (first | (with_reducible first | exact HB.out | apply below_alloc | apply pw_below_drewN | apply below_drew1) | exact HB.out)))); have n3_ := Aside0.mk (below_step (by repeat (first | (with_reducible first | exact HB.out | apply below_alloc | apply pw_below_drewN | apply below_drew1) | exact HB.out)) hb); clear HO_54; clear HO275; clear HB; have HO_54 := n0_; have HO275 := n1_; have HO279 := n2_; have HB := n3_; clear n0_ n1_ n2_ n3_; (try clear hb); (try clear hb2); (try clear hk); (try clear hi); (try clear ho0); obtain ⟨Ao55, co55, eo55⟩ := Kd.R_slice HO279.out; subst eo55; have p280 : 0 ≤ (0 : Int) := (by omega); have q280 : 0 < (t276.length : Int) := of_decide_eq_true (by first | (with_reducible assumption) | assumption); obtain ⟨ad280, e280, hx280_0⟩ := Kd.at_int (Kd.R_reads' HO279.out).2.2 0 p280 q280; cases e280; have qi280 : (0 < t276.length) = True := eq_true (by omega); (try rw [show ((0 : Int)).toNat = 0 from rfl] at hx280_0); (try rw [Addr.add_zero'] at hx280_0); replace p280 := eq_true p280; replace q280 := eq_true q280))
                                      repeat (go_quiet (first | ((with_reducible refine gate_dst (N := 77) rfl ?_); (try (refine gate_guard (by rfl) ?_; dsimp only)); refine Kd.R_lit (Kd.int .i64) _ 2 ?hg (N := 77) ?hd (xs := ([a1, wrap64 (a1 - (ji37))] : List Int)) (inner := [.int .i64 a1, .int .i64 (wrap64 (a1 - (ji37)))]) (ok := fun _ => True) (okp := fun _ => True) ?hr ?hp (fun _ hk => hk) trivial (Below.refl _ _) (Nat.le_refl _) (by simp) ?_; (case hd => rfl); (case hg => rfl); (case hr => first | (go_simp; done) | (go_simp; rfl)); (case hp => exact (Reps.one (show Kd.M (Kd.int .i64) _ _ _ a1 [.int .i64 a1] from rfl) (Reps.one (show Kd.M (Kd.int .i64) _ _ _ (wrap64 (a1 - (ji37))) [.int .i64 (wrap64 (a1 - (ji37)))] from rfl) (Reps.none _ _)))); intro v274 w51 ho52 hb hg_ hnew_; clear hg_ hnew_; (first | rw [← Ny273.out] at ho52 | (simp only [Int.reduceToNat] at ho52; rw [← Ny273.out] at ho52)); have n0_ := Aside0.mk (Kd.R_elder' (by (with_reducible repeat (first | apply Kd.R_alloc | apply Kd.R_drewN | apply Kd.R_drew)); exact HO_54.out) (Kd.R_base ho52) hb); have n1_ := Aside0.mk (Kd.R_lower (Kd.R_new' ho52 (Kd.R_lt (by (with_reducible repeat (first | apply Kd.R_alloc | apply Kd.R_drewN | apply Kd.R_drew)); exact HO_54.out))) (below_size (by repeat (first | (with_reducible first | exact HB.out | apply below_alloc | apply pw_below_drewN | apply below_drew1) | exact HB.out)))); have n2_ := Aside0.mk (below_step (by repeat (first | (with_reducible first | exact HB.out | apply below_alloc | apply pw_below_drewN | apply below_drew1) | exact HB.out)) hb); clear HO_54; clear HB; have HO_54 := n0_; have HO275 := n1_; have HB := n2_; clear n0_ n1_ n2_; clear hb ho52; obtain ⟨Ao53, co53, eo53⟩ := Kd.R_slice HO275.out; subst eo53) | (go_at_call 50; (with_reducible refine (table_Soft.calls (ji35) _ _ y273 t276 t277 _ ?side1 ?side2 A38.out).mono ?_); (case side1 => repeat (first | exact (Kd.R_reads' HO275.out).2.2 | (with_reducible refine Kd.C_alloc ?_ _) | (with_reducible refine Kd.C_drewN ?_ _) | (with_reducible refine Kd.C_drew ?_))); (case side2 => exact (Kd.R_reads' HO275.out).2.1); rintro e w54 ⟨v278, rfl, ho0, hb⟩; have n0_ := Aside0.mk (Kd.R_elder' (by (with_reducible repeat (first | apply Kd.R_alloc | apply Kd.R_drewN | apply Kd.R_drew)); exact HO_54.out) (Kd.R_base ho0) hb); have n1_ := Aside0.mk (Kd.R_elder' (by (with_reducible repeat (first | apply Kd.R_alloc | apply Kd.R_drewN | apply Kd.R_drew)); exact HO275.out) (Kd.R_base ho0) hb); have n2_ := Aside0.mk (Kd.R_lower (Kd.R_new' (Kd.R_new' ho0 (Kd.R_lt (by (with_reducible repeat (first | apply Kd.R_alloc | apply Kd.R_drewN | apply Kd.R_drew)); exact HO_54.out))) (Kd.R_lt (by (with_reducible repeat (first | apply Kd.R_alloc | apply Kd.R_drewN | apply Kd.R_drew)); exact HO275.out))) (below_size (by repeat (first | (with_reducible first | exact HB.out | apply below_alloc | apply pw_below_drewN | apply below_drew1) | exact HB.out)))); have n3_ := Aside0.mk (below_step (by repeat (first | (with_reducible first | exact HB.out | apply below_alloc | apply pw_below_drewN | apply below_drew1) | exact HB.out)) hb); clear HO_54; clear HO275; clear HB; have HO_54 := n0_; have HO275 := n1_; have HO279 := n2_; have HB := n3_; clear n0_ n1_ n2_ n3_; (try clear hb); (try clear hb2); (try clear hk); (try clear hi); (try clear ho0); obtain ⟨Ao55, co55, eo55⟩ := Kd.R_slice HO279.out; subst eo55; have p280 : 0 ≤ (0 : Int) := (by omega); have q280 : 0 < (t276.length : Int) := of_decide_eq_true (by first | (with_reducible assumption) | assumption); obtain ⟨ad280, e280, hx280_0⟩ := Kd.at_int (Kd.R_reads' HO279.out).2.2 0 p280 q280; cases e280; have qi280 : (0 < t276.length) = True := eq_true (by omega); (try rw [show ((0 : Int)).toNat = 0 from rfl] at hx280_0); (try rw [Addr.add_zero'] at hx280_0); replace p280 := eq_true p280; replace q280 := eq_true q280)); try go_wp2_with (first | ((with_reducible refine gate_dst (N := 77) rfl ?_); (try (refine gate_guard (by rfl) ?_; dsimp only)); refine Kd.R_lit (Kd.int .i64) _ 2 ?hg (N := 77) ?hd (xs := ([a1, wrap64 (a1 - (ji37))] : List Int)) (inner := [.int .i64 a1, .int .i64 (wrap64 (a1 - (ji37)))]) (ok := fun _ => True) (okp := fun _ => True) ?hr ?hp (fun _ hk => hk) trivial (Below.refl _ _) (Nat.le_refl _) (by simp) ?_; (case hd => rfl); (case hg => rfl); (case hr => first | (go_simp; done) | (go_simp; rfl)); (case hp => exact (Reps.one (show Kd.M (Kd.int .i64) _ _ _ a1 [.int .i64 a1] from rfl) (Reps.one (show Kd.M (Kd.int .i64) _ _ _ (wrap64 (a1 - (ji37))) [.int .i64 (wrap64 (a1 - (ji37)))] from rfl) (Reps.none _ _)))); intro v274 w51 ho52 hb hg_ hnew_; clear hg_ hnew_; (first | rw [← Ny273.out] at ho52 | (simp only [Int.reduceToNat] at ho52; rw [← Ny273.out] at ho52)); have n0_ := Aside0.mk (Kd.R_elder' (by (with_reducible repeat (first | apply Kd.R_alloc | apply Kd.R_drewN | apply Kd.R_drew)); exact HO_54.out) (Kd.R_base ho52) hb); have n1_ := Aside0.mk (Kd.R_lower (Kd.R_new' ho52 (Kd.R_lt (by (with_reducible repeat (first | apply Kd.R_alloc | apply Kd.R_drewN | apply Kd.R_drew)); exact HO_54.out))) (below_size (by repeat (first | (with_reducible first | exact HB.out | apply below_alloc | apply pw_below_drewN | apply below_drew1) | exact HB.out)))); have n2_ := Aside0.mk (below_step (by repeat (first | (with_reducible first | exact HB.out | apply below_alloc | apply pw_below_drewN | apply below_drew1) | exact HB.out)) hb); clear HO_54; clear HB; have HO_54 := n0_; have HO275 := n1_; have HB := n2_; clear n0_ n1_ n2_; clear hb ho52; obtain ⟨Ao53, co53, eo53⟩ := Kd.R_slice HO275.out; subst eo53) | (go_at_call 50; (with_reducible refine (table_Soft.calls (ji35) _ _ y273 t276 t277 _ ?side1 ?side2 A38.out).mono ?_); (case side1 => repeat (first | exact (Kd.R_reads' HO275.out).2.2 | (with_reducible refine Kd.C_alloc ?_ _) | (with_reducible refine Kd.C_drewN ?_ _) | (with_reducible refine Kd.C_drew ?_))); (case side2 => exact (Kd.R_reads' HO275.out).2.1); rintro e w54 ⟨v278, rfl, ho0, hb⟩; have n0_ := Aside0.mk (Kd.R_elder' (by (with_reducible repeat (first | apply Kd.R_alloc | apply Kd.R_drewN | apply Kd.R_drew)); exact HO_54.out) (Kd.R_base ho0) hb); have n1_ := Aside0.mk (Kd.R_elder' (by (with_reducible repeat (first | apply Kd.R_alloc | apply Kd.R_drewN | apply Kd.R_drew)); exact HO275.out) (Kd.R_base ho0) hb); have n2_ := Aside0.mk (Kd.R_lower (Kd.R_new' (Kd.R_new' ho0 (Kd.R_lt (by (with_reducible repeat (first | apply Kd.R_alloc | apply Kd.R_drewN | apply Kd.R_drew)); exact HO_54.out))) (Kd.R_lt (by (with_reducible repeat (first | apply Kd.R_alloc | apply Kd.R_drewN | apply Kd.R_drew)); exact HO275.out))) (below_size (by repeat (first | (with_reducible first | exact HB.out | apply below_alloc | apply pw_below_drewN | apply below_drew1) | exact HB.out)))); have n3_ := Aside0.mk (below_step (by repeat (first | (with_reducible first | exact HB.out | apply below_alloc | apply pw_below_drewN | apply below_drew1) | exact HB.out)) hb); clear HO_54; clear HO275; clear HB; have HO_54 := n0_; have HO275 := n1_; have HO279 := n2_; have HB := n3_; clear n0_ n1_ n2_ n3_; (try clear hb); (try clear hb2); (try clear hk); (try clear hi); (try clear ho0); obtain ⟨Ao55, co55, eo55⟩ := Kd.R_slice HO279.out; subst eo55; have p280 : 0 ≤ (0 : Int) := (by omega); have q280 : 0 < (t276.length : Int) := of_decide_eq_true (by first | (with_reducible assumption) | assumption); obtain ⟨ad280, e280, hx280_0⟩ := Kd.at_int (Kd.R_reads' HO279.out).2.2 0 p280 q280; cases e280; have qi280 : (0 < t276.length) = True := eq_true (by omega); (try rw [show ((0 : Int)).toNat = 0 from rfl] at hx280_0); (try rw [Addr.add_zero'] at hx280_0); replace p280 := eq_true p280; replace q280 := eq_true q280)))
                                      go_ret
                                      exact ⟨by first | rfl | (simp [errW_none, errW_some] <;> rfl) | (simp only [← hji6, ← hji35, ← hji37, ← hji43]; first | rfl | (simp [errW_none, errW_some] <;> rfl)) | (simp [*, errW_none, errW_some] <;> rfl), by repeat (first | (with_reducible first | exact HB.out | apply below_alloc | apply pw_below_drewN | apply below_drew1) | exact HB.out)⟩
                                  · rw [if_neg c41] at H
                                    exact absurd H (by simp)
                                · rw [if_neg c40] at H
                                  have c40b0 : ((t276.length : Int) == 2) = false := beq_eq_false_iff_ne.mpr c40
                                  have c40b1 : ((t276.length : Int) != 2) = true := bne_iff_ne.mpr c40
                                  obtain rfl := Option.some.inj H
                                  go_wp2_with (first | ((with_reducible refine gate_dst (N := 77) rfl ?_); (try (refine gate_guard (by rfl) ?_; dsimp only)); refine Kd.R_lit (Kd.int .i64) _ 2 ?hg (N := 77) ?hd (xs := ([a1, wrap64 (a1 - (ji37))] : List Int)) (inner := [.int .i64 a1, .int .i64 (wrap64 (a1 - (ji37)))]) (ok := fun _ => True) (okp := fun _ => True) ?hr ?hp (fun _ hk => hk) trivial (Below.refl _ _) (Nat.le_refl _) (by simp) ?_; (case hd => rfl); (case hg => rfl); (case hr => first | (go_simp; done) | (go_simp; rfl)); (case hp => exact (Reps.one (show Kd.M (Kd.int .i64) _ _ _ a1 [.int .i64 a1] from rfl) (Reps.one (show Kd.M (Kd.int .i64) _ _ _ (wrap64 (a1 - (ji37))) [.int .i64 (wrap64 (a1 - (ji37)))] from rfl) (Reps.none _ _)))); intro v274 w56 ho57 hb hg_ hnew_; clear hg_ hnew_; (first | rw [← Ny273.out] at ho57 | (simp only [Int.reduceToNat] at ho57; rw [← Ny273.out] at ho57)); have n0_ := Aside0.mk (Kd.R_elder' (by (with_reducible repeat (first | apply Kd.R_alloc | apply Kd.R_drewN | apply Kd.R_drew)); exact HO_54.out) (Kd.R_base ho57) hb); have n1_ := Aside0.mk (Kd.R_lower (Kd.R_new' ho57 (Kd.R_lt (by (with_reducible repeat (first | apply Kd.R_alloc | apply Kd.R_drewN | apply Kd.R_drew)); exact HO_54.out))) (below_size (by repeat (first | (with_reducible first | exact HB.out | apply below_alloc | apply pw_below_drewN | apply below_drew1) | exact HB.out)))); have n2_ := Aside0.mk (below_step (by repeat (first | (with_reducible first | exact HB.out | apply below_alloc | apply pw_below_drewN | apply below_drew1) | exact HB.out)) hb); clear HO_54; clear HB; have HO_54 := n0_; have HO275 := n1_; have HB := n2_; clear n0_ n1_ n2_; clear hb ho57; obtain ⟨Ao58, co58, eo58⟩ := Kd.R_slice HO275.out; subst eo58) | (go_at_call 50; (with_reducible refine (table_Soft.calls (ji35) _ _ y273 t276 t277 _ ?side1 ?side2 A38.out).mono ?_); (case side1 => repeat (first | exact (Kd.R_reads' HO275.out).2.2 | (with_reducible refine Kd.C_alloc ?_ _) | (with_reducible refine Kd.C_drewN ?_ _) | (with_reducible refine Kd.C_drew ?_))); (case side2 => exact (Kd.R_reads' HO275.out).2.1); rintro e w59 ⟨v278, rfl, ho0, hb⟩; have n0_ := Aside0.mk (Kd.R_elder' (by (with_reducible repeat (first | apply Kd.R_alloc | apply Kd.R_drewN | apply Kd.R_drew)); exact HO_54.out) (Kd.R_base ho0) hb); have n1_ := Aside0.mk (Kd.R_elder' (by (with_reducible repeat (first | apply Kd.R_alloc | apply Kd.R_drewN | apply Kd.R_drew)); exact HO275.out) (Kd.R_base ho0) hb); have n2_ := Aside0.mk (Kd.R_lower (Kd.R_new' (Kd.R_new' ho0 (Kd.R_lt (by (with_reducible repeat (first | apply Kd.R_alloc | apply Kd.R_drewN | apply Kd.R_drew)); exact HO_54.out))) (Kd.R_lt (by (with_reducible repeat (first | apply Kd.R_alloc | apply Kd.R_drewN | apply Kd.R_drew)); exact HO275.out))) (below_size (by repeat (first | (with_reducible first | exact HB.out | apply below_alloc | apply pw_below_drewN | apply below_drew1) | exact HB.out)))); have n3_ := Aside0.mk (below_step (by repeat (first | (with_reducible first | exact HB.out | apply below_alloc | apply pw_below_drewN | apply below_drew1) | exact HB.out)) hb); clear HO_54; clear HO275; clear HB; have HO_54 := n0_; have HO275 := n1_; have HO279 := n2_; have HB := n3_; clear n0_ n1_ n2_ n3_; (try clear hb); (try clear hb2); (try clear hk); (try clear hi); (try clear ho0); obtain ⟨Ao60, co60, eo60⟩ := Kd.R_slice HO279.out; subst eo60))
                                  repeat (go_quiet (first | ((with_reducible refine gate_dst (N := 77) rfl ?_); (try (refine gate_guard (by rfl) ?_; dsimp only)); refine Kd.R_lit (Kd.int .i64) _ 2 ?hg (N := 77) ?hd (xs := ([a1, wrap64 (a1 - (ji37))] : List Int)) (inner := [.int .i64 a1, .int .i64 (wrap64 (a1 - (ji37)))]) (ok := fun _ => True) (okp := fun _ => True) ?hr ?hp (fun _ hk => hk) trivial (Below.refl _ _) (Nat.le_refl _) (by simp) ?_; (case hd => rfl); (case hg => rfl); (case hr => first | (go_simp; done) | (go_simp; rfl)); (case hp => exact (Reps.one (show Kd.M (Kd.int .i64) _ _ _ a1 [.int .i64 a1] from rfl) (Reps.one (show Kd.M (Kd.int .i64) _ _ _ (wrap64 (a1 - (ji37))) [.int .i64 (wrap64 (a1 - (ji37)))] from rfl) (Reps.none _ _)))); intro v274 w56 ho57 hb hg_ hnew_; clear hg_ hnew_; (first | rw [← Ny273.out] at ho57 | (simp only [Int.reduceToNat] at ho57; rw [← Ny273.out] at ho57)); have n0_ := Aside0.mk (Kd.R_elder' (by (with_reducible repeat (first | apply Kd.R_alloc | apply Kd.R_drewN | apply Kd.R_drew)); exact HO_54.out) (Kd.R_base ho57) hb); have n1_ := Aside0.mk (Kd.R_lower (Kd.R_new' ho57 (Kd.R_lt (by (with_reducible repeat (first | apply Kd.R_alloc | apply Kd.R_drewN | apply Kd.R_drew)); exact HO_54.out))) (below_size (by repeat (first | (with_reducible first | exact HB.out | apply below_alloc | apply pw_below_drewN | apply below_drew1) | exact HB.out)))); have n2_ := Aside0.mk (below_step (by repeat (first | (with_reducible first | exact HB.out | apply below_alloc | apply pw_below_drewN | apply below_drew1) | exact HB.out)) hb); clear HO_54; clear HB; have HO_54 := n0_; have HO275 := n1_; have HB := n2_; clear n0_ n1_ n2_; clear hb ho57; obtain ⟨Ao58, co58, eo58⟩ := Kd.R_slice HO275.out; subst eo58) | (go_at_call 50; (with_reducible refine (table_Soft.calls (ji35) _ _ y273 t276 t277 _ ?side1 ?side2 A38.out).mono ?_); (case side1 => repeat (first | exact (Kd.R_reads' HO275.out).2.2 | (with_reducible refine Kd.C_alloc ?_ _) | (with_reducible refine Kd.C_drewN ?_ _) | (with_reducible refine Kd.C_drew ?_))); (case side2 => exact (Kd.R_reads' HO275.out).2.1); rintro e w59 ⟨v278, rfl, ho0, hb⟩; have n0_ := Aside0.mk (Kd.R_elder' (by (with_reducible repeat (first | apply Kd.R_alloc | apply Kd.R_drewN | apply Kd.R_drew)); exact HO_54.out) (Kd.R_base ho0) hb); have n1_ := Aside0.mk (Kd.R_elder' (by (with_reducible repeat (first | apply Kd.R_alloc | apply Kd.R_drewN | apply Kd.R_drew)); exact HO275.out) (Kd.R_base ho0) hb); have n2_ := Aside0.mk (Kd.R_lower (Kd.R_new' (Kd.R_new' ho0 (Kd.R_lt (by (with_reducible repeat (first | apply Kd.R_alloc | apply Kd.R_drewN | apply Kd.R_drew)); exact HO_54.out))) (Kd.R_lt (by (with_reducible repeat (first | apply Kd.R_alloc | apply Kd.R_drewN | apply Kd.R_drew)); exact HO275.out))) (below_size (by repeat (first | (with_reducible first | exact HB.out | apply below_alloc | apply pw_below_drewN | apply below_drew1) | exact HB.out)))); have n3_ := Aside0.mk (below_step (by repeat (first | (with_reducible first | exact HB.out | apply below_alloc | apply pw_below_drewN | apply below_drew1) | exact HB.out)) hb); clear HO_54; clear HO275; clear HB; have HO_54 := n0_; have HO275 := n1_; have HO279 := n2_; have HB := n3_; clear n0_ n1_ n2_ n3_; (try clear hb); (try clear hb2); (try clear hk); (try clear hi); (try clear ho0); obtain ⟨Ao60, co60, eo60⟩ := Kd.R_slice HO279.out; subst eo60)); try go_wp2_with (first | ((with_reducible refine gate_dst (N := 77) rfl ?_); (try (refine gate_guard (by rfl) ?_; dsimp only)); refine Kd.R_lit (Kd.int .i64) _ 2 ?hg (N := 77) ?hd (xs := ([a1, wrap64 (a1 - (ji37))] : List Int)) (inner := [.int .i64 a1, .int .i64 (wrap64 (a1 - (ji37)))]) (ok := fun _ => True) (okp := fun _ => True) ?hr ?hp (fun _ hk => hk) trivial (Below.refl _ _) (Nat.le_refl _) (by simp) ?_; (case hd => rfl); (case hg => rfl); (case hr => first | (go_simp; done) | (go_simp; rfl)); (case hp => exact (Reps.one (show Kd.M (Kd.int .i64) _ _ _ a1 [.int .i64 a1] from rfl) (Reps.one (show Kd.M (Kd.int .i64) _ _ _ (wrap64 (a1 - (ji37))) [.int .i64 (wrap64 (a1 - (ji37)))] from rfl) (Reps.none _ _)))); intro v274 w56 ho57 hb hg_ hnew_; clear hg_ hnew_; (first | rw [← Ny273.out] at ho57 | (simp only [Int.reduceToNat] at ho57; rw [← Ny273.out] at ho57)); have n0_ := Aside0.mk (Kd.R_elder' (by (with_reducible repeat (first | apply Kd.R_alloc | apply Kd.R_drewN | apply Kd.R_drew)); exact HO_54.out) (Kd.R_base ho57) hb); have n1_ := Aside0.mk (Kd.R_lower (Kd.R_new' ho57 (Kd.R_lt (by (with_reducible repeat (first | apply Kd.R_alloc | apply Kd.R_drewN | apply Kd.R_drew)); exact HO_54.out))) (below_size (by repeat (first | (with_reducible first | exact HB.out | apply below_alloc | apply pw_below_drewN | apply below_drew1) | exact HB.out)))); have n2_ := Aside0.mk (below_step (by repeat (first | (with_reducible first | exact HB.out | apply below_alloc | apply pw_below_drewN | apply below_drew1) | exact HB.out)) hb); clear HO_54; clear HB; have HO_54 := n0_; have HO275 := n1_; have HB := n2_; clear n0_ n1_ n2_; clear hb ho57; obtain ⟨Ao58, co58, eo58⟩ := Kd.R_slice HO275.out; subst eo58) | (go_at_call 50; (with_reducible refine (table_Soft.calls (ji35) _ _ y273 t276 t277 _ ?side1 ?side2 A38.out).mono ?_); (case side1 => repeat (first | exact (Kd.R_reads' HO275.out).2.2 | (with_reducible refine Kd.C_alloc ?_ _) | (with_reducible refine Kd.C_drewN ?_ _) | (with_reducible refine Kd.C_drew ?_))); (case side2 => exact (Kd.R_reads' HO275.out).2.1); rintro e w59 ⟨v278, rfl, ho0, hb⟩; have n0_ := Aside0.mk (Kd.R_elder' (by (with_reducible repeat (first | apply Kd.R_alloc | apply Kd.R_drewN | apply Kd.R_drew)); exact HO_54.out) (Kd.R_base ho0) hb); have n1_ := Aside0.mk (Kd.R_elder' (by (with_reducible repeat (first | apply Kd.R_alloc | apply Kd.R_drewN | apply Kd.R_drew)); exact HO275.out) (Kd.R_base ho0) hb); have n2_ := Aside0.mk (Kd.R_lower (Kd.R_new' (Kd.R_new' ho0 (Kd.R_lt (by (with_reducible repeat (first | apply Kd.R_alloc | apply Kd.R_drewN | apply Kd.R_drew)); exact HO_54.out))) (Kd.R_lt (by (with_reducible repeat (first | apply Kd.R_alloc | apply Kd.R_drewN | apply Kd.R_drew)); exact HO275.out))) (below_size (by repeat (first | (with_reducible first | exact HB.out | apply below_alloc | apply pw_below_drewN | apply below_drew1) | exact HB.out)))); have n3_ := Aside0.mk (below_step (by repeat (first | (with_reducible first | exact HB.out | apply below_alloc | apply pw_below_drewN | apply below_drew1) | exact HB.out)) hb); clear HO_54; clear HO275; clear HB; have HO_54 := n0_; have HO275 := n1_; have HO279 := n2_; have HB := n3_; clear n0_ n1_ n2_ n3_; (try clear hb); (try clear hb2); (try clear hk); (try clear hi); (try clear ho0); obtain ⟨Ao60, co60, eo60⟩ := Kd.R_slice HO279.out; subst eo60)))
                                  go_ret
                                  exact ⟨by first | rfl | (simp [errW_none, errW_some] <;> rfl) | (simp only [← hji6, ← hji35, ← hji37]; first | rfl | (simp [errW_none, errW_some] <;> rfl)) | (simp [*, errW_none, errW_some] <;> rfl), by repeat (first | (with_reducible first | exact HB.out | apply below_alloc | apply pw_below_drewN | apply below_drew1) | exact HB.out)⟩
                              · rw [if_neg c39] at H
                                have c39b0 : (t277 == 0) = false := beq_eq_false_iff_ne.mpr c39
                                have c39b1 : (t277 != 0) = true := bne_iff_ne.mpr c39
                                obtain rfl := Option.some.inj H
                                go_wp2_with (first | ((with_reducible refine gate_dst (N := 77) rfl ?_); (try (refine gate_guard (by rfl) ?_; dsimp only)); refine Kd.R_lit (Kd.int .i64) _ 2 ?hg (N := 77) ?hd (xs := ([a1, wrap64 (a1 - (ji37))] : List Int)) (inner := [.int .i64 a1, .int .i64 (wrap64 (a1 - (ji37)))]) (ok := fun _ => True) (okp := fun _ => True) ?hr ?hp (fun _ hk => hk) trivial (Below.refl _ _) (Nat.le_refl _) (by simp) ?_; (case hd => rfl); (case hg => rfl); (case hr => first | (go_simp; done) | (go_simp; rfl)); (case hp => exact (Reps.one (show Kd.M (Kd.int .i64) _ _ _ a1 [.int .i64 a1] from rfl) (Reps.one (show Kd.M (Kd.int .i64) _ _ _ (wrap64 (a1 - (ji37))) [.int .i64 (wrap64 (a1 - (ji37)))] from rfl) (Reps.none _ _)))); intro v274 w61 ho62 hb hg_ hnew_; clear hg_ hnew_; (first | rw [← Ny273.out] at ho62 | (simp only [Int.reduceToNat] at ho62; rw [← Ny273.out] at ho62)); have n0_ := Aside0.mk (Kd.R_elder' (by (with_reducible repeat (first | apply Kd.R_alloc | apply Kd.R_drewN | apply Kd.R_drew)); exact HO_54.out) (Kd.R_base ho62) hb); have n1_ := Aside0.mk (Kd.R_lower (Kd.R_new' ho62 (Kd.R_lt (by (with_reducible repeat (first | apply Kd.R_alloc | apply Kd.R_drewN | apply Kd.R_drew)); exact HO_54.out))) (below_size (by repeat (first | (with_reducible first | exact HB.out | apply below_alloc | apply pw_below_drewN | apply below_drew1) | exact HB.out)))); have n2_ := Aside0.mk (below_step (by repeat (first | (with_reducible first | exact HB.out | apply below_alloc | apply pw_below_drewN | apply below_drew1) | exact HB.out)) hb); clear HO_54; clear HB; have HO_54 := n0_; have HO275 := n1_; have HB := n2_; clear n0_ n1_ n2_; clear hb ho62; obtain ⟨Ao63, co63, eo63⟩ := Kd.R_slice HO275.out; subst eo63) | (go_at_call 50; (with_reducible refine (table_Soft.calls (ji35) _ _ y273 t276 t277 _ ?side1 ?side2 A38.out).mono ?_); (case side1 => repeat (first | exact (Kd.R_reads' HO275.out).2.2 | (with_reducible refine Kd.C_alloc ?_ _) | (with_reducible refine Kd.C_drewN ?_ _) | (with_reducible refine Kd.C_drew ?_))); (case side2 => exact (Kd.R_reads' HO275.out).2.1); rintro e w64 ⟨v278, rfl, ho0, hb⟩; have n0_ := Aside0.mk (Kd.R_elder' (by (with_reducible repeat (first | apply Kd.R_alloc | apply Kd.R_drewN | apply Kd.R_drew)); exact HO_54.out) (Kd.R_base ho0) hb); have n1_ := Aside0.mk (Kd.R_elder' (by (with_reducible repeat (first | apply Kd.R_alloc | apply Kd.R_drewN | apply Kd.R_drew)); exact HO275.out) (Kd.R_base ho0) hb); have n2_ := Aside0.mk (Kd.R_lower (Kd.R_new' (Kd.R_new' ho0 (Kd.R_lt (by (with_reducible repeat (first | apply Kd.R_alloc | apply Kd.R_drewN | apply Kd.R_drew)); exact HO_54.out))) (Kd.R_lt (by (with_reducible repeat (first | apply Kd.R_alloc | apply Kd.R_drewN | apply Kd.R_drew)); exact HO275.out))) (below_size (by repeat (first | (with_reducible first | exact HB.out | apply below_alloc | apply pw_below_drewN | apply below_drew1) | exact HB.out)))); have n3_ := Aside0.mk (below_step (by repeat (first | (with_reducible first | exact HB.out | apply below_alloc | apply pw_below_drewN | apply below_drew1) | exact HB.out)) hb); clear HO_54; clear HO275; clear HB; have HO_54 := n0_; have HO275 := n1_; have HO279 := n2_; have HB := n3_; clear n0_ n1_ n2_ n3_; (try clear hb); (try clear hb2); (try clear hk); (try clear hi); (try clear ho0)))
                                repeat (go_quiet (first | ((with_reducible refine gate_dst (N := 77) rfl ?_); (try (refine gate_guard (by rfl) ?_; dsimp only)); refine Kd.R_lit (Kd.int .i64) _ 2 ?hg (N := 77) ?hd (xs := ([a1, wrap64 (a1 - (ji37))] : List Int)) (inner := [.int .i64 a1, .int .i64 (wrap64 (a1 - (ji37)))]) (ok := fun _ => True) (okp := fun _ => True) ?hr ?hp (fun _ hk => hk) trivial (Below.refl _ _) (Nat.le_refl _) (by simp) ?_; (case hd => rfl); (case hg => rfl); (case hr => first | (go_simp; done) | (go_simp; rfl)); (case hp => exact (Reps.one (show Kd.M (Kd.int .i64) _ _ _ a1 [.int .i64 a1] from rfl) (Reps.one (show Kd.M (Kd.int .i64) _ _ _ (wrap64 (a1 - (ji37))) [.int .i64 (wrap64 (a1 - (ji37)))] from rfl) (Reps.none _ _)))); intro v274 w61 ho62 hb hg_ hnew_; clear hg_ hnew_; (first | rw [← Ny273.out] at ho62 | (simp only [Int.reduceToNat] at ho62; rw [← Ny273.out] at ho62)); have n0_ := Aside0.mk (Kd.R_elder' (by (with_reducible repeat (first | apply Kd.R_alloc | apply Kd.R_drewN | apply Kd.R_drew)); exact HO_54.out) (Kd.R_base ho62) hb); have n1_ := Aside0.mk (Kd.R_lower (Kd.R_new' ho62 (Kd.R_lt (by (with_reducible repeat (first | apply Kd.R_alloc | apply Kd.R_drewN | apply Kd.R_drew)); exact HO_54.out))) (below_size (by repeat (first | (with_reducible first | exact HB.out | apply below_alloc | apply pw_below_drewN | apply below_drew1) | exact HB.out)))); have n2_ := Aside0.mk (below_step (by repeat (first | (with_reducible first | exact HB.out | apply below_alloc | apply pw_below_drewN | apply below_drew1) | exact HB.out)) hb); clear HO_54; clear HB; have HO_54 := n0_; have HO275 := n1_; have HB := n2_; clear n0_ n1_ n2_; clear hb ho62; obtain ⟨Ao63, co63, eo63⟩ := Kd.R_slice HO275.out; subst eo63) | (go_at_call 50; (with_reducible refine (table_Soft.calls (ji35) _ _ y273 t276 t277 _ ?side1 ?side2 A38.out).mono ?_); (case side1 => repeat (first | exact (Kd.R_reads' HO275.out).2.2 | (with_reducible refine Kd.C_alloc ?_ _) | (with_reducible refine Kd.C_drewN ?_ _) | (with_reducible refine Kd.C_drew ?_))); (case side2 => exact (Kd.R_reads' HO275.out).2.1); rintro e w64 ⟨v278, rfl, ho0, hb⟩; have n0_ := Aside0.mk (Kd.R_elder' (by (with_reducible repeat (first | apply Kd.R_alloc | apply Kd.R_drewN | apply Kd.R_drew)); exact HO_54.out) (Kd.R_base ho0) hb); have n1_ := Aside0.mk (Kd.R_elder' (by (with_reducible repeat (first | apply Kd.R_alloc | apply Kd.R_drewN | apply Kd.R_drew)); exact HO275.out) (Kd.R_base ho0) hb); have n2_ := Aside0.mk (Kd.R_lower (Kd.R_new' (Kd.R_new' ho0 (Kd.R_lt (by (with_reducible repeat (first | apply Kd.R_alloc | apply Kd.R_drewN | apply Kd.R_drew)); exact HO_54.out))) (Kd.R_lt (by (with_reducible repeat (first | apply Kd.R_alloc | apply Kd.R_drewN | apply Kd.R_drew)); exact HO275.out))) (below_size (by repeat (first | (with_reducible first | exact HB.out | apply below_alloc | apply pw_below_drewN | apply below_drew1) | exact HB.out)))); have n3_ := Aside0.mk (below_step (by repeat (first | (with_reducible first | exact HB.out | apply below_alloc | apply pw_below_drewN | apply below_drew1) | exact HB.out)) hb); clear HO_54; clear HO275; clear HB; have HO_54 := n0_; have HO275 := n1_; have HO279 := n2_; have HB := n3_; clear n0_ n1_ n2_ n3_; (try clear hb); (try clear hb2); (try clear hk); (try clear hi); (try clear ho0))); try go_wp2_with (first | ((with_reducible refine gate_dst (N := 77) rfl ?_); (try (refine gate_guard (by rfl) ?_; dsimp only)); refine Kd.R_lit (Kd.int .i64) _ 2 ?hg (N := 77) ?hd (xs := ([a1, wrap64 (a1 - (ji37))] : List Int)) (inner := [.int .i64 a1, .int .i64 (wrap64 (a1 - (ji37)))]) (ok := fun _ => True) (okp := fun _ => True) ?hr ?hp (fun _ hk => hk) trivial (Below.refl _ _) (Nat.le_refl _) (by simp) ?_; (case hd => rfl); (case hg => rfl); (case hr => first | (go_simp; done) | (go_simp; rfl)); (case hp => exact (Reps.one (show Kd.M (Kd.int .i64) _ _ _ a1 [.int .i64 a1] from rfl) (Reps.one (show Kd.M (Kd.int .i64) _ _ _ (wrap64 (a1 - (ji37))) [.int .i64 (wrap64 (a1 - (ji37)))] from rfl) (Reps.none _ _)))); intro v274 w61 ho62 hb hg_ hnew_; clear hg_ hnew_; (first | rw [← Ny273.out] at ho62 | (simp only [Int.reduceToNat] at ho62; rw [← Ny273.out] at ho62)); have n0_ := Aside0.mk (Kd.R_elder' (by (with_reducible repeat (first | apply Kd.R_alloc | apply Kd.R_drewN | apply Kd.R_drew)); exact HO_54.out) (Kd.R_base ho62) hb); have n1_ := Aside0.mk (Kd.R_lower (Kd.R_new' ho62 (Kd.R_lt (by (with_reducible repeat (first | apply Kd.R_alloc | apply Kd.R_drewN | apply Kd.R_drew)); exact HO_54.out))) (below_size (by repeat (first | (with_reducible first | exact HB.out | apply below_alloc | apply pw_below_drewN | apply below_drew1) | exact HB.out)))); have n2_ := Aside0.mk (below_step (by repeat (first | (with_reducible first | exact HB.out | apply below_alloc | apply pw_below_drewN | apply below_drew1) | exact HB.out)) hb); clear HO_54; clear HB; have HO_54 := n0_; have HO275 := n1_; have HB := n2_; clear n0_ n1_ n2_; clear hb ho62; obtain ⟨Ao63, co63, eo63⟩ := Kd.R_slice HO275.out; subst eo63) | (go_at_call 50; (with_reducible refine (table_Soft.calls (ji35) _ _ y273 t276 t277 _ ?side1 ?side2 A38.out).mono ?_); (case side1 => repeat (first | exact (Kd.R_reads' HO275.out).2.2 | (with_reducible refine Kd.C_alloc ?_ _) | (with_reducible refine Kd.C_drewN ?_ _) | (with_reducible refine Kd.C_drew ?_))); (case side2 => exact (Kd.R_reads' HO275.out).2.1); rintro e w64 ⟨v278, rfl, ho0, hb⟩; have n0_ := Aside0.mk (Kd.R_elder' (by (with_reducible repeat (first | apply Kd.R_alloc | apply Kd.R_drewN | apply Kd.R_drew)); exact HO_54.out) (Kd.R_base ho0) hb); have n1_ := Aside0.mk (Kd.R_elder' (by (with_reducible repeat (first | apply Kd.R_alloc | apply Kd.R_drewN | apply Kd.R_drew)); exact HO275.out) (Kd.R_base ho0) hb); have n2_ := Aside0.mk (Kd.R_lower (Kd.R_new' (Kd.R_new' ho0 (Kd.R_lt (by (with_reducible repeat (first | apply Kd.R_alloc | apply Kd.R_drewN | apply Kd.R_drew)); exact HO_54.out))) (Kd.R_lt (by (with_reducible repeat (first | apply Kd.R_alloc | apply Kd.R_drewN | apply Kd.R_drew)); exact HO275.out))) (below_size (by repeat (first | (with_reducible first | exact HB.out | apply below_alloc | apply pw_below_drewN | apply below_drew1) | exact HB.out)))); have n3_ := Aside0.mk (below_step (by repeat (first | (with_reducible first | exact HB.out | apply below_alloc | apply pw_below_drewN | apply below_drew1) | exact HB.out)) hb); clear HO_54; clear HO275; clear HB; have HO_54 := n0_; have HO275 := n1_; have HO279 := n2_; have HB := n3_; clear n0_ n1_ n2_ n3_; (try clear hb); (try clear hb2); (try clear hk); (try clear hi); (try clear ho0))))
                                go_ret
                                exact ⟨by first | rfl | (simp [errW_none, errW_some] <;> rfl) | (simp only [← hji6, ← hji35, ← hji37]; first | rfl | (simp [errW_none, errW_some] <;> rfl)) | (simp [*, errW_none, errW_some] <;> rfl), by repeat (first | (with_reducible first | exact HB.out | apply below_alloc | apply pw_below_drewN | apply below_drew1) | exact HB.out)⟩
                            · rw [if_neg c36] at H
                              exact absurd H (by simp)
      · rw [if_neg c8] at H
        exact absurd H (by simp)
    · rw [if_neg c7] at H
      exact absurd H (by simp)
  · replace c5 := Bool.eq_false_iff.mpr c5
    subst c5
    have H1 : (some false) = some r := by rw [if_neg (show ¬ (false = true) by decide)] at H; exact H
    clear H
    have H := H1
    clear H1
    obtain rfl := Option.some.inj H
    go_enter Try.func9, Try.ntmps9
    go_wp2_with (first | (go_at_call 48; (with_reducible refine (thrumlaw13_live.calls  false _ A4.out).mono ?_); rintro e w65 ⟨rfl, hb⟩; have n0_ := Aside0.mk (below_step (by repeat (first | (with_reducible first | exact HB.out | apply below_alloc | apply pw_below_drewN | apply below_drew1) | exact HB.out)) hb); clear HB; have HB := n0_; clear n0_; (try clear hb); (try clear hb2); (try clear hk); (try clear hi)))
    repeat (go_quiet (first | (go_at_call 48; (with_reducible refine (thrumlaw13_live.calls  false _ A4.out).mono ?_); rintro e w65 ⟨rfl, hb⟩; have n0_ := Aside0.mk (below_step (by repeat (first | (with_reducible first | exact HB.out | apply below_alloc | apply pw_below_drewN | apply below_drew1) | exact HB.out)) hb); clear HB; have HB := n0_; clear n0_; (try clear hb); (try clear hb2); (try clear hk); (try clear hi))); try go_wp2_with (first | (go_at_call 48; (with_reducible refine (thrumlaw13_live.calls  false _ A4.out).mono ?_); rintro e w65 ⟨rfl, hb⟩; have n0_ := Aside0.mk (below_step (by repeat (first | (with_reducible first | exact HB.out | apply below_alloc | apply pw_below_drewN | apply below_drew1) | exact HB.out)) hb); clear HB; have HB := n0_; clear n0_; (try clear hb); (try clear hb2); (try clear hk); (try clear hi))))
    go_ret
    exact ⟨by first | rfl | (simp [errW_none, errW_some] <;> rfl) | (simp [*, errW_none, errW_some] <;> rfl), by repeat (first | (with_reducible first | exact HB.out | apply below_alloc | apply pw_below_drewN | apply below_drew1) | exact HB.out)⟩

/-- THE ONE PURE STATEMENT of thrumlaw13_TableOne: yours. -/
def thrumlaw13_TableOne.Pure : Prop := ∀ (a0 : Int) (a1 : Int) (a2 : Int), (Lit.int .i64 a0).wf = true → (Lit.int .i64 a1).wf = true → (Lit.int .i64 a2).wf = true → ∃ k, thrumlaw13_TableOne.f k a0 a1 a2 = some true
theorem thrumlaw13_TableOne.walk (P : thrumlaw13_TableOne.Pure) (a0 : Int) (a1 : Int) (a2 : Int) (w : World) (w0 : (Lit.int .i64 a0).wf = true) (w1 : (Lit.int .i64 a1).wf = true) (w2 : (Lit.int .i64 a2).wf = true) :
    Calls Try.prog 9 #[.int .i64 a0, .int .i64 a1, .int .i64 a2] w fun e w' => e = .returned (.bool true) ∧ Below w.heap.size w w' := by
  obtain ⟨k, h⟩ := P a0 a1 a2 w0 w1 w2
  refine (thrumlaw13_TableOne.calls k a0 a1 a2 true w h).mono ?_
  rintro e w' ⟨rfl, hd⟩
  exact ⟨rfl, hd⟩















































































































































































































































































































































































































































end Go.Proofs.Ytfbdalnjijdknaa.HT
