/- What Go functions do, each as a plain Lean function with the same answers, and the proof of it, in every world: printed by the session's driver over the kit's print, with texts by hand. -/
import Derived.Test.YtllicjinmlkcfaaHCx0
import Derived.Test.YtllicjinmlkcfaaHCx26
namespace Go.Proofs.Ytllicjinmlkcfaa.HC
open Go.RowKit Go.Proofs.YtllicjinmlkcfaaW.PrintWords Go.Proofs.YtllicjinmlkcfaaW.PrintLast Go.Proofs.YtllicjinmlkcfaaW.PrintMore
attribute [local go_sem] max2_int min2_int max_two min_two max_three min_three max_four min_four   -- for this text's walks alone
open Go.Proofs.Ytllicjinmlkcfaa.Sp
attribute [local go_sem] Go.Proofs.Ytllicjinmlkcfaa.Sp.u64_not
set_option linter.unusedVariables false
set_option linter.unusedSimpArgs false

/-! ### sign_Votes: function 85 -/
mutual
def sign_Votes.j0 : Nat → List (List Bool) → Int → Bool → Option (List Bool × Int)
  | 0, _, _, _ => none
  | k + 1, x0, x4, x18 => if x18 = true then (some (([] : List Bool), x4)) else (if 0 < (x0.length : Int) then (if 0 ≤ ((rd_L3 x0 0).length : Int) then (if (((rd_L3 x0 0).length : Int) : Int).toNat ≤ 35184372088832 then (sign_Votes.l0 k (List.replicate (((rd_L3 x0 0).length : Int) : Int).toNat 0) x0 (x0.length : Int) 0) else (none)) else (none)) else (none))
def sign_Votes.l0 : Nat → List Int → List (List Bool) → Int → Int → Option (List Bool × Int)
  | 0, _, _, _, _ => none
  | k + 1, x5, x25, x26, x27 => if x27 < x26 then (if 0 ≤ x27 then (if x27 < (x25.length : Int) then (sign_Votes.l1 k x5 x25 x26 x27 (rd_L3 x25 x27) ((rd_L3 x25 x27).length : Int) 0) else (none)) else (none)) else ((sign_each_int_bool.f x5 124).bind fun t475 => (some (t475, 0)))
def sign_Votes.l1 : Nat → List Int → List (List Bool) → Int → Int → List Bool → Int → Int → Option (List Bool × Int)
  | 0, _, _, _, _, _, _, _ => none
  | k + 1, x5, x25, x26, x27, x31, x32, x33 => if x33 < x32 then (if 0 ≤ x33 then (if x33 < (x31.length : Int) then (if rdOf false x31 x33 = true then (if x33 < (x5.length : Int) then (sign_Votes.l1 k (x5.set (x33 : Int).toNat (wrap64 ((rd x5 x33) + 1))) x25 x26 x27 x31 x32 (wrap64 (x33 + 1))) else (none)) else (if x33 < (x5.length : Int) then (sign_Votes.l1 k (x5.set (x33 : Int).toNat (wrap64 ((rd x5 x33) - 1))) x25 x26 x27 x31 x32 (wrap64 (x33 + 1))) else (none))) else (none)) else (none)) else (sign_Votes.l0 k x5 x25 x26 (wrap64 (x27 + 1)))
end
def sign_Votes.f (k : Nat) (l0 : List (List Bool)) : Option (List Bool × Int) := (sign_fit.f k l0).bind fun t470 => (if t470 = 0 then (sign_Votes.j0 k l0 t470 ((l0.length : Int) == 0)) else (sign_Votes.j0 k l0 t470 true))
theorem sign_Votes.mono_l : ∀ k, (∀ y0 y1 y2, LeO (sign_Votes.j0 k y0 y1 y2) (sign_Votes.j0 (k + 1) y0 y1 y2)) ∧ (∀ y0 y1 y2 y3, LeO (sign_Votes.l0 k y0 y1 y2 y3) (sign_Votes.l0 (k + 1) y0 y1 y2 y3)) ∧ (∀ y0 y1 y2 y3 y4 y5 y6, LeO (sign_Votes.l1 k y0 y1 y2 y3 y4 y5 y6) (sign_Votes.l1 (k + 1) y0 y1 y2 y3 y4 y5 y6))
  | 0 => ⟨fun _ _ _ r h => by simp [sign_Votes.j0] at h, fun _ _ _ _ r h => by simp [sign_Votes.l0] at h, fun _ _ _ _ _ _ _ r h => by simp [sign_Votes.l1] at h⟩
  | k + 1 => by
    obtain ⟨ih0, ih1, ih2⟩ := sign_Votes.mono_l k
    refine ⟨?_, ?_, ?_⟩
    · intro y0 y1 y2
      unfold sign_Votes.j0
      repeat' first
      | (with_reducible exact ih0 _ _ _)
      | (with_reducible exact ih1 _ _ _ _)
      | (with_reducible exact ih2 _ _ _ _ _ _ _)
      | (with_reducible exact sign_fit.mono _ _)
      | (with_reducible exact LeO.refl _)
      | (with_reducible exact LeO.none _)
      | (with_reducible refine LeO.ite ?_ ?_)
      | (with_reducible refine LeO.bind ?_ (fun _ => ?_))
      | exact ih0 _ _ _
      | exact ih1 _ _ _ _
      | exact ih2 _ _ _ _ _ _ _
      | exact sign_fit.mono _ _
      | exact LeO.none _
      | refine LeO.ite ?_ ?_
      | refine LeO.bind ?_ (fun _ => ?_)
    · intro y0 y1 y2 y3
      unfold sign_Votes.l0
      repeat' first
      | (with_reducible exact ih0 _ _ _)
      | (with_reducible exact ih1 _ _ _ _)
      | (with_reducible exact ih2 _ _ _ _ _ _ _)
      | (with_reducible exact sign_fit.mono _ _)
      | (with_reducible exact LeO.refl _)
      | (with_reducible exact LeO.none _)
      | (with_reducible refine LeO.ite ?_ ?_)
      | (with_reducible refine LeO.bind ?_ (fun _ => ?_))
      | exact ih0 _ _ _
      | exact ih1 _ _ _ _
      | exact ih2 _ _ _ _ _ _ _
      | exact sign_fit.mono _ _
      | exact LeO.none _
      | refine LeO.ite ?_ ?_
      | refine LeO.bind ?_ (fun _ => ?_)
    · intro y0 y1 y2 y3 y4 y5 y6
      unfold sign_Votes.l1
      repeat' first
      | (with_reducible exact ih0 _ _ _)
      | (with_reducible exact ih1 _ _ _ _)
      | (with_reducible exact ih2 _ _ _ _ _ _ _)
      | (with_reducible exact sign_fit.mono _ _)
      | (with_reducible exact LeO.refl _)
      | (with_reducible exact LeO.none _)
      | (with_reducible refine LeO.ite ?_ ?_)
      | (with_reducible refine LeO.bind ?_ (fun _ => ?_))
      | exact ih0 _ _ _
      | exact ih1 _ _ _ _
      | exact ih2 _ _ _ _ _ _ _
      | exact sign_fit.mono _ _
      | exact LeO.none _
      | refine LeO.ite ?_ ?_
      | refine LeO.bind ?_ (fun _ => ?_)
theorem sign_Votes.mono : ∀ a0 k, LeO (sign_Votes.f k a0) (sign_Votes.f (k + 1) a0) := by
  intro a0 k
  obtain ⟨ih0, ih1, ih2⟩ := sign_Votes.mono_l k
  unfold sign_Votes.f
  repeat' first
      | (with_reducible exact ih0 _ _ _)
      | (with_reducible exact ih1 _ _ _ _)
      | (with_reducible exact ih2 _ _ _ _ _ _ _)
      | (with_reducible exact sign_fit.mono _ _)
      | (with_reducible exact LeO.refl _)
      | (with_reducible exact LeO.none _)
      | (with_reducible refine LeO.ite ?_ ?_)
      | (with_reducible refine LeO.bind ?_ (fun _ => ?_))
      | exact ih0 _ _ _
      | exact ih1 _ _ _ _
      | exact ih2 _ _ _ _ _ _ _
      | exact sign_fit.mono _ _
      | exact LeO.none _
      | refine LeO.ite ?_ ?_
      | refine LeO.bind ?_ (fun _ => ?_)
set_option maxHeartbeats 8000000 in
set_option maxRecDepth 100000 in
theorem sign_Votes.calls (k : Nat) (A0 : Option Addr) (c0 : Nat) (l0 : List (List Bool)) (r1 : List Bool) (r2 : Int) (w : World) (hr0 : Kd.C (Kd.slice 4 Kd.bool) w A0 l0.length l0) (hc0 : l0.length ≤ c0) (h : sign_Votes.f k l0 = some (r1, r2)) :
    Calls Try.prog 85 #[.slice A0 l0.length c0] w fun e w' => ∃ v0_ : Value, e = .returned (.tuple #[v0_, .int .i64 r2]) ∧ Kd.R Kd.bool 4 w' w.heap.size (fun _ => True) v0_ r1 ∧ Below w.heap.size w w' := by
  have HR0 := Aside0.mk hr0
  have HC0 := Aside0.mk hc0
  clear hr0 hc0
  have HB := Aside0.mk (Below.refl w.heap.size w)
  have H : ((sign_fit.f k l0).bind fun t470 => (if t470 = 0 then (sign_Votes.j0 k l0 t470 ((l0.length : Int) == 0)) else (sign_Votes.j0 k l0 t470 true))) = some (r1, r2) := h
  clear h
  replace H := Option.bind_eq_some_iff.mp H
  obtain ⟨t470, A20, H⟩ := H
  replace H : (if t470 = 0 then (sign_Votes.j0 k l0 t470 ((l0.length : Int) == 0)) else (sign_Votes.j0 k l0 t470 true)) = some (r1, r2) := H
  have A2 := Aside0.mk A20
  clear A20
  have HC3 := Aside0.mk H
  clear H
  go_enter Try.func85, Try.ntmps85
  go_upto_region 2 with (first | ((with_reducible refine gate_callee (f := 122) rfl ?_); refine goesL_ (some 11) rfl rfl Try.func122 (by kernel_rfl) rfl #[.slice A0 l0.length c0] rfl (by (try simp only [List.map_toArray, List.map_cons, List.map_nil]); first | done | rfl | (simp only [List.length_drop, List.length_take]; rfl)) ?_; (with_reducible refine (sign_fit.calls k _ _ l0 t470 _ ?side1 ?side2 A2.out).mono ?_); (case side1 => repeat (first | exact HR0.out | (with_reducible refine Kd.C_alloc ?_ _) | (with_reducible refine Kd.C_drewN ?_ _) | (with_reducible refine Kd.C_drew ?_))); (case side2 => exact HC0.out); rintro e w' ⟨rfl, ⟨nd, rfl⟩⟩; refine ⟨_, rfl, ?_⟩))
  (try simp only [Act.put, List.setIfInBounds_toArray, List.set_cons_zero, List.set_cons_succ])
  go_cut [18] (fun v18 wc => ∃ (kq : Nat) (x18_2 : Bool), v18 = .bool x18_2 ∧ Aside0 (sign_Votes.j0 kq l0 t470 x18_2 = some (r1, r2)) ∧ Aside0 (kq ≤ k) ∧ Aside0 (Below w.heap.size w wc))
  case first =>
    have H := HC3.out
    clear HC3
    by_cases c4 : t470 = 0
    · rw [if_pos c4] at H
      have c4b0 : (t470 == 0) = true := beq_iff_eq.mpr c4
      have c4b1 : (t470 != 0) = false := bne_eq_false_iff_eq.mpr c4
      clear c4
      (first | rw [c4b0] | (simp only [i64_w, i32_w]; rw [c4b0]) | skip)
      have H' := Aside0.mk H
      clear H
      go_wp2
      go_meet
      case rel => exact ⟨_, (((l0.length : Int) == 0)), (by first | rfl | (simp; done) | (simp [*]; done)), H', ⟨by first | omega | exact Nat.le_refl _⟩, ⟨by repeat (first | (with_reducible first | exact HB.out | apply below_alloc | apply pw_below_drewN | apply below_drew1) | exact HB.out)⟩⟩
    · rw [if_neg c4] at H
      have c4b0 : (t470 == 0) = false := beq_eq_false_iff_ne.mpr c4
      have c4b1 : (t470 != 0) = true := bne_iff_ne.mpr c4
      (first | rw [c4b0] | (simp only [i64_w, i32_w]; rw [c4b0]) | skip)
      have H' := Aside0.mk H
      clear H
      go_wp2
      go_meet
      case rel => exact ⟨_, (true), (by first | rfl | (simp; done) | (simp [*]; done)), H', ⟨by first | omega | exact Nat.le_refl _⟩, ⟨by repeat (first | (with_reducible first | exact HB.out | apply below_alloc | apply pw_below_drewN | apply below_drew1) | exact HB.out)⟩⟩
  case rest =>
    clear HC3
    try clear c1
    try clear p2
    try clear c4
    try clear c4b0
    try clear c4b1
    obtain ⟨kq, x18_2, rfl, HA, HJ2, HB⟩ := hcut
    cases kq with
    | zero => exact absurd HA.out (by simp [sign_Votes.j0])
    | succ kj2 =>
      have H := HA.out
      clear HA
      simp only [sign_Votes.j0] at H
      by_cases c5 : x18_2 = true
      · subst c5
        have H1 : (some (([] : List Bool), t470)) = some (r1, r2) := by rw [if_pos rfl] at H; exact H
        clear H
        have H := H1
        clear H1
        simp only [Option.some.injEq, Prod.mk.injEq] at H
        obtain ⟨rfl, rfl⟩ := H
        go_wp2
        go_ret2
        exact ⟨_, by first | rfl | (simp [errW_none, errW_some] <;> rfl) | (simp [*, errW_none, errW_some] <;> rfl), by first | exact Kd.R_nil _ _ _ _ _ | exact Kd.N_nil _ _ _ _ _ | exact Kd.V_nil _ _ _ _ _ | exact Kd.Q_nil _ _ _ _ _ | exact Kd.S_nil _ _ _ _ _, by repeat (first | (with_reducible first | exact HB.out | apply below_alloc | apply pw_below_drewN | apply below_drew1) | exact HB.out)⟩
      · replace c5 := Bool.eq_false_iff.mpr c5
        subst c5
        have H1 : (if 0 < (l0.length : Int) then (if 0 ≤ ((rd_L3 l0 0).length : Int) then (if (((rd_L3 l0 0).length : Int) : Int).toNat ≤ 35184372088832 then (sign_Votes.l0 kj2 (List.replicate (((rd_L3 l0 0).length : Int) : Int).toNat 0) l0 (l0.length : Int) 0) else (none)) else (none)) else (none)) = some (r1, r2) := by rw [if_neg (show ¬ (false = true) by decide)] at H; exact H
        clear H
        have H := H1
        clear H1
        by_cases c6 : 0 < (l0.length : Int)
        · rw [if_pos c6] at H
          have c6b0 : decide (0 < (l0.length : Int)) = true := decide_eq_true c6
          have c6b1 : decide (0 < l0.length) = true := decide_eq_true (by omega)
          clear c6
          by_cases c7 : 0 ≤ ((rd_L3 l0 0).length : Int)
          · rw [if_pos c7] at H
            have c7b0 := eq_true c7
            have c7b1 : decide (0 ≤ ((rd_L3 l0 0).length : Int)) = true := decide_eq_true c7
            clear c7
            by_cases c8 : (((rd_L3 l0 0).length : Int) : Int).toNat ≤ 35184372088832
            · rw [if_pos c8] at H
              have c8b0 := eq_true c8
              have c8b1 : decide ((((rd_L3 l0 0).length : Int) : Int).toNat ≤ 35184372088832) = true := decide_eq_true c8
              clear c8
              obtain ⟨y472, hy472⟩ : ∃ y_ : List Int, y_ = (List.replicate (((rd_L3 l0 0).length : Int) : Int).toNat 0) := ⟨_, rfl⟩
              replace H : (sign_Votes.l0 kj2 y472 l0 (l0.length : Int) 0) = some (r1, r2) := by first | (rw [hy472]; with_reducible exact H) | (have H2_ := (Option.bind_some _ _).symm.trans H; rw [hy472]; with_reducible exact H2_) | (have H2_ := (Option.bind_some _ _).symm.trans H; with_reducible exact H2_) | with_reducible exact H | (rw [hy472]; exact H) | exact H
              have Ny472 := Aside0.mk hy472
              clear hy472
              have H' := Aside0.mk H
              clear H
              have p471 : 0 ≤ (0 : Int) := (by omega)
              have q471 : 0 < (l0.length : Int) := of_decide_eq_true (by first | (with_reducible assumption) | assumption)
              obtain ⟨ad471, A471_0, c471_0, e471, hx471_0, hl471_0, hi471_0⟩ := at_L3 HR0.out 0 p471 q471
              cases e471
              have qi471 : (0 < l0.length) = True := eq_true (by omega)
              (try rw [show ((0 : Int)).toNat = 0 from rfl] at hx471_0)
              (try rw [Addr.add_zero'] at hx471_0)
              replace hx471_0 := (HB.out.cell (World.block_lt_of_cell? w _ hx471_0)).trans hx471_0
              have HR471_0 := Aside0.mk hi471_0
              have HC471_0 := Aside0.mk hl471_0
              clear hi471_0 hl471_0
              replace p471 := eq_true p471
              replace q471 := eq_true q471
              go_wp2_with (first | ((with_reducible refine gate_dst (N := 24) rfl ?_); (try (refine gate_guard (by rfl) ?_; dsimp only)); refine Kd.R_make (Kd.int .i64) _ 3 rfl (N := 24) rfl 47 _ _ rfl ((rd_L3 l0 0).length : Int) rfl rfl Try.underlying47 (.int .i64 0) 8 info3 rfl (by decide) (by omega) 0 (ok := fun _ => True) (okp := fun _ => True) rfl (fun _ hk => hk) trivial (of_decide_eq_true (by first | (with_reducible assumption) | assumption)) (Nat.le_trans (Nat.mul_le_mul_right _ (of_decide_eq_true (by first | (with_reducible assumption) | assumption) : ((rd_L3 l0 0).length : Int).toNat ≤ 35184372088832)) (by omega)) (Below.refl _ _) (Nat.le_refl _) ?_; intro v473 w9 ho10 hb hg_ hnew_; clear hg_ hnew_; (first | rw [← Ny472.out] at ho10 | (simp only [Int.reduceToNat] at ho10; rw [← Ny472.out] at ho10)); have n0_ := Aside0.mk (Kd.R_lower ho10 (below_size (by repeat (first | (with_reducible first | exact HB.out | apply below_alloc | apply pw_below_drewN | apply below_drew1) | exact HB.out)))); have n1_ := Aside0.mk (below_step (by repeat (first | (with_reducible first | exact HB.out | apply below_alloc | apply pw_below_drewN | apply below_drew1) | exact HB.out)) hb); clear HB; have HO474 := n0_; have HB := n1_; clear n0_ n1_; clear hb ho10))
              go_loopg [27] kj2 (fun kq v27 w' => ∃ (x5_2 : List Int) (x27_2 : Int), v27 = .int .i64 x27_2 ∧ Aside0 (sign_Votes.l0 kq x5_2 l0 (l0.length : Int) x27_2 = some (r1, r2)) ∧ Aside0 (kq ≤ kj2) ∧ Aside0 (Kd.R (Kd.int .i64) 3 w' w.heap.size (fun _ => True) v473 x5_2) ∧ Aside0 (Below w.heap.size w w'))
              case atStart => exact ⟨(y472), (0), (by first | rfl | (simp; done) | (simp [*]; done)), H', ⟨Nat.le_refl _⟩, ⟨by (with_reducible repeat (first | apply Kd.R_alloc | apply Kd.R_drewN | apply Kd.R_drew)); exact HO474.out⟩, ⟨by repeat (first | (with_reducible first | exact HB.out | apply below_alloc | apply pw_below_drewN | apply below_drew1) | exact HB.out)⟩⟩
              case round =>
                clear H'
                try clear c1
                try clear p2
                try clear c4
                try clear c4b0
                try clear c4b1
                try clear p4
                try clear q4
                try clear hx4
                try clear qi4
                try clear c5
                try clear c6
                try clear c6b0
                try clear c6b1
                try clear c7
                try clear c7b0
                try clear c7b1
                try clear c8
                try clear c8b0
                try clear c8b1
                try clear hx471_0
                try clear p2
                try clear p471
                try clear q471
                obtain ⟨x5_2, x27_2, rfl, HA, HK2, HO_5, HB⟩ := hrel
                cases gk with
                | zero => exact absurd HA.out (by simp [sign_Votes.l0])
                | succ k2 =>
                  have H := HA.out
                  clear HA
                  simp only [sign_Votes.l0] at H
                  by_cases c11 : x27_2 < (l0.length : Int)
                  · rw [if_pos c11] at H
                    have c11b0 : decide (x27_2 < (l0.length : Int)) = true := decide_eq_true c11
                    clear c11
                    by_cases c12 : 0 ≤ x27_2
                    · rw [if_pos c12] at H
                      have c12b0 : decide (0 ≤ x27_2) = true := decide_eq_true c12
                      clear c12
                      by_cases c13 : x27_2 < (l0.length : Int)
                      · rw [if_pos c13] at H
                        have c13b0 : decide (x27_2 < (l0.length : Int)) = true := decide_eq_true c13
                        clear c13
                        have H' := Aside0.mk H
                        clear H
                        have p478 : 0 ≤ (x27_2 : Int) := of_decide_eq_true (by first | (with_reducible assumption) | assumption)
                        have q478 : x27_2 < (l0.length : Int) := of_decide_eq_true (by first | (with_reducible assumption) | assumption)
                        obtain ⟨ad478, A478_0, c478_0, e478, hx478_0, hl478_0, hi478_0⟩ := at_L3 HR0.out x27_2 p478 q478
                        obtain rfl : ad471 = ad478 := (by injection e478)
                        replace hx478_0 := (HB.out.cell (World.block_lt_of_cell? w _ hx478_0)).trans hx478_0
                        have HR478_0 := Aside0.mk hi478_0
                        have HC478_0 := Aside0.mk hl478_0
                        clear hi478_0 hl478_0
                        replace p478 := eq_true p478
                        replace q478 := eq_true q478
                        go_wp2
                        go_loopg [33] k2 (fun kq v33 w' => ∃ (x5_3 : List Int) (x33_3 : Int), v33 = .int .i64 x33_3 ∧ Aside0 (sign_Votes.l1 kq x5_3 l0 (l0.length : Int) x27_2 (rd_L3 l0 x27_2) ((rd_L3 l0 x27_2).length : Int) x33_3 = some (r1, r2)) ∧ Aside0 (kq ≤ k2) ∧ Aside0 (Kd.R (Kd.int .i64) 3 w' w.heap.size (fun _ => True) v473 x5_3) ∧ Aside0 (Below w.heap.size w w'))
                        case atStart => exact ⟨(x5_2), (0), (by first | rfl | (simp; done) | (simp [*]; done)), H', ⟨Nat.le_refl _⟩, ⟨by (with_reducible repeat (first | apply Kd.R_alloc | apply Kd.R_drewN | apply Kd.R_drew)); exact HO_5.out⟩, ⟨by repeat (first | (with_reducible first | exact HB.out | apply below_alloc | apply pw_below_drewN | apply below_drew1) | exact HB.out)⟩⟩
                        case round =>
                          clear H'
                          try clear c1
                          try clear p2
                          try clear c4
                          try clear c4b0
                          try clear c4b1
                          try clear p4
                          try clear q4
                          try clear hx4
                          try clear qi4
                          try clear c5
                          try clear c6
                          try clear c6b0
                          try clear c6b1
                          try clear c7
                          try clear c7b0
                          try clear c7b1
                          try clear c8
                          try clear c8b0
                          try clear c8b1
                          try clear c11
                          try clear c11b0
                          try clear c12
                          try clear c12b0
                          try clear c13
                          try clear c13b0
                          try clear hx471_0
                          try clear hx478_0
                          try clear p2
                          try clear p4
                          try clear p471
                          try clear p478
                          try clear q4
                          try clear q471
                          try clear q478
                          obtain ⟨x5_3, x33_3, rfl, HA, HK3, HO_5, HB⟩ := hrel
                          cases gk with
                          | zero => exact absurd HA.out (by simp [sign_Votes.l1])
                          | succ k3 =>
                            have H := HA.out
                            clear HA
                            simp only [sign_Votes.l1] at H
                            by_cases c14 : x33_3 < ((rd_L3 l0 x27_2).length : Int)
                            · rw [if_pos c14] at H
                              have c14b0 : decide (x33_3 < ((rd_L3 l0 x27_2).length : Int)) = true := decide_eq_true c14
                              clear c14
                              by_cases c15 : 0 ≤ x33_3
                              · rw [if_pos c15] at H
                                have c15b0 : decide (0 ≤ x33_3) = true := decide_eq_true c15
                                clear c15
                                by_cases c16 : x33_3 < ((rd_L3 l0 x27_2).length : Int)
                                · rw [if_pos c16] at H
                                  have c16b0 : decide (x33_3 < ((rd_L3 l0 x27_2).length : Int)) = true := decide_eq_true c16
                                  clear c16
                                  obtain ⟨bq17, hbq17⟩ : ∃ b_ : Bool, b_ = (rdOf false (rd_L3 l0 x27_2) x33_3) := ⟨_, rfl⟩
                                  replace H : (if bq17 = true then (if x33_3 < (x5_3.length : Int) then (sign_Votes.l1 k3 (x5_3.set (x33_3 : Int).toNat (wrap64 ((rd x5_3 x33_3) + 1))) l0 (l0.length : Int) x27_2 (rd_L3 l0 x27_2) ((rd_L3 l0 x27_2).length : Int) (wrap64 (x33_3 + 1))) else (none)) else (if x33_3 < (x5_3.length : Int) then (sign_Votes.l1 k3 (x5_3.set (x33_3 : Int).toNat (wrap64 ((rd x5_3 x33_3) - 1))) l0 (l0.length : Int) x27_2 (rd_L3 l0 x27_2) ((rd_L3 l0 x27_2).length : Int) (wrap64 (x33_3 + 1))) else (none))) = some (r1, r2) := by rw [← hbq17] at H; exact H
                                  have Nbq17 := Aside0.mk hbq17
                                  clear hbq17
                                  by_cases c18 : bq17 = true
                                  · subst c18
                                    have H1 : (if x33_3 < (x5_3.length : Int) then (sign_Votes.l1 k3 (x5_3.set (x33_3 : Int).toNat (wrap64 ((rd x5_3 x33_3) + 1))) l0 (l0.length : Int) x27_2 (rd_L3 l0 x27_2) ((rd_L3 l0 x27_2).length : Int) (wrap64 (x33_3 + 1))) else (none)) = some (r1, r2) := by rw [if_pos rfl] at H; exact H
                                    clear H
                                    have H := H1
                                    clear H1
                                    by_cases c19 : x33_3 < (x5_3.length : Int)
                                    · rw [if_pos c19] at H
                                      have c19b0 : decide (x33_3 < (x5_3.length : Int)) = true := decide_eq_true c19
                                      clear c19
                                      obtain ⟨y481, hy481⟩ : ∃ y_ : List Int, y_ = (x5_3.set (x33_3 : Int).toNat (wrap64 ((rd x5_3 x33_3) + 1))) := ⟨_, rfl⟩
                                      replace H : (sign_Votes.l1 k3 y481 l0 (l0.length : Int) x27_2 (rd_L3 l0 x27_2) ((rd_L3 l0 x27_2).length : Int) (wrap64 (x33_3 + 1))) = some (r1, r2) := by first | (rw [hy481]; with_reducible exact H) | (have H2_ := (Option.bind_some _ _).symm.trans H; rw [hy481]; with_reducible exact H2_) | (have H2_ := (Option.bind_some _ _).symm.trans H; with_reducible exact H2_) | with_reducible exact H | (rw [hy481]; exact H) | exact H
                                      have Ny481 := Aside0.mk hy481
                                      clear hy481
                                      have H' := Aside0.mk H
                                      clear H
                                      have p479 : 0 ≤ (x33_3 : Int) := of_decide_eq_true (by first | (with_reducible assumption) | assumption)
                                      have q479 : x33_3 < ((rd_L3 l0 x27_2).length : Int) := of_decide_eq_true (by first | (with_reducible assumption) | assumption)
                                      obtain ⟨ad479, e479, hx479_0⟩ := Kd.at_bool HR478_0.out x33_3 p479 q479
                                      (try rw [← Nbq17.out] at hx479_0)
                                      cases e479
                                      replace hx479_0 := (HB.out.cell (World.block_lt_of_cell? w _ hx479_0)).trans hx479_0
                                      replace p479 := eq_true p479
                                      replace q479 := eq_true q479
                                      obtain ⟨Ao21, co21, eo21⟩ := Kd.R_slice HO_5.out
                                      subst eo21
                                      have p480 : 0 ≤ (x33_3 : Int) := of_decide_eq_true (by first | (with_reducible assumption) | assumption)
                                      have q480 : x33_3 < (x5_3.length : Int) := of_decide_eq_true (by first | (with_reducible assumption) | assumption)
                                      obtain ⟨ad480, e480, hx480_0⟩ := Kd.at_int (Kd.R_reads' HO_5.out).2.2 x33_3 p480 q480
                                      cases e480
                                      replace p480 := eq_true p480
                                      replace q480 := eq_true q480
                                      have p20 : 0 ≤ (x33_3 : Int) := of_decide_eq_true (by first | (with_reducible assumption) | assumption)
                                      have q20 : (x33_3 : Int) < ((x5_3.length : Int) : Int) := of_decide_eq_true (by first | (with_reducible assumption) | assumption)
                                      obtain ⟨go20, co20, eo20, gb20, gl20, cl20, HG20⟩ := Kd.R_form HO_5.out (by omega)
                                      (first | cases eo20 | (injection eo20 with ea_ en_ ec_; (first | subst ea_ | (injection ea_ with ea_; subst ea_)); subst ec_; clear en_))
                                      have GB20 := Aside0.mk gb20
                                      have GG20 := Aside0.mk HG20
                                      clear gb20 gl20 HG20
                                      (first | simp only [add_plain] at hx480_0 | skip)
                                      obtain ⟨hx20_0, hf20_0⟩ := Kd.R_celln 0 HO_5.out (x33_3 : Int) p20 q20
                                      replace p20 := eq_true p20
                                      replace q20 := eq_true q20
                                      have HP22 := Kd.R_putg HO_5.out (x33_3 : Int) (wrap64 ((rd x5_3 x33_3) + 1))
                                      go_wp2_with (first | ((with_reducible refine gate_store (t := 3) (p := 44) rfl ?_); refine store_event (t := 3) (p := 44) (v := ?vo_w23) (w1 := (wr.setCell ⟨go20, (x33_3 : Int).toNat, none⟩ (.int .i64 (wrap64 ((rd x5_3 x33_3) + 1))))) ?hg ?ho ?hn ?hr ?_; (case ho => rfl); (case hg => rfl); (case hn => rfl); (case hr => first | (go_simp; done) | (go_simp; rfl)); intro w23 hw; have hg : wr.grownBy w23 (some go20) := (by rw [hw]; exact HP22.2); have hp_ : Kd.R (Kd.int .i64) 3 w23 w.heap.size (fun _ => True) (.slice (some ⟨go20, 0, none⟩) x5_3.length co21) y481 := (by rw [hw, Ny481.out]; exact HP22.1); clear HP22; have n0_ := Aside0.mk (hp_); have n1_ := Aside0.mk ((by rw [hw]; exact below_set (HB.out) GB20.out : Below w.heap.size w w23)); clear HO_5; clear HB; have HO_5 := n0_; have HB := n1_; clear n0_ n1_; clear hg hw hp_))
                                      go_roundg k3
                                      case measure => have := HJ2.out; have := HK2.out; have := HK3.out; omega
                                      case rel => exact ⟨(y481), (wrap64 (x33_3 + 1)), (by first | rfl | (simp; done) | (simp [*]; done)), H', ⟨by have := HJ2.out; have := HK2.out; have := HK3.out; omega⟩, ⟨by (with_reducible repeat (first | apply Kd.R_alloc | apply Kd.R_drewN | apply Kd.R_drew)); exact HO_5.out⟩, ⟨by repeat (first | (with_reducible first | exact HB.out | apply below_alloc | apply pw_below_drewN | apply below_drew1) | exact HB.out)⟩⟩
                                    · rw [if_neg c19] at H
                                      exact absurd H (by simp)
                                  · replace c18 := Bool.eq_false_iff.mpr c18
                                    subst c18
                                    have H1 : (if x33_3 < (x5_3.length : Int) then (sign_Votes.l1 k3 (x5_3.set (x33_3 : Int).toNat (wrap64 ((rd x5_3 x33_3) - 1))) l0 (l0.length : Int) x27_2 (rd_L3 l0 x27_2) ((rd_L3 l0 x27_2).length : Int) (wrap64 (x33_3 + 1))) else (none)) = some (r1, r2) := by rw [if_neg (show ¬ (false = true) by decide)] at H; exact H
                                    clear H
                                    have H := H1
                                    clear H1
                                    by_cases c24 : x33_3 < (x5_3.length : Int)
                                    · rw [if_pos c24] at H
                                      have c24b0 : decide (x33_3 < (x5_3.length : Int)) = true := decide_eq_true c24
                                      clear c24
                                      obtain ⟨y483, hy483⟩ : ∃ y_ : List Int, y_ = (x5_3.set (x33_3 : Int).toNat (wrap64 ((rd x5_3 x33_3) - 1))) := ⟨_, rfl⟩
                                      replace H : (sign_Votes.l1 k3 y483 l0 (l0.length : Int) x27_2 (rd_L3 l0 x27_2) ((rd_L3 l0 x27_2).length : Int) (wrap64 (x33_3 + 1))) = some (r1, r2) := by first | (rw [hy483]; with_reducible exact H) | (have H2_ := (Option.bind_some _ _).symm.trans H; rw [hy483]; with_reducible exact H2_) | (have H2_ := (Option.bind_some _ _).symm.trans H; with_reducible exact H2_) | with_reducible exact H | (rw [hy483]; exact H) | exact H
                                      have Ny483 := Aside0.mk hy483
                                      clear hy483
                                      have H' := Aside0.mk H
                                      clear H
                                      have p479 : 0 ≤ (x33_3 : Int) := of_decide_eq_true (by first | (with_reducible assumption) | assumption)
                                      have q479 : x33_3 < ((rd_L3 l0 x27_2).length : Int) := of_decide_eq_true (by first | (with_reducible assumption) | assumption)
                                      obtain ⟨ad479, e479, hx479_0⟩ := Kd.at_bool HR478_0.out x33_3 p479 q479
                                      (try rw [← Nbq17.out] at hx479_0)
                                      cases e479
                                      replace hx479_0 := (HB.out.cell (World.block_lt_of_cell? w _ hx479_0)).trans hx479_0
                                      replace p479 := eq_true p479
                                      replace q479 := eq_true q479
                                      obtain ⟨Ao26, co26, eo26⟩ := Kd.R_slice HO_5.out
                                      subst eo26
                                      have p482 : 0 ≤ (x33_3 : Int) := of_decide_eq_true (by first | (with_reducible assumption) | assumption)
                                      have q482 : x33_3 < (x5_3.length : Int) := of_decide_eq_true (by first | (with_reducible assumption) | assumption)
                                      obtain ⟨ad482, e482, hx482_0⟩ := Kd.at_int (Kd.R_reads' HO_5.out).2.2 x33_3 p482 q482
                                      cases e482
                                      replace p482 := eq_true p482
                                      replace q482 := eq_true q482
                                      have p25 : 0 ≤ (x33_3 : Int) := of_decide_eq_true (by first | (with_reducible assumption) | assumption)
                                      have q25 : (x33_3 : Int) < ((x5_3.length : Int) : Int) := of_decide_eq_true (by first | (with_reducible assumption) | assumption)
                                      obtain ⟨go25, co25, eo25, gb25, gl25, cl25, HG25⟩ := Kd.R_form HO_5.out (by omega)
                                      (first | cases eo25 | (injection eo25 with ea_ en_ ec_; (first | subst ea_ | (injection ea_ with ea_; subst ea_)); subst ec_; clear en_))
                                      have GB25 := Aside0.mk gb25
                                      have GG25 := Aside0.mk HG25
                                      clear gb25 gl25 HG25
                                      (first | simp only [add_plain] at hx482_0 | skip)
                                      obtain ⟨hx25_0, hf25_0⟩ := Kd.R_celln 0 HO_5.out (x33_3 : Int) p25 q25
                                      replace p25 := eq_true p25
                                      replace q25 := eq_true q25
                                      have HP27 := Kd.R_putg HO_5.out (x33_3 : Int) (wrap64 ((rd x5_3 x33_3) - 1))
                                      go_wp2_with (first | ((with_reducible refine gate_store (t := 3) (p := 50) rfl ?_); refine store_event (t := 3) (p := 50) (v := ?vo_w28) (w1 := (wr.setCell ⟨go25, (x33_3 : Int).toNat, none⟩ (.int .i64 (wrap64 ((rd x5_3 x33_3) - 1))))) ?hg ?ho ?hn ?hr ?_; (case ho => rfl); (case hg => rfl); (case hn => rfl); (case hr => first | (go_simp; done) | (go_simp; rfl)); intro w28 hw; have hg : wr.grownBy w28 (some go25) := (by rw [hw]; exact HP27.2); have hp_ : Kd.R (Kd.int .i64) 3 w28 w.heap.size (fun _ => True) (.slice (some ⟨go25, 0, none⟩) x5_3.length co26) y483 := (by rw [hw, Ny483.out]; exact HP27.1); clear HP27; have n0_ := Aside0.mk (hp_); have n1_ := Aside0.mk ((by rw [hw]; exact below_set (HB.out) GB25.out : Below w.heap.size w w28)); clear HO_5; clear HB; have HO_5 := n0_; have HB := n1_; clear n0_ n1_; clear hg hw hp_))
                                      go_roundg k3
                                      case measure => have := HJ2.out; have := HK2.out; have := HK3.out; omega
                                      case rel => exact ⟨(y483), (wrap64 (x33_3 + 1)), (by first | rfl | (simp; done) | (simp [*]; done)), H', ⟨by have := HJ2.out; have := HK2.out; have := HK3.out; omega⟩, ⟨by (with_reducible repeat (first | apply Kd.R_alloc | apply Kd.R_drewN | apply Kd.R_drew)); exact HO_5.out⟩, ⟨by repeat (first | (with_reducible first | exact HB.out | apply below_alloc | apply pw_below_drewN | apply below_drew1) | exact HB.out)⟩⟩
                                    · rw [if_neg c24] at H
                                      exact absurd H (by simp)
                                · rw [if_neg c16] at H
                                  exact absurd H (by simp)
                              · rw [if_neg c15] at H
                                exact absurd H (by simp)
                            · rw [if_neg c14] at H
                              have c14b0 : decide (x33_3 < ((rd_L3 l0 x27_2).length : Int)) = false := decide_eq_false c14
                              clear c14
                              have H' := Aside0.mk H
                              clear H
                              go_wp2
                              go_roundg k3
                              case measure => have := HJ2.out; have := HK2.out; have := HK3.out; omega
                              case rel => exact ⟨(x5_3), (wrap64 (x27_2 + 1)), (by first | rfl | (simp; done) | (simp [*]; done)), H', ⟨by have := HJ2.out; have := HK2.out; have := HK3.out; omega⟩, ⟨by (with_reducible repeat (first | apply Kd.R_alloc | apply Kd.R_drewN | apply Kd.R_drew)); exact HO_5.out⟩, ⟨by repeat (first | (with_reducible first | exact HB.out | apply below_alloc | apply pw_below_drewN | apply below_drew1) | exact HB.out)⟩⟩
                      · rw [if_neg c13] at H
                        exact absurd H (by simp)
                    · rw [if_neg c12] at H
                      exact absurd H (by simp)
                  · rw [if_neg c11] at H
                    have c11b0 : decide (x27_2 < (l0.length : Int)) = false := decide_eq_false c11
                    clear c11
                    replace H := Option.bind_eq_some_iff.mp H
                    obtain ⟨t475, A290, H⟩ := H
                    replace H : (some (t475, 0)) = some (r1, r2) := H
                    have A29 := Aside0.mk A290
                    clear A290
                    simp only [Option.some.injEq, Prod.mk.injEq] at H
                    obtain ⟨rfl, rfl⟩ := H
                    obtain ⟨Ao30, co30, eo30⟩ := Kd.R_slice HO_5.out
                    subst eo30
                    go_wp2_with (first | ((with_reducible refine gate_callee (f := 123) rfl ?_); refine goesL_ (some 54) rfl rfl Try.func123 (by kernel_rfl) rfl #[.slice Ao30 x5_2.length co30, .func (.func 124) #[] #[]] rfl (by (try simp only [List.map_toArray, List.map_cons, List.map_nil]); first | done | rfl | (simp only [List.length_drop, List.length_take]; rfl)) ?_; (with_reducible refine (sign_each_int_bool.calls _ _ x5_2 124 t475 _ ?side1 ?side2 A29.out).mono ?_); (case side1 => repeat (first | exact (Kd.R_reads' HO_5.out).2.2 | (with_reducible refine Kd.C_alloc ?_ _) | (with_reducible refine Kd.C_drewN ?_ _) | (with_reducible refine Kd.C_drew ?_))); (case side2 => exact (Kd.R_reads' HO_5.out).2.1); rintro e w31 ⟨v476, rfl, ho0, hb⟩; refine ⟨_, rfl, ?_⟩; have n0_ := Aside0.mk (Kd.R_below (by (with_reducible repeat (first | apply Kd.R_alloc | apply Kd.R_drewN | apply Kd.R_drew)); exact HO_5.out) hb); have n1_ := Aside0.mk (Kd.R_lower ho0 (below_size (by repeat (first | (with_reducible first | exact HB.out | apply below_alloc | apply pw_below_drewN | apply below_drew1) | exact HB.out)))); have n2_ := Aside0.mk (below_step (by repeat (first | (with_reducible first | exact HB.out | apply below_alloc | apply pw_below_drewN | apply below_drew1) | exact HB.out)) hb); clear HO_5; clear HB; have HO_5 := n0_; have HO477 := n1_; have HB := n2_; clear n0_ n1_ n2_; (try clear hb); (try clear hb2); (try clear hk); (try clear hi); (try clear ho0)))
                    go_ret2
                    exact ⟨_, by first | rfl | (simp [errW_none, errW_some] <;> rfl) | (simp [*, errW_none, errW_some] <;> rfl), by (with_reducible repeat (first | apply Kd.R_alloc | apply Kd.R_drewN | apply Kd.R_drew)); exact HO477.out, by repeat (first | (with_reducible first | exact HB.out | apply below_alloc | apply pw_below_drewN | apply below_drew1) | exact HB.out)⟩
            · rw [if_neg c8] at H
              exact absurd H (by simp)
          · rw [if_neg c7] at H
            exact absurd H (by simp)
        · rw [if_neg c6] at H
          exact absurd H (by simp)

end Go.Proofs.Ytllicjinmlkcfaa.HC
