/- What Go functions do, each as a plain Lean function with the same answers, and the proof of it, in every world: printed by the session's driver over the kit's print, with texts by hand. -/
import Derived.Test.YtllicjinmlkcfaaHCx0
import Derived.Test.YtllicjinmlkcfaaHCx28
namespace Go.Proofs.Ytllicjinmlkcfaa.HC
open Go.RowKit Go.Proofs.YtllicjinmlkcfaaW.PrintWords Go.Proofs.YtllicjinmlkcfaaW.PrintLast Go.Proofs.YtllicjinmlkcfaaW.PrintMore
attribute [local go_sem] max2_int min2_int max_two min_two max_three min_three max_four min_four   -- for this text's walks alone
open Go.Proofs.Ytllicjinmlkcfaa.Sp
attribute [local go_sem] Go.Proofs.Ytllicjinmlkcfaa.Sp.u64_not
set_option linter.unusedVariables false
set_option linter.unusedSimpArgs false

/-! ### thrumref11_Votes: function 86 -/
mutual
def thrumref11_Votes.j0 : Nat → List (List Bool) → Int → Bool → Option (List Bool × Int)
  | 0, _, _, _ => none
  | k + 1, x0, x4, x18 => if x18 = true then (some (([] : List Bool), x4)) else (if 0 < (x0.length : Int) then (thrumref11_Votes.l0 k x0 ([] : List Bool) ((rd_L3 x0 0).length : Int) 0) else (none))
def thrumref11_Votes.l0 : Nat → List (List Bool) → List Bool → Int → Int → Option (List Bool × Int)
  | 0, _, _, _, _ => none
  | k + 1, x0, x5, x23, x24 => if x24 < x23 then (thrumref11_Votes.l1 k x0 x5 x24 0 x23 x24 x0 (x0.length : Int) 0) else (some (x5, 0))
def thrumref11_Votes.l1 : Nat → List (List Bool) → List Bool → Int → Int → Int → Int → List (List Bool) → Int → Int → Option (List Bool × Int)
  | 0, _, _, _, _, _, _, _, _, _ => none
  | k + 1, x0, x5, x6, x7, x23, x24, x27, x28, x29 => if x29 < x28 then (if 0 ≤ x29 then (if x29 < (x27.length : Int) then (if 0 ≤ x6 then (if x6 < ((rd_L3 x27 x29).length : Int) then (if rdOf false (rd_L3 x27 x29) x6 = true then (thrumref11_Votes.l1 k x0 x5 x6 (wrap64 (x7 + 1)) x23 x24 x27 x28 (wrap64 (x29 + 1))) else (thrumref11_Votes.l1 k x0 x5 x6 x7 x23 x24 x27 x28 (wrap64 (x29 + 1)))) else (none)) else (none)) else (none)) else (none)) else (if x5.length < 140737488355328 then (thrumref11_Votes.l0 k x0 (x5 ++ [decide ((wrap64 (2 * x7)) > (x0.length : Int))]) x23 (wrap64 (x24 + 1))) else (none))
end
def thrumref11_Votes.f (k : Nat) (l0 : List (List Bool)) : Option (List Bool × Int) := (thrumref11_fit.f k l0).bind fun t487 => (if t487 = 0 then (thrumref11_Votes.j0 k l0 t487 ((l0.length : Int) == 0)) else (thrumref11_Votes.j0 k l0 t487 true))
theorem thrumref11_Votes.mono_l : ∀ k, (∀ y0 y1 y2, LeO (thrumref11_Votes.j0 k y0 y1 y2) (thrumref11_Votes.j0 (k + 1) y0 y1 y2)) ∧ (∀ y0 y1 y2 y3, LeO (thrumref11_Votes.l0 k y0 y1 y2 y3) (thrumref11_Votes.l0 (k + 1) y0 y1 y2 y3)) ∧ (∀ y0 y1 y2 y3 y4 y5 y6 y7 y8, LeO (thrumref11_Votes.l1 k y0 y1 y2 y3 y4 y5 y6 y7 y8) (thrumref11_Votes.l1 (k + 1) y0 y1 y2 y3 y4 y5 y6 y7 y8))
  | 0 => ⟨fun _ _ _ r h => by simp [thrumref11_Votes.j0] at h, fun _ _ _ _ r h => by simp [thrumref11_Votes.l0] at h, fun _ _ _ _ _ _ _ _ _ r h => by simp [thrumref11_Votes.l1] at h⟩
  | k + 1 => by
    obtain ⟨ih0, ih1, ih2⟩ := thrumref11_Votes.mono_l k
    refine ⟨?_, ?_, ?_⟩
    · intro y0 y1 y2
      unfold thrumref11_Votes.j0
      repeat' first
      | (with_reducible exact ih0 _ _ _)
      | (with_reducible exact ih1 _ _ _ _)
      | (with_reducible exact ih2 _ _ _ _ _ _ _ _ _)
      | (with_reducible exact thrumref11_fit.mono _ _)
      | (with_reducible exact LeO.refl _)
      | (with_reducible exact LeO.none _)
      | (with_reducible refine LeO.ite ?_ ?_)
      | (with_reducible refine LeO.bind ?_ (fun _ => ?_))
      | exact ih0 _ _ _
      | exact ih1 _ _ _ _
      | exact ih2 _ _ _ _ _ _ _ _ _
      | exact thrumref11_fit.mono _ _
      | exact LeO.none _
      | refine LeO.ite ?_ ?_
      | refine LeO.bind ?_ (fun _ => ?_)
    · intro y0 y1 y2 y3
      unfold thrumref11_Votes.l0
      repeat' first
      | (with_reducible exact ih0 _ _ _)
      | (with_reducible exact ih1 _ _ _ _)
      | (with_reducible exact ih2 _ _ _ _ _ _ _ _ _)
      | (with_reducible exact thrumref11_fit.mono _ _)
      | (with_reducible exact LeO.refl _)
      | (with_reducible exact LeO.none _)
      | (with_reducible refine LeO.ite ?_ ?_)
      | (with_reducible refine LeO.bind ?_ (fun _ => ?_))
      | exact ih0 _ _ _
      | exact ih1 _ _ _ _
      | exact ih2 _ _ _ _ _ _ _ _ _
      | exact thrumref11_fit.mono _ _
      | exact LeO.none _
      | refine LeO.ite ?_ ?_
      | refine LeO.bind ?_ (fun _ => ?_)
    · intro y0 y1 y2 y3 y4 y5 y6 y7 y8
      unfold thrumref11_Votes.l1
      repeat' first
      | (with_reducible exact ih0 _ _ _)
      | (with_reducible exact ih1 _ _ _ _)
      | (with_reducible exact ih2 _ _ _ _ _ _ _ _ _)
      | (with_reducible exact thrumref11_fit.mono _ _)
      | (with_reducible exact LeO.refl _)
      | (with_reducible exact LeO.none _)
      | (with_reducible refine LeO.ite ?_ ?_)
      | (with_reducible refine LeO.bind ?_ (fun _ => ?_))
      | exact ih0 _ _ _
      | exact ih1 _ _ _ _
      | exact ih2 _ _ _ _ _ _ _ _ _
      | exact thrumref11_fit.mono _ _
      | exact LeO.none _
      | refine LeO.ite ?_ ?_
      | refine LeO.bind ?_ (fun _ => ?_)
theorem thrumref11_Votes.mono : ∀ a0 k, LeO (thrumref11_Votes.f k a0) (thrumref11_Votes.f (k + 1) a0) := by
  intro a0 k
  obtain ⟨ih0, ih1, ih2⟩ := thrumref11_Votes.mono_l k
  unfold thrumref11_Votes.f
  repeat' first
      | (with_reducible exact ih0 _ _ _)
      | (with_reducible exact ih1 _ _ _ _)
      | (with_reducible exact ih2 _ _ _ _ _ _ _ _ _)
      | (with_reducible exact thrumref11_fit.mono _ _)
      | (with_reducible exact LeO.refl _)
      | (with_reducible exact LeO.none _)
      | (with_reducible refine LeO.ite ?_ ?_)
      | (with_reducible refine LeO.bind ?_ (fun _ => ?_))
      | exact ih0 _ _ _
      | exact ih1 _ _ _ _
      | exact ih2 _ _ _ _ _ _ _ _ _
      | exact thrumref11_fit.mono _ _
      | exact LeO.none _
      | refine LeO.ite ?_ ?_
      | refine LeO.bind ?_ (fun _ => ?_)
set_option maxHeartbeats 8000000 in
set_option maxRecDepth 100000 in
theorem thrumref11_Votes.calls (k : Nat) (A0 : Option Addr) (c0 : Nat) (l0 : List (List Bool)) (r1 : List Bool) (r2 : Int) (w : World) (hr0 : Kd.C (Kd.slice 4 Kd.bool) w A0 l0.length l0) (hc0 : l0.length ≤ c0) (h : thrumref11_Votes.f k l0 = some (r1, r2)) :
    Calls Try.prog 86 #[.slice A0 l0.length c0] w fun e w' => ∃ v0_ : Value, e = .returned (.tuple #[v0_, .int .i64 r2]) ∧ Kd.R Kd.bool 4 w' w.heap.size (fun _ => True) v0_ r1 ∧ Below w.heap.size w w' := by
  have HR0 := Aside0.mk hr0
  have HC0 := Aside0.mk hc0
  clear hr0 hc0
  have HB := Aside0.mk (Below.refl w.heap.size w)
  have H : ((thrumref11_fit.f k l0).bind fun t487 => (if t487 = 0 then (thrumref11_Votes.j0 k l0 t487 ((l0.length : Int) == 0)) else (thrumref11_Votes.j0 k l0 t487 true))) = some (r1, r2) := h
  clear h
  replace H := Option.bind_eq_some_iff.mp H
  obtain ⟨t487, A20, H⟩ := H
  replace H : (if t487 = 0 then (thrumref11_Votes.j0 k l0 t487 ((l0.length : Int) == 0)) else (thrumref11_Votes.j0 k l0 t487 true)) = some (r1, r2) := H
  have A2 := Aside0.mk A20
  clear A20
  have HC3 := Aside0.mk H
  clear H
  go_enter Try.func86, Try.ntmps86
  go_upto_region 2 with (first | ((with_reducible refine gate_callee (f := 125) rfl ?_); refine goesL_ (some 11) rfl rfl Try.func125 (by kernel_rfl) rfl #[.slice A0 l0.length c0] rfl (by (try simp only [List.map_toArray, List.map_cons, List.map_nil]); first | done | rfl | (simp only [List.length_drop, List.length_take]; rfl)) ?_; (with_reducible refine (thrumref11_fit.calls k _ _ l0 t487 _ ?side1 ?side2 A2.out).mono ?_); (case side1 => repeat (first | exact HR0.out | (with_reducible refine Kd.C_alloc ?_ _) | (with_reducible refine Kd.C_drewN ?_ _) | (with_reducible refine Kd.C_drew ?_))); (case side2 => exact HC0.out); rintro e w' ⟨rfl, ⟨nd, rfl⟩⟩; refine ⟨_, rfl, ?_⟩))
  (try simp only [Act.put, List.setIfInBounds_toArray, List.set_cons_zero, List.set_cons_succ])
  go_cut [18] (fun v18 wc => ∃ (kq : Nat) (x18_2 : Bool), v18 = .bool x18_2 ∧ Aside0 (thrumref11_Votes.j0 kq l0 t487 x18_2 = some (r1, r2)) ∧ Aside0 (kq ≤ k) ∧ Aside0 (Below w.heap.size w wc))
  case first =>
    have H := HC3.out
    clear HC3
    by_cases c4 : t487 = 0
    · rw [if_pos c4] at H
      have c4b0 : (t487 == 0) = true := beq_iff_eq.mpr c4
      have c4b1 : (t487 != 0) = false := bne_eq_false_iff_eq.mpr c4
      clear c4
      (first | rw [c4b0] | (simp only [i64_w, i32_w]; rw [c4b0]) | skip)
      have H' := Aside0.mk H
      clear H
      go_wp2
      go_meet
      case rel => exact ⟨_, (((l0.length : Int) == 0)), (by first | rfl | (simp; done) | (simp [*]; done)), H', ⟨by first | omega | exact Nat.le_refl _⟩, ⟨by repeat (first | (with_reducible first | exact HB.out | apply below_alloc | apply pw_below_drewN | apply below_drew1) | exact HB.out)⟩⟩
    · rw [if_neg c4] at H
      have c4b0 : (t487 == 0) = false := beq_eq_false_iff_ne.mpr c4
      have c4b1 : (t487 != 0) = true := bne_iff_ne.mpr c4
      (first | rw [c4b0] | (simp only [i64_w, i32_w]; rw [c4b0]) | skip)
      have H' := Aside0.mk H
      clear H
      go_wp2
      go_meet
      case rel => exact ⟨_, (true), (by first | rfl | (simp; done) | (simp [*]; done)), H', ⟨by first | omega | exact Nat.le_refl _⟩, ⟨by repeat (first | (with_reducible first | exact HB.out | apply below_alloc | apply pw_below_drewN | apply below_drew1) | exact HB.out)⟩⟩
  case rest =>
    clear HC3
    try clear c1
    try clear p2
    try clear c4
    try clear c4b0
    try clear c4b1
    obtain ⟨kq, x18_2, rfl, HA, HJ2, HB⟩ := hcut
    cases kq with
    | zero => exact absurd HA.out (by simp [thrumref11_Votes.j0])
    | succ kj2 =>
      have H := HA.out
      clear HA
      simp only [thrumref11_Votes.j0] at H
      by_cases c5 : x18_2 = true
      · subst c5
        have H1 : (some (([] : List Bool), t487)) = some (r1, r2) := by rw [if_pos rfl] at H; exact H
        clear H
        have H := H1
        clear H1
        simp only [Option.some.injEq, Prod.mk.injEq] at H
        obtain ⟨rfl, rfl⟩ := H
        go_wp2
        go_ret2
        exact ⟨_, by first | rfl | (simp [errW_none, errW_some] <;> rfl) | (simp [*, errW_none, errW_some] <;> rfl), by first | exact Kd.R_nil _ _ _ _ _ | exact Kd.N_nil _ _ _ _ _ | exact Kd.V_nil _ _ _ _ _ | exact Kd.Q_nil _ _ _ _ _ | exact Kd.S_nil _ _ _ _ _, by repeat (first | (with_reducible first | exact HB.out | apply below_alloc | apply pw_below_drewN | apply below_drew1) | exact HB.out)⟩
      · replace c5 := Bool.eq_false_iff.mpr c5
        subst c5
        have H1 : (if 0 < (l0.length : Int) then (thrumref11_Votes.l0 kj2 l0 ([] : List Bool) ((rd_L3 l0 0).length : Int) 0) else (none)) = some (r1, r2) := by rw [if_neg (show ¬ (false = true) by decide)] at H; exact H
        clear H
        have H := H1
        clear H1
        by_cases c6 : 0 < (l0.length : Int)
        · rw [if_pos c6] at H
          have c6b0 : decide (0 < (l0.length : Int)) = true := decide_eq_true c6
          have c6b1 : decide (0 < l0.length) = true := decide_eq_true (by omega)
          clear c6
          have H' := Aside0.mk H
          clear H
          have p488 : 0 ≤ (0 : Int) := (by omega)
          have q488 : 0 < (l0.length : Int) := of_decide_eq_true (by first | (with_reducible assumption) | assumption)
          obtain ⟨ad488, A488_0, c488_0, e488, hx488_0, hl488_0, hi488_0⟩ := at_L3 HR0.out 0 p488 q488
          cases e488
          have qi488 : (0 < l0.length) = True := eq_true (by omega)
          (try rw [show ((0 : Int)).toNat = 0 from rfl] at hx488_0)
          (try rw [Addr.add_zero'] at hx488_0)
          replace hx488_0 := (HB.out.cell (World.block_lt_of_cell? w _ hx488_0)).trans hx488_0
          have HR488_0 := Aside0.mk hi488_0
          have HC488_0 := Aside0.mk hl488_0
          clear hi488_0 hl488_0
          replace p488 := eq_true p488
          replace q488 := eq_true q488
          go_wp2
          go_loopg [5, 24] kj2 (fun kq v5 v24 w' => ∃ (x5_2 : List Bool) (x24_2 : Int), v24 = .int .i64 x24_2 ∧ Aside0 (thrumref11_Votes.l0 kq l0 x5_2 ((rd_L3 l0 0).length : Int) x24_2 = some (r1, r2)) ∧ Aside0 (kq ≤ kj2) ∧ Aside0 (Kd.R Kd.bool 4 w' w.heap.size (fun _ => True) v5 x5_2) ∧ Aside0 (Below w.heap.size w w'))
          case atStart => exact ⟨(([] : List Bool)), (0), (by first | rfl | (simp; done) | (simp [*]; done)), H', ⟨Nat.le_refl _⟩, ⟨by first | exact Kd.R_nil _ _ _ _ _ | exact Kd.N_nil _ _ _ _ _ | exact Kd.V_nil _ _ _ _ _ | exact Kd.Q_nil _ _ _ _ _ | exact Kd.S_nil _ _ _ _ _⟩, ⟨by repeat (first | (with_reducible first | exact HB.out | apply below_alloc | apply pw_below_drewN | apply below_drew1) | exact HB.out)⟩⟩
          case round =>
            clear H'
            try clear c1
            try clear p2
            try clear c4
            try clear c4b0
            try clear c4b1
            try clear p4
            try clear q4
            try clear hx4
            try clear qi4
            try clear c5
            try clear c6
            try clear c6b0
            try clear c6b1
            try clear hx488_0
            try clear p2
            try clear p488
            try clear q488
            obtain ⟨x5_2, x24_2, rfl, HA, HK2, HO_5, HB⟩ := hrel
            cases gk with
            | zero => exact absurd HA.out (by simp [thrumref11_Votes.l0])
            | succ k2 =>
              have H := HA.out
              clear HA
              simp only [thrumref11_Votes.l0] at H
              by_cases c7 : x24_2 < ((rd_L3 l0 0).length : Int)
              · rw [if_pos c7] at H
                have c7b0 : decide (x24_2 < ((rd_L3 l0 0).length : Int)) = true := decide_eq_true c7
                clear c7
                have H' := Aside0.mk H
                clear H
                go_wp2
                go_loopg [7, 29] k2 (fun kq v7 v29 w' => ∃ (x7_3 : Int) (x29_3 : Int), v7 = .int .i64 x7_3 ∧ v29 = .int .i64 x29_3 ∧ Aside0 (thrumref11_Votes.l1 kq l0 x5_2 x24_2 x7_3 ((rd_L3 l0 0).length : Int) x24_2 l0 (l0.length : Int) x29_3 = some (r1, r2)) ∧ Aside0 (kq ≤ k2) ∧ Aside0 (Kd.R Kd.bool 4 w' w.heap.size (fun _ => True) u5 x5_2) ∧ Aside0 (Below w.heap.size w w'))
                case atStart => exact ⟨(0), (0), (by first | rfl | (simp; done) | (simp [*]; done)), (by first | rfl | (simp; done) | (simp [*]; done)), H', ⟨Nat.le_refl _⟩, ⟨by (with_reducible repeat (first | apply Kd.R_alloc | apply Kd.R_drewN | apply Kd.R_drew)); exact HO_5.out⟩, ⟨by repeat (first | (with_reducible first | exact HB.out | apply below_alloc | apply pw_below_drewN | apply below_drew1) | exact HB.out)⟩⟩
                case round =>
                  clear H'
                  try clear c1
                  try clear p2
                  try clear c4
                  try clear c4b0
                  try clear c4b1
                  try clear p4
                  try clear q4
                  try clear hx4
                  try clear qi4
                  try clear c5
                  try clear c6
                  try clear c6b0
                  try clear c6b1
                  try clear c7
                  try clear c7b0
                  try clear hx488_0
                  try clear p2
                  try clear p4
                  try clear p488
                  try clear q4
                  try clear q488
                  obtain ⟨x7_3, x29_3, rfl, rfl, HA, HK3, HO_5, HB⟩ := hrel
                  cases gk with
                  | zero => exact absurd HA.out (by simp [thrumref11_Votes.l1])
                  | succ k3 =>
                    have H := HA.out
                    clear HA
                    simp only [thrumref11_Votes.l1] at H
                    by_cases c8 : x29_3 < (l0.length : Int)
                    · rw [if_pos c8] at H
                      have c8b0 : decide (x29_3 < (l0.length : Int)) = true := decide_eq_true c8
                      clear c8
                      by_cases c9 : 0 ≤ x29_3
                      · rw [if_pos c9] at H
                        have c9b0 : decide (0 ≤ x29_3) = true := decide_eq_true c9
                        clear c9
                        by_cases c10 : x29_3 < (l0.length : Int)
                        · rw [if_pos c10] at H
                          have c10b0 : decide (x29_3 < (l0.length : Int)) = true := decide_eq_true c10
                          clear c10
                          by_cases c11 : 0 ≤ x24_2
                          · rw [if_pos c11] at H
                            have c11b0 : decide (0 ≤ x24_2) = true := decide_eq_true c11
                            clear c11
                            by_cases c12 : x24_2 < ((rd_L3 l0 x29_3).length : Int)
                            · rw [if_pos c12] at H
                              have c12b0 : decide (x24_2 < ((rd_L3 l0 x29_3).length : Int)) = true := decide_eq_true c12
                              clear c12
                              obtain ⟨bq13, hbq13⟩ : ∃ b_ : Bool, b_ = (rdOf false (rd_L3 l0 x29_3) x24_2) := ⟨_, rfl⟩
                              replace H : (if bq13 = true then (thrumref11_Votes.l1 k3 l0 x5_2 x24_2 (wrap64 (x7_3 + 1)) ((rd_L3 l0 0).length : Int) x24_2 l0 (l0.length : Int) (wrap64 (x29_3 + 1))) else (thrumref11_Votes.l1 k3 l0 x5_2 x24_2 x7_3 ((rd_L3 l0 0).length : Int) x24_2 l0 (l0.length : Int) (wrap64 (x29_3 + 1)))) = some (r1, r2) := by rw [← hbq13] at H; exact H
                              have Nbq13 := Aside0.mk hbq13
                              clear hbq13
                              by_cases c14 : bq13 = true
                              · subst c14
                                have H1 : (thrumref11_Votes.l1 k3 l0 x5_2 x24_2 (wrap64 (x7_3 + 1)) ((rd_L3 l0 0).length : Int) x24_2 l0 (l0.length : Int) (wrap64 (x29_3 + 1))) = some (r1, r2) := by rw [if_pos rfl] at H; exact H
                                clear H
                                have H := H1
                                clear H1
                                have H' := Aside0.mk H
                                clear H
                                have p489 : 0 ≤ (x29_3 : Int) := of_decide_eq_true (by first | (with_reducible assumption) | assumption)
                                have q489 : x29_3 < (l0.length : Int) := of_decide_eq_true (by first | (with_reducible assumption) | assumption)
                                obtain ⟨ad489, A489_0, c489_0, e489, hx489_0, hl489_0, hi489_0⟩ := at_L3 HR0.out x29_3 p489 q489
                                obtain rfl : ad488 = ad489 := (by injection e489)
                                replace hx489_0 := (HB.out.cell (World.block_lt_of_cell? w _ hx489_0)).trans hx489_0
                                have HR489_0 := Aside0.mk hi489_0
                                have HC489_0 := Aside0.mk hl489_0
                                clear hi489_0 hl489_0
                                replace p489 := eq_true p489
                                replace q489 := eq_true q489
                                have p490 : 0 ≤ (x24_2 : Int) := of_decide_eq_true (by first | (with_reducible assumption) | assumption)
                                have q490 : x24_2 < ((rd_L3 l0 x29_3).length : Int) := of_decide_eq_true (by first | (with_reducible assumption) | assumption)
                                obtain ⟨ad490, e490, hx490_0⟩ := Kd.at_bool HR489_0.out x24_2 p490 q490
                                (try rw [← Nbq13.out] at hx490_0)
                                cases e490
                                replace hx490_0 := (HB.out.cell (World.block_lt_of_cell? w _ hx490_0)).trans hx490_0
                                replace p490 := eq_true p490
                                replace q490 := eq_true q490
                                go_wp2
                                go_roundg k3
                                case measure => have := HJ2.out; have := HK2.out; have := HK3.out; omega
                                case rel => exact ⟨(wrap64 (x7_3 + 1)), (wrap64 (x29_3 + 1)), (by first | rfl | (simp; done) | (simp [*]; done)), (by first | rfl | (simp; done) | (simp [*]; done)), H', ⟨by have := HJ2.out; have := HK2.out; have := HK3.out; omega⟩, ⟨by (with_reducible repeat (first | apply Kd.R_alloc | apply Kd.R_drewN | apply Kd.R_drew)); exact HO_5.out⟩, ⟨by repeat (first | (with_reducible first | exact HB.out | apply below_alloc | apply pw_below_drewN | apply below_drew1) | exact HB.out)⟩⟩
                              · replace c14 := Bool.eq_false_iff.mpr c14
                                subst c14
                                have H1 : (thrumref11_Votes.l1 k3 l0 x5_2 x24_2 x7_3 ((rd_L3 l0 0).length : Int) x24_2 l0 (l0.length : Int) (wrap64 (x29_3 + 1))) = some (r1, r2) := by rw [if_neg (show ¬ (false = true) by decide)] at H; exact H
                                clear H
                                have H := H1
                                clear H1
                                have H' := Aside0.mk H
                                clear H
                                have p489 : 0 ≤ (x29_3 : Int) := of_decide_eq_true (by first | (with_reducible assumption) | assumption)
                                have q489 : x29_3 < (l0.length : Int) := of_decide_eq_true (by first | (with_reducible assumption) | assumption)
                                obtain ⟨ad489, A489_0, c489_0, e489, hx489_0, hl489_0, hi489_0⟩ := at_L3 HR0.out x29_3 p489 q489
                                obtain rfl : ad488 = ad489 := (by injection e489)
                                replace hx489_0 := (HB.out.cell (World.block_lt_of_cell? w _ hx489_0)).trans hx489_0
                                have HR489_0 := Aside0.mk hi489_0
                                have HC489_0 := Aside0.mk hl489_0
                                clear hi489_0 hl489_0
                                replace p489 := eq_true p489
                                replace q489 := eq_true q489
                                have p490 : 0 ≤ (x24_2 : Int) := of_decide_eq_true (by first | (with_reducible assumption) | assumption)
                                have q490 : x24_2 < ((rd_L3 l0 x29_3).length : Int) := of_decide_eq_true (by first | (with_reducible assumption) | assumption)
                                obtain ⟨ad490, e490, hx490_0⟩ := Kd.at_bool HR489_0.out x24_2 p490 q490
                                (try rw [← Nbq13.out] at hx490_0)
                                cases e490
                                replace hx490_0 := (HB.out.cell (World.block_lt_of_cell? w _ hx490_0)).trans hx490_0
                                replace p490 := eq_true p490
                                replace q490 := eq_true q490
                                go_wp2
                                go_roundg k3
                                case measure => have := HJ2.out; have := HK2.out; have := HK3.out; omega
                                case rel => exact ⟨(x7_3), (wrap64 (x29_3 + 1)), (by first | rfl | (simp; done) | (simp [*]; done)), (by first | rfl | (simp; done) | (simp [*]; done)), H', ⟨by have := HJ2.out; have := HK2.out; have := HK3.out; omega⟩, ⟨by (with_reducible repeat (first | apply Kd.R_alloc | apply Kd.R_drewN | apply Kd.R_drew)); exact HO_5.out⟩, ⟨by repeat (first | (with_reducible first | exact HB.out | apply below_alloc | apply pw_below_drewN | apply below_drew1) | exact HB.out)⟩⟩
                            · rw [if_neg c12] at H
                              exact absurd H (by simp)
                          · rw [if_neg c11] at H
                            exact absurd H (by simp)
                        · rw [if_neg c10] at H
                          exact absurd H (by simp)
                      · rw [if_neg c9] at H
                        exact absurd H (by simp)
                    · rw [if_neg c8] at H
                      have c8b0 : decide (x29_3 < (l0.length : Int)) = false := decide_eq_false c8
                      clear c8
                      by_cases c15 : x5_2.length < 140737488355328
                      · rw [if_pos c15] at H
                        have LMc15 := Aside0.mk c15
                        clear c15
                        obtain ⟨y491, hy491⟩ : ∃ y_ : List Bool, y_ = (x5_2 ++ [decide ((wrap64 (2 * x7_3)) > (l0.length : Int))]) := ⟨_, rfl⟩
                        replace H : (thrumref11_Votes.l0 k3 l0 y491 ((rd_L3 l0 0).length : Int) (wrap64 (x24_2 + 1))) = some (r1, r2) := by first | (rw [hy491]; with_reducible exact H) | (have H2_ := (Option.bind_some _ _).symm.trans H; rw [hy491]; with_reducible exact H2_) | (have H2_ := (Option.bind_some _ _).symm.trans H; with_reducible exact H2_) | with_reducible exact H | (rw [hy491]; exact H) | exact H
                        have Ny491 := Aside0.mk hy491
                        clear hy491
                        have H' := Aside0.mk H
                        clear H
                        go_wp2_with (first | ((with_reducible refine gate_builtin (b := .append) (xs := #[.tmp 40, .tmp 46]) rfl ?_); (try (refine gate_guard (by rfl) ?_; dsimp only)); at_builtin; refine Kd.R_append Kd.bool (w0 := w) w.heap.size rfl (.tmp 40) (.tmp 46) 49 4 (.bool false) 1 rfl Try.underlying49 info4 rfl (by decide) (by omega) u5 x5_2 (decide ((wrap64 (2 * x7_3)) > (l0.length : Int))) [.bool (decide ((wrap64 (2 * x7_3)) > (l0.length : Int)))] (fun _ => True) (fun _ => False) rfl rfl ?aP (fun _ hk => hk.elim) ?aF ?aO ?aB ?aS ?aL ?_; (case aP => exact rfl); (case aB => exact (by repeat (first | (with_reducible first | exact HB.out | apply below_alloc | apply pw_below_drewN | apply below_drew1) | exact HB.out))); (case aF => exact (fun _ _ => trivial)); (case aO => exact (by (with_reducible repeat (first | apply Kd.R_alloc | apply Kd.R_drewN | apply Kd.R_drew)); exact HO_5.out)); (case aS => exact (below_size (by repeat (first | (with_reducible first | exact HB.out | apply below_alloc | apply pw_below_drewN | apply below_drew1) | exact HB.out)))); (case aL => have := LMc15.out; omega); intro v492 w16 ho hb hg hat; rw [← Ny491.out] at ho; have n0_ := Aside0.mk (hb); have n1_ := Aside0.mk (ho); clear HB; clear HO_5; have HB := n0_; have HO493 := n1_; clear n0_ n1_; clear ho hb hg hat))
                        go_roundg k3
                        case measure => have := HJ2.out; have := HK2.out; have := HK3.out; omega
                        case rel => exact ⟨(y491), (wrap64 (x24_2 + 1)), (by first | rfl | (simp; done) | (simp [*]; done)), H', ⟨by have := HJ2.out; have := HK2.out; have := HK3.out; omega⟩, ⟨by (with_reducible repeat (first | apply Kd.R_alloc | apply Kd.R_drewN | apply Kd.R_drew)); exact HO493.out⟩, ⟨by repeat (first | (with_reducible first | exact HB.out | apply below_alloc | apply pw_below_drewN | apply below_drew1) | exact HB.out)⟩⟩
                      · rw [if_neg c15] at H
                        exact absurd H (by simp)
              · rw [if_neg c7] at H
                have c7b0 : decide (x24_2 < ((rd_L3 l0 0).length : Int)) = false := decide_eq_false c7
                clear c7
                simp only [Option.some.injEq, Prod.mk.injEq] at H
                obtain ⟨rfl, rfl⟩ := H
                go_wp2
                go_ret2
                exact ⟨_, by first | rfl | (simp [errW_none, errW_some] <;> rfl) | (simp [*, errW_none, errW_some] <;> rfl), by (with_reducible repeat (first | apply Kd.R_alloc | apply Kd.R_drewN | apply Kd.R_drew)); exact HO_5.out, by repeat (first | (with_reducible first | exact HB.out | apply below_alloc | apply pw_below_drewN | apply below_drew1) | exact HB.out)⟩
        · rw [if_neg c6] at H
          exact absurd H (by simp)

end Go.Proofs.Ytllicjinmlkcfaa.HC
