/- What Go functions do, each as a plain Lean function with the same answers, and the proof of it, in every world: printed by the session's driver over the kit's print, with texts by hand. -/
import Derived.Test.YtfbdalnjijdknaaHTx0
import Derived.Test.YtfbdalnjijdknaaHTx14
import Derived.Test.YtfbdalnjijdknaaHTx15
import Derived.Test.YtfbdalnjijdknaaHTx19
import Derived.Test.YtfbdalnjijdknaaHTx22
namespace Go.Proofs.Ytfbdalnjijdknaa.HT
open Go.RowKit Go.Proofs.YtfbdalnjijdknaaW.PrintWords Go.Proofs.YtfbdalnjijdknaaW.PrintLast Go.Proofs.YtfbdalnjijdknaaW.PrintMore
attribute [local go_sem] max2_int min2_int max_two min_two max_three min_three max_four min_four   -- for this text's walks alone
open Go.Proofs.Ytfbdalnjijdknaa.Sp
attribute [local go_sem] Go.Proofs.Ytfbdalnjijdknaa.Sp.u64_not
set_option linter.unusedVariables false
set_option linter.unusedSimpArgs false

/-! ### thrumref13_SoftP: function 51 -/
mutual
def thrumref13_SoftP.j0 : Nat → Int → List Int → Int → Bool → Option (List Int × Int)
  | 0, _, _, _, _ => none
  | k + 1, x0, x1, x6, x33 => if x33 = true then (some (([] : List Int), 1)) else (thrumref13_SoftP.l0 k x0 x1 x6 ([] : List Int) 0 x1 (x1.length : Int) 0)
def thrumref13_SoftP.l0 : Nat → Int → List Int → Int → List Int → Int → List Int → Int → Int → Option (List Int × Int)
  | 0, _, _, _, _, _, _, _, _ => none
  | k + 1, x0, x1, x6, x8, x9, x34, x35, x36 => if x36 < x35 then (if 0 ≤ x36 then (if x36 < (x34.length : Int) then (if 0 ≤ x6 then (if x6 < (x1.length : Int) then ((thrumref01_Sub.f (rd x34 x36) (rd x1 x6)).bind fun bt172 => (if bt172.2 = 0 then ((thrumref13_Exp.f bt172.1 x0).bind fun bt174 => (if bt174.2 = 0 then (if x8.length < 17592186044416 then (thrumref13_SoftP.l0 k x0 x1 x6 (x8 ++ [bt174.1]) (wrap64 (x9 + bt174.1)) x34 x35 (wrap64 (x36 + 1))) else (none)) else (some (([] : List Int), bt174.2)))) else (some (([] : List Int), bt172.2)))) else (none)) else (none)) else (none)) else (none)) else (thrumref13_SoftP.l1 k x0 x9 ([] : List Int) x8 (x8.length : Int) 0)
def thrumref13_SoftP.l1 : Nat → Int → Int → List Int → List Int → Int → Int → Option (List Int × Int)
  | 0, _, _, _, _, _, _ => none
  | k + 1, x0, x9, x15, x69, x70, x71 => if x71 < x70 then (if 0 ≤ x71 then (if x71 < (x69.length : Int) then ((thrumref01_Div.f (rd x69 x71) x9 x0).bind fun bt180 => (if bt180.2 = 0 then (if x15.length < 17592186044416 then (thrumref13_SoftP.l1 k x0 x9 (x15 ++ [bt180.1]) x69 x70 (wrap64 (x71 + 1))) else (none)) else (some (([] : List Int), bt180.2)))) else (none)) else (none)) else (some (x15, 0))
end
def thrumref13_SoftP.f (k : Nat) (a0 : Int) (l1 : List Int) : Option (List Int × Int) := (thrumref13_Best.f l1).bind fun bt168 => (if bt168.2 = 0 then (if a0 < 0 then (thrumref13_SoftP.j0 k a0 l1 bt168.1 true) else (thrumref13_SoftP.j0 k a0 l1 bt168.1 (decide (a0 > 30)))) else (some (([] : List Int), bt168.2)))
theorem thrumref13_SoftP.mono_l : ∀ k, (∀ y0 y1 y2 y3, LeO (thrumref13_SoftP.j0 k y0 y1 y2 y3) (thrumref13_SoftP.j0 (k + 1) y0 y1 y2 y3)) ∧ (∀ y0 y1 y2 y3 y4 y5 y6 y7, LeO (thrumref13_SoftP.l0 k y0 y1 y2 y3 y4 y5 y6 y7) (thrumref13_SoftP.l0 (k + 1) y0 y1 y2 y3 y4 y5 y6 y7)) ∧ (∀ y0 y1 y2 y3 y4 y5, LeO (thrumref13_SoftP.l1 k y0 y1 y2 y3 y4 y5) (thrumref13_SoftP.l1 (k + 1) y0 y1 y2 y3 y4 y5))
  | 0 => ⟨fun _ _ _ _ r h => by simp [thrumref13_SoftP.j0] at h, fun _ _ _ _ _ _ _ _ r h => by simp [thrumref13_SoftP.l0] at h, fun _ _ _ _ _ _ r h => by simp [thrumref13_SoftP.l1] at h⟩
  | k + 1 => by
    obtain ⟨ih0, ih1, ih2⟩ := thrumref13_SoftP.mono_l k
    refine ⟨?_, ?_, ?_⟩
    · intro y0 y1 y2 y3
      unfold thrumref13_SoftP.j0
      repeat' first
      | (with_reducible exact ih0 _ _ _ _)
      | (with_reducible exact ih1 _ _ _ _ _ _ _ _)
      | (with_reducible exact ih2 _ _ _ _ _ _)
      | (with_reducible exact LeO.refl _)
      | (with_reducible exact LeO.none _)
      | (with_reducible refine LeO.ite ?_ ?_)
      | (with_reducible refine LeO.bind ?_ (fun _ => ?_))
      | exact ih0 _ _ _ _
      | exact ih1 _ _ _ _ _ _ _ _
      | exact ih2 _ _ _ _ _ _
      | exact LeO.none _
      | refine LeO.ite ?_ ?_
      | refine LeO.bind ?_ (fun _ => ?_)
    · intro y0 y1 y2 y3 y4 y5 y6 y7
      unfold thrumref13_SoftP.l0
      repeat' first
      | (with_reducible exact ih0 _ _ _ _)
      | (with_reducible exact ih1 _ _ _ _ _ _ _ _)
      | (with_reducible exact ih2 _ _ _ _ _ _)
      | (with_reducible exact LeO.refl _)
      | (with_reducible exact LeO.none _)
      | (with_reducible refine LeO.ite ?_ ?_)
      | (with_reducible refine LeO.bind ?_ (fun _ => ?_))
      | exact ih0 _ _ _ _
      | exact ih1 _ _ _ _ _ _ _ _
      | exact ih2 _ _ _ _ _ _
      | exact LeO.none _
      | refine LeO.ite ?_ ?_
      | refine LeO.bind ?_ (fun _ => ?_)
    · intro y0 y1 y2 y3 y4 y5
      unfold thrumref13_SoftP.l1
      repeat' first
      | (with_reducible exact ih0 _ _ _ _)
      | (with_reducible exact ih1 _ _ _ _ _ _ _ _)
      | (with_reducible exact ih2 _ _ _ _ _ _)
      | (with_reducible exact LeO.refl _)
      | (with_reducible exact LeO.none _)
      | (with_reducible refine LeO.ite ?_ ?_)
      | (with_reducible refine LeO.bind ?_ (fun _ => ?_))
      | exact ih0 _ _ _ _
      | exact ih1 _ _ _ _ _ _ _ _
      | exact ih2 _ _ _ _ _ _
      | exact LeO.none _
      | refine LeO.ite ?_ ?_
      | refine LeO.bind ?_ (fun _ => ?_)
theorem thrumref13_SoftP.mono : ∀ a0 a1 k, LeO (thrumref13_SoftP.f k a0 a1) (thrumref13_SoftP.f (k + 1) a0 a1) := by
  intro a0 a1 k
  obtain ⟨ih0, ih1, ih2⟩ := thrumref13_SoftP.mono_l k
  unfold thrumref13_SoftP.f
  repeat' first
      | (with_reducible exact ih0 _ _ _ _)
      | (with_reducible exact ih1 _ _ _ _ _ _ _ _)
      | (with_reducible exact ih2 _ _ _ _ _ _)
      | (with_reducible exact LeO.refl _)
      | (with_reducible exact LeO.none _)
      | (with_reducible refine LeO.ite ?_ ?_)
      | (with_reducible refine LeO.bind ?_ (fun _ => ?_))
      | exact ih0 _ _ _ _
      | exact ih1 _ _ _ _ _ _ _ _
      | exact ih2 _ _ _ _ _ _
      | exact LeO.none _
      | refine LeO.ite ?_ ?_
      | refine LeO.bind ?_ (fun _ => ?_)
set_option maxHeartbeats 8000000 in
set_option maxRecDepth 100000 in
theorem thrumref13_SoftP.calls (k : Nat) (a0 : Int) (A1 : Option Addr) (c1 : Nat) (l1 : List Int) (r1 : List Int) (r2 : Int) (w : World) (hr1 : Kd.C (Kd.int .i64) w A1 l1.length l1) (hc1 : l1.length ≤ c1) (h : thrumref13_SoftP.f k a0 l1 = some (r1, r2)) :
    Calls Try.prog 51 #[.int .i64 a0, .slice A1 l1.length c1] w fun e w' => ∃ v0_ : Value, e = .returned (.tuple #[v0_, .int .i64 r2]) ∧ Kd.R (Kd.int .i64) 2 w' w.heap.size (fun _ => True) v0_ r1 ∧ Below w.heap.size w w' := by
  have HR1 := Aside0.mk hr1
  have HC1 := Aside0.mk hc1
  clear hr1 hc1
  have HB := Aside0.mk (Below.refl w.heap.size w)
  have H : ((thrumref13_Best.f l1).bind fun bt168 => (if bt168.2 = 0 then (if a0 < 0 then (thrumref13_SoftP.j0 k a0 l1 bt168.1 true) else (thrumref13_SoftP.j0 k a0 l1 bt168.1 (decide (a0 > 30)))) else (some (([] : List Int), bt168.2)))) = some (r1, r2) := h
  clear h
  replace H := Option.bind_eq_some_iff.mp H
  obtain ⟨⟨t168, t169⟩, A30, H⟩ := H
  replace H : (if t169 = 0 then (if a0 < 0 then (thrumref13_SoftP.j0 k a0 l1 t168 true) else (thrumref13_SoftP.j0 k a0 l1 t168 (decide (a0 > 30)))) else (some (([] : List Int), t169))) = some (r1, r2) := H
  have A3 := Aside0.mk A30
  clear A30
  by_cases c4 : t169 = 0
  · rw [if_pos c4] at H
    have c4b0 : (t169 == 0) = true := beq_iff_eq.mpr c4
    have c4b1 : (t169 != 0) = false := bne_eq_false_iff_eq.mpr c4
    clear c4
    have HC5 := Aside0.mk H
    clear H
    go_enter Try.func51, Try.ntmps51
    go_upto_region 4 with (first | ((with_reducible refine gate_callee (f := 53) rfl ?_); refine goesL_ (some 22) rfl rfl Try.func53 (by kernel_rfl) rfl #[.slice A1 l1.length c1] rfl (by (try simp only [List.map_toArray, List.map_cons, List.map_nil]); first | done | rfl | (simp only [List.length_drop, List.length_take]; rfl)) ?_; (with_reducible refine (thrumref13_Best.calls _ _ l1 t168 t169 _ ?side1 ?side2 A3.out).mono ?_); (case side1 => repeat (first | exact HR1.out | (with_reducible refine Kd.C_alloc ?_ _) | (with_reducible refine Kd.C_drewN ?_ _) | (with_reducible refine Kd.C_drew ?_))); (case side2 => exact HC1.out); rintro e w' ⟨rfl, ⟨nd, rfl⟩⟩; refine ⟨_, rfl, ?_⟩))
    (try simp only [Act.put, List.setIfInBounds_toArray, List.set_cons_zero, List.set_cons_succ])
    go_cut [33] (fun v33 wc => ∃ (kq : Nat) (x33_4 : Bool), v33 = .bool x33_4 ∧ Aside0 (thrumref13_SoftP.j0 kq a0 l1 t168 x33_4 = some (r1, r2)) ∧ Aside0 (kq ≤ k) ∧ Aside0 (Below w.heap.size w wc))
    case first =>
      have H := HC5.out
      clear HC5
      by_cases c6 : a0 < 0
      · rw [if_pos c6] at H
        have c6b0 : decide (a0 < 0) = true := decide_eq_true c6
        clear c6
        (first | rw [c6b0] | (simp only [i64_w, i32_w]; rw [c6b0]) | skip)
        have H' := Aside0.mk H
        clear H
        go_wp2
        go_meet
        case rel => exact ⟨_, (true), (by first | rfl | (simp; done) | (simp [*]; done)), H', ⟨by first | omega | exact Nat.le_refl _⟩, ⟨by repeat (first | (with_reducible first | exact HB.out | apply below_alloc | apply pw_below_drewN | apply below_drew1) | exact HB.out)⟩⟩
      · rw [if_neg c6] at H
        have c6b0 : decide (a0 < 0) = false := decide_eq_false c6
        clear c6
        (first | rw [c6b0] | (simp only [i64_w, i32_w]; rw [c6b0]) | skip)
        have H' := Aside0.mk H
        clear H
        go_wp2
        go_meet
        case rel => exact ⟨_, (decide (a0 > 30)), (by first | rfl | (simp; done) | (simp [*]; done)), H', ⟨by first | omega | exact Nat.le_refl _⟩, ⟨by repeat (first | (with_reducible first | exact HB.out | apply below_alloc | apply pw_below_drewN | apply below_drew1) | exact HB.out)⟩⟩
    case rest =>
      clear HC5
      try clear c1
      try clear p2
      try clear c4
      try clear c4b0
      try clear c4b1
      try clear c5
      try clear c6
      try clear c6b0
      obtain ⟨kq, x33_4, rfl, HA, HJ4, HB⟩ := hcut
      cases kq with
      | zero => exact absurd HA.out (by simp [thrumref13_SoftP.j0])
      | succ kj4 =>
        have H := HA.out
        clear HA
        simp only [thrumref13_SoftP.j0] at H
        by_cases c7 : x33_4 = true
        · subst c7
          have H1 : (some (([] : List Int), 1)) = some (r1, r2) := by rw [if_pos rfl] at H; exact H
          clear H
          have H := H1
          clear H1
          simp only [Option.some.injEq, Prod.mk.injEq] at H
          obtain ⟨rfl, rfl⟩ := H
          go_wp2
          go_ret2
          exact ⟨_, by first | rfl | (simp [errW_none, errW_some] <;> rfl) | (simp [*, errW_none, errW_some] <;> rfl), by first | exact Kd.R_nil _ _ _ _ _ | exact Kd.N_nil _ _ _ _ _ | exact Kd.V_nil _ _ _ _ _ | exact Kd.Q_nil _ _ _ _ _ | exact Kd.S_nil _ _ _ _ _, by repeat (first | (with_reducible first | exact HB.out | apply below_alloc | apply pw_below_drewN | apply below_drew1) | exact HB.out)⟩
        · replace c7 := Bool.eq_false_iff.mpr c7
          subst c7
          have H1 : (thrumref13_SoftP.l0 kj4 a0 l1 t168 ([] : List Int) 0 l1 (l1.length : Int) 0) = some (r1, r2) := by rw [if_neg (show ¬ (false = true) by decide)] at H; exact H
          clear H
          have H := H1
          clear H1
          have H' := Aside0.mk H
          clear H
          go_wp2
          go_loopg [8, 9, 36] kj4 (fun kq v8 v9 v36 w' => ∃ (x8_2 : List Int) (x9_2 : Int) (x36_2 : Int), v9 = .int .i64 x9_2 ∧ v36 = .int .i64 x36_2 ∧ Aside0 (thrumref13_SoftP.l0 kq a0 l1 t168 x8_2 x9_2 l1 (l1.length : Int) x36_2 = some (r1, r2)) ∧ Aside0 (kq ≤ kj4) ∧ Aside0 (Kd.R (Kd.int .i64) 2 w' w.heap.size (fun _ => True) v8 x8_2) ∧ Aside0 (Below w.heap.size w w'))
          case atStart => exact ⟨(([] : List Int)), (0), (0), (by first | rfl | (simp; done) | (simp [*]; done)), (by first | rfl | (simp; done) | (simp [*]; done)), H', ⟨Nat.le_refl _⟩, ⟨by first | exact Kd.R_nil _ _ _ _ _ | exact Kd.N_nil _ _ _ _ _ | exact Kd.V_nil _ _ _ _ _ | exact Kd.Q_nil _ _ _ _ _ | exact Kd.S_nil _ _ _ _ _⟩, ⟨by repeat (first | (with_reducible first | exact HB.out | apply below_alloc | apply pw_below_drewN | apply below_drew1) | exact HB.out)⟩⟩
          case round =>
            clear H'
            try clear c1
            try clear p2
            try clear c4
            try clear c4b0
            try clear c4b1
            try clear c5
            try clear c6
            try clear c6b0
            try clear c7
            try clear p2
            obtain ⟨x8_2, x9_2, x36_2, rfl, rfl, HA, HK2, HO_8, HB⟩ := hrel
            cases gk with
            | zero => exact absurd HA.out (by simp [thrumref13_SoftP.l0])
            | succ k2 =>
              have H := HA.out
              clear HA
              simp only [thrumref13_SoftP.l0] at H
              by_cases c8 : x36_2 < (l1.length : Int)
              · rw [if_pos c8] at H
                have c8b0 : decide (x36_2 < (l1.length : Int)) = true := decide_eq_true c8
                clear c8
                by_cases c9 : 0 ≤ x36_2
                · rw [if_pos c9] at H
                  have c9b0 : decide (0 ≤ x36_2) = true := decide_eq_true c9
                  clear c9
                  by_cases c10 : x36_2 < (l1.length : Int)
                  · rw [if_pos c10] at H
                    have c10b0 : decide (x36_2 < (l1.length : Int)) = true := decide_eq_true c10
                    clear c10
                    by_cases c11 : 0 ≤ t168
                    · rw [if_pos c11] at H
                      have c11b0 : decide (0 ≤ t168) = true := decide_eq_true c11
                      clear c11
                      by_cases c12 : t168 < (l1.length : Int)
                      · rw [if_pos c12] at H
                        have c12b0 : decide (t168 < (l1.length : Int)) = true := decide_eq_true c12
                        clear c12
                        replace H := Option.bind_eq_some_iff.mp H
                        obtain ⟨⟨t172, t173⟩, A130, H⟩ := H
                        replace H : (if t173 = 0 then ((thrumref13_Exp.f t172 a0).bind fun bt174 => (if bt174.2 = 0 then (if x8_2.length < 17592186044416 then (thrumref13_SoftP.l0 k2 a0 l1 t168 (x8_2 ++ [bt174.1]) (wrap64 (x9_2 + bt174.1)) l1 (l1.length : Int) (wrap64 (x36_2 + 1))) else (none)) else (some (([] : List Int), bt174.2)))) else (some (([] : List Int), t173))) = some (r1, r2) := H
                        have A13 := Aside0.mk A130
                        clear A130
                        by_cases c14 : t173 = 0
                        · rw [if_pos c14] at H
                          have c14b0 : (t173 == 0) = true := beq_iff_eq.mpr c14
                          have c14b1 : (t173 != 0) = false := bne_eq_false_iff_eq.mpr c14
                          clear c14
                          replace H := Option.bind_eq_some_iff.mp H
                          obtain ⟨⟨t174, t175⟩, A150, H⟩ := H
                          replace H : (if t175 = 0 then (if x8_2.length < 17592186044416 then (thrumref13_SoftP.l0 k2 a0 l1 t168 (x8_2 ++ [t174]) (wrap64 (x9_2 + t174)) l1 (l1.length : Int) (wrap64 (x36_2 + 1))) else (none)) else (some (([] : List Int), t175))) = some (r1, r2) := H
                          have A15 := Aside0.mk A150
                          clear A150
                          by_cases c16 : t175 = 0
                          · rw [if_pos c16] at H
                            have c16b0 : (t175 == 0) = true := beq_iff_eq.mpr c16
                            have c16b1 : (t175 != 0) = false := bne_eq_false_iff_eq.mpr c16
                            clear c16
                            by_cases c17 : x8_2.length < 17592186044416
                            · rw [if_pos c17] at H
                              have LMc17 := Aside0.mk c17
                              clear c17
                              obtain ⟨y176, hy176⟩ : ∃ y_ : List Int, y_ = (x8_2 ++ [t174]) := ⟨_, rfl⟩
                              replace H : (thrumref13_SoftP.l0 k2 a0 l1 t168 y176 (wrap64 (x9_2 + t174)) l1 (l1.length : Int) (wrap64 (x36_2 + 1))) = some (r1, r2) := by first | (rw [hy176]; with_reducible exact H) | (have H2_ := (Option.bind_some _ _).symm.trans H; rw [hy176]; with_reducible exact H2_) | (have H2_ := (Option.bind_some _ _).symm.trans H; with_reducible exact H2_) | with_reducible exact H | (rw [hy176]; exact H) | exact H
                              have Ny176 := Aside0.mk hy176
                              clear hy176
                              have H' := Aside0.mk H
                              clear H
                              have p170 : 0 ≤ (x36_2 : Int) := of_decide_eq_true (by first | (with_reducible assumption) | assumption)
                              have q170 : x36_2 < (l1.length : Int) := of_decide_eq_true (by first | (with_reducible assumption) | assumption)
                              obtain ⟨ad170, e170, hx170_0⟩ := Kd.at_int HR1.out x36_2 p170 q170
                              cases e170
                              replace hx170_0 := (HB.out.cell (World.block_lt_of_cell? w _ hx170_0)).trans hx170_0
                              replace p170 := eq_true p170
                              replace q170 := eq_true q170
                              have p171 : 0 ≤ (t168 : Int) := of_decide_eq_true (by first | (with_reducible assumption) | assumption)
                              have q171 : t168 < (l1.length : Int) := of_decide_eq_true (by first | (with_reducible assumption) | assumption)
                              obtain ⟨ad171, e171, hx171_0⟩ := Kd.at_int HR1.out t168 p171 q171
                              obtain rfl : ad170 = ad171 := (by injection e171)
                              replace hx171_0 := (HB.out.cell (World.block_lt_of_cell? w _ hx171_0)).trans hx171_0
                              replace p171 := eq_true p171
                              replace q171 := eq_true q171
                              go_wp2_with (first | ((with_reducible refine gate_callee (f := 108) rfl ?_); refine goesL_ (some 46) rfl rfl Try.func108 (by kernel_rfl) rfl #[.int .i64 (rd l1 x36_2), .int .i64 (rd l1 t168)] rfl (by (try simp only [List.map_toArray, List.map_cons, List.map_nil]); first | done | rfl | (simp only [List.length_drop, List.length_take]; rfl)) ?_; (with_reducible refine (thrumref01_Sub.calls (rd l1 x36_2) (rd l1 t168) t172 t173 _ A13.out).mono ?_); rintro e w' ⟨rfl, ⟨nd, rfl⟩⟩; refine ⟨_, rfl, ?_⟩) | ((with_reducible refine gate_callee (f := 56) rfl ?_); refine goesL_ (some 55) rfl rfl Try.func56 (by kernel_rfl) rfl #[.int .i64 t172, .int .i64 a0] rfl (by (try simp only [List.map_toArray, List.map_cons, List.map_nil]); first | done | rfl | (simp only [List.length_drop, List.length_take]; rfl)) ?_; (with_reducible refine (thrumref13_Exp.calls t172 a0 t174 t175 _ A15.out).mono ?_); rintro e w18 ⟨rfl, hb⟩; refine ⟨_, rfl, ?_⟩; have n0_ := Aside0.mk (Kd.R_below (by (with_reducible repeat (first | apply Kd.R_alloc | apply Kd.R_drewN | apply Kd.R_drew)); exact HO_8.out) hb); have n1_ := Aside0.mk (below_step (by repeat (first | (with_reducible first | exact HB.out | apply below_alloc | apply pw_below_drewN | apply below_drew1) | exact HB.out)) hb); clear HO_8; clear HB; have HO_8 := n0_; have HB := n1_; clear n0_ n1_; (try clear hb); (try clear hb2); (try clear hk); (try clear hi)) | ((with_reducible refine gate_builtin (b := .append) (xs := #[.tmp 61, .tmp 63]) rfl ?_); at_builtin; refine Kd.R_append (Kd.int .i64) (w0 := w) w.heap.size rfl (.tmp 61) (.tmp 63) 22 2 (.int .i64 0) 8 rfl Try.underlying22 info2 rfl (by decide) (by omega) u8 x8_2 t174 [.int .i64 t174] (fun _ => True) (fun _ => False) rfl rfl ?aP (fun _ hk => hk.elim) ?aF ?aO ?aB ?aS ?aL ?_; (case aP => exact rfl); (case aB => exact (by repeat (first | (with_reducible first | exact HB.out | apply below_alloc | apply pw_below_drewN | apply below_drew1) | exact HB.out))); (case aF => exact (fun _ _ => trivial)); (case aO => exact (by (with_reducible repeat (first | apply Kd.R_alloc | apply Kd.R_drewN | apply Kd.R_drew)); exact HO_8.out)); (case aS => exact (below_size (by repeat (first | (with_reducible first | exact HB.out | apply below_alloc | apply pw_below_drewN | apply below_drew1) | exact HB.out)))); (case aL => have := LMc17.out; omega); intro v177 w19 ho hb hg hat; rw [← Ny176.out] at ho; have n0_ := Aside0.mk (hb); have n1_ := Aside0.mk (ho); clear HB; clear HO_8; have HB := n0_; have HO178 := n1_; clear n0_ n1_; clear ho hb hg hat))
                              go_roundg k2
                              case measure => have := HJ4.out; have := HK2.out; omega
                              case rel => exact ⟨(y176), (wrap64 (x9_2 + t174)), (wrap64 (x36_2 + 1)), (by first | rfl | (simp; done) | (simp [*]; done)), (by first | rfl | (simp; done) | (simp [*]; done)), H', ⟨by have := HJ4.out; have := HK2.out; omega⟩, ⟨by (with_reducible repeat (first | apply Kd.R_alloc | apply Kd.R_drewN | apply Kd.R_drew)); exact HO178.out⟩, ⟨by repeat (first | (with_reducible first | exact HB.out | apply below_alloc | apply pw_below_drewN | apply below_drew1) | exact HB.out)⟩⟩
                            · rw [if_neg c17] at H
                              exact absurd H (by simp)
                          · rw [if_neg c16] at H
                            have c16b0 : (t175 == 0) = false := beq_eq_false_iff_ne.mpr c16
                            have c16b1 : (t175 != 0) = true := bne_iff_ne.mpr c16
                            simp only [Option.some.injEq, Prod.mk.injEq] at H
                            obtain ⟨rfl, rfl⟩ := H
                            have p170 : 0 ≤ (x36_2 : Int) := of_decide_eq_true (by first | (with_reducible assumption) | assumption)
                            have q170 : x36_2 < (l1.length : Int) := of_decide_eq_true (by first | (with_reducible assumption) | assumption)
                            obtain ⟨ad170, e170, hx170_0⟩ := Kd.at_int HR1.out x36_2 p170 q170
                            cases e170
                            replace hx170_0 := (HB.out.cell (World.block_lt_of_cell? w _ hx170_0)).trans hx170_0
                            replace p170 := eq_true p170
                            replace q170 := eq_true q170
                            have p171 : 0 ≤ (t168 : Int) := of_decide_eq_true (by first | (with_reducible assumption) | assumption)
                            have q171 : t168 < (l1.length : Int) := of_decide_eq_true (by first | (with_reducible assumption) | assumption)
                            obtain ⟨ad171, e171, hx171_0⟩ := Kd.at_int HR1.out t168 p171 q171
                            obtain rfl : ad170 = ad171 := (by injection e171)
                            replace hx171_0 := (HB.out.cell (World.block_lt_of_cell? w _ hx171_0)).trans hx171_0
                            replace p171 := eq_true p171
                            replace q171 := eq_true q171
                            go_wp2_with (first | ((with_reducible refine gate_callee (f := 108) rfl ?_); refine goesL_ (some 46) rfl rfl Try.func108 (by kernel_rfl) rfl #[.int .i64 (rd l1 x36_2), .int .i64 (rd l1 t168)] rfl (by (try simp only [List.map_toArray, List.map_cons, List.map_nil]); first | done | rfl | (simp only [List.length_drop, List.length_take]; rfl)) ?_; (with_reducible refine (thrumref01_Sub.calls (rd l1 x36_2) (rd l1 t168) t172 t173 _ A13.out).mono ?_); rintro e w' ⟨rfl, ⟨nd, rfl⟩⟩; refine ⟨_, rfl, ?_⟩) | ((with_reducible refine gate_callee (f := 56) rfl ?_); refine goesL_ (some 55) rfl rfl Try.func56 (by kernel_rfl) rfl #[.int .i64 t172, .int .i64 a0] rfl (by (try simp only [List.map_toArray, List.map_cons, List.map_nil]); first | done | rfl | (simp only [List.length_drop, List.length_take]; rfl)) ?_; (with_reducible refine (thrumref13_Exp.calls t172 a0 t174 t175 _ A15.out).mono ?_); rintro e w20 ⟨rfl, hb⟩; refine ⟨_, rfl, ?_⟩; have n0_ := Aside0.mk (Kd.R_below (by (with_reducible repeat (first | apply Kd.R_alloc | apply Kd.R_drewN | apply Kd.R_drew)); exact HO_8.out) hb); have n1_ := Aside0.mk (below_step (by repeat (first | (with_reducible first | exact HB.out | apply below_alloc | apply pw_below_drewN | apply below_drew1) | exact HB.out)) hb); clear HO_8; clear HB; have HO_8 := n0_; have HB := n1_; clear n0_ n1_; (try clear hb); (try clear hb2); (try clear hk); (try clear hi)))
                            go_ret2
                            exact ⟨_, by first | rfl | (simp [errW_none, errW_some] <;> rfl) | (simp [*, errW_none, errW_some] <;> rfl), by first | exact Kd.R_nil _ _ _ _ _ | exact Kd.N_nil _ _ _ _ _ | exact Kd.V_nil _ _ _ _ _ | exact Kd.Q_nil _ _ _ _ _ | exact Kd.S_nil _ _ _ _ _, by repeat (first | (with_reducible first | exact HB.out | apply below_alloc | apply pw_below_drewN | apply below_drew1) | exact HB.out)⟩
                        · rw [if_neg c14] at H
                          have c14b0 : (t173 == 0) = false := beq_eq_false_iff_ne.mpr c14
                          have c14b1 : (t173 != 0) = true := bne_iff_ne.mpr c14
                          simp only [Option.some.injEq, Prod.mk.injEq] at H
                          obtain ⟨rfl, rfl⟩ := H
                          have p170 : 0 ≤ (x36_2 : Int) := of_decide_eq_true (by first | (with_reducible assumption) | assumption)
                          have q170 : x36_2 < (l1.length : Int) := of_decide_eq_true (by first | (with_reducible assumption) | assumption)
                          obtain ⟨ad170, e170, hx170_0⟩ := Kd.at_int HR1.out x36_2 p170 q170
                          cases e170
                          replace hx170_0 := (HB.out.cell (World.block_lt_of_cell? w _ hx170_0)).trans hx170_0
                          replace p170 := eq_true p170
                          replace q170 := eq_true q170
                          have p171 : 0 ≤ (t168 : Int) := of_decide_eq_true (by first | (with_reducible assumption) | assumption)
                          have q171 : t168 < (l1.length : Int) := of_decide_eq_true (by first | (with_reducible assumption) | assumption)
                          obtain ⟨ad171, e171, hx171_0⟩ := Kd.at_int HR1.out t168 p171 q171
                          obtain rfl : ad170 = ad171 := (by injection e171)
                          replace hx171_0 := (HB.out.cell (World.block_lt_of_cell? w _ hx171_0)).trans hx171_0
                          replace p171 := eq_true p171
                          replace q171 := eq_true q171
                          go_wp2_with (first | ((with_reducible refine gate_callee (f := 108) rfl ?_); refine goesL_ (some 46) rfl rfl Try.func108 (by kernel_rfl) rfl #[.int .i64 (rd l1 x36_2), .int .i64 (rd l1 t168)] rfl (by (try simp only [List.map_toArray, List.map_cons, List.map_nil]); first | done | rfl | (simp only [List.length_drop, List.length_take]; rfl)) ?_; (with_reducible refine (thrumref01_Sub.calls (rd l1 x36_2) (rd l1 t168) t172 t173 _ A13.out).mono ?_); rintro e w' ⟨rfl, ⟨nd, rfl⟩⟩; refine ⟨_, rfl, ?_⟩))
                          go_ret2
                          exact ⟨_, by first | rfl | (simp [errW_none, errW_some] <;> rfl) | (simp [*, errW_none, errW_some] <;> rfl), by first | exact Kd.R_nil _ _ _ _ _ | exact Kd.N_nil _ _ _ _ _ | exact Kd.V_nil _ _ _ _ _ | exact Kd.Q_nil _ _ _ _ _ | exact Kd.S_nil _ _ _ _ _, by repeat (first | (with_reducible first | exact HB.out | apply below_alloc | apply pw_below_drewN | apply below_drew1) | exact HB.out)⟩
                      · rw [if_neg c12] at H
                        exact absurd H (by simp)
                    · rw [if_neg c11] at H
                      exact absurd H (by simp)
                  · rw [if_neg c10] at H
                    exact absurd H (by simp)
                · rw [if_neg c9] at H
                  exact absurd H (by simp)
              · rw [if_neg c8] at H
                have c8b0 : decide (x36_2 < (l1.length : Int)) = false := decide_eq_false c8
                clear c8
                have H' := Aside0.mk H
                clear H
                obtain ⟨Ao21, co21, eo21⟩ := Kd.R_slice HO_8.out
                subst eo21
                go_wp2
                go_loopg [15, 71] k2 (fun kq v15 v71 w' => ∃ (x15_3 : List Int) (x71_3 : Int), v71 = .int .i64 x71_3 ∧ Aside0 (thrumref13_SoftP.l1 kq a0 x9_2 x15_3 x8_2 (x8_2.length : Int) x71_3 = some (r1, r2)) ∧ Aside0 (kq ≤ k2) ∧ Aside0 (Kd.R (Kd.int .i64) 2 w' w.heap.size (fun k_ => some k_ ≠ ((.slice Ao21 x8_2.length co21) : Value).ownBlock) v15 x15_3) ∧ Aside0 (Kd.R (Kd.int .i64) 2 w' w.heap.size (fun k_ => some k_ ≠ (v15 : Value).ownBlock) (.slice Ao21 x8_2.length co21) x8_2) ∧ Aside0 (Below w.heap.size w w'))
                case atStart => exact ⟨(([] : List Int)), (0), (by first | rfl | (simp; done) | (simp [*]; done)), H', ⟨Nat.le_refl _⟩, ⟨by first | exact Kd.R_nil _ _ _ _ _ | exact Kd.N_nil _ _ _ _ _ | exact Kd.V_nil _ _ _ _ _ | exact Kd.Q_nil _ _ _ _ _ | exact Kd.S_nil _ _ _ _ _⟩, ⟨by (with_reducible repeat (first | apply Kd.R_alloc | apply Kd.R_drewN | apply Kd.R_drew)); exact Kd.R_mono HO_8.out (fun _ hk => (by simp [Value.ownBlock]))⟩, ⟨by repeat (first | (with_reducible first | exact HB.out | apply below_alloc | apply pw_below_drewN | apply below_drew1) | exact HB.out)⟩⟩
                case round =>
                  clear H'
                  try clear c1
                  try clear p1
                  try clear q1
                  try clear hx1
                  try clear p2
                  try clear c4
                  try clear c4b0
                  try clear c4b1
                  try clear c5
                  try clear c6
                  try clear c6b0
                  try clear p6
                  try clear c7
                  try clear c8
                  try clear c8b0
                  try clear c9
                  try clear c9b0
                  try clear c10
                  try clear c10b0
                  try clear c11
                  try clear c11b0
                  try clear c12
                  try clear c12b0
                  try clear c14
                  try clear c14b0
                  try clear c14b1
                  try clear c16
                  try clear c16b0
                  try clear c16b1
                  try clear c17
                  try clear p17
                  try clear q17
                  try clear hx17
                  try clear hx170_0
                  try clear hx171_0
                  try clear p170
                  try clear p171
                  try clear p2
                  try clear q170
                  try clear q171
                  obtain ⟨x15_3, x71_3, rfl, HA, HK3, HO_15, HO_69, HB⟩ := hrel
                  cases gk with
                  | zero => exact absurd HA.out (by simp [thrumref13_SoftP.l1])
                  | succ k3 =>
                    have H := HA.out
                    clear HA
                    simp only [thrumref13_SoftP.l1] at H
                    by_cases c22 : x71_3 < (x8_2.length : Int)
                    · rw [if_pos c22] at H
                      have c22b0 : decide (x71_3 < (x8_2.length : Int)) = true := decide_eq_true c22
                      clear c22
                      by_cases c23 : 0 ≤ x71_3
                      · rw [if_pos c23] at H
                        have c23b0 : decide (0 ≤ x71_3) = true := decide_eq_true c23
                        clear c23
                        by_cases c24 : x71_3 < (x8_2.length : Int)
                        · rw [if_pos c24] at H
                          have c24b0 : decide (x71_3 < (x8_2.length : Int)) = true := decide_eq_true c24
                          clear c24
                          replace H := Option.bind_eq_some_iff.mp H
                          obtain ⟨⟨t180, t181⟩, A250, H⟩ := H
                          replace H : (if t181 = 0 then (if x15_3.length < 17592186044416 then (thrumref13_SoftP.l1 k3 a0 x9_2 (x15_3 ++ [t180]) x8_2 (x8_2.length : Int) (wrap64 (x71_3 + 1))) else (none)) else (some (([] : List Int), t181))) = some (r1, r2) := H
                          have A25 := Aside0.mk A250
                          clear A250
                          by_cases c26 : t181 = 0
                          · rw [if_pos c26] at H
                            have c26b0 : (t181 == 0) = true := beq_iff_eq.mpr c26
                            have c26b1 : (t181 != 0) = false := bne_eq_false_iff_eq.mpr c26
                            clear c26
                            by_cases c27 : x15_3.length < 17592186044416
                            · rw [if_pos c27] at H
                              have LMc27 := Aside0.mk c27
                              clear c27
                              obtain ⟨y182, hy182⟩ : ∃ y_ : List Int, y_ = (x15_3 ++ [t180]) := ⟨_, rfl⟩
                              replace H : (thrumref13_SoftP.l1 k3 a0 x9_2 y182 x8_2 (x8_2.length : Int) (wrap64 (x71_3 + 1))) = some (r1, r2) := by first | (rw [hy182]; with_reducible exact H) | (have H2_ := (Option.bind_some _ _).symm.trans H; rw [hy182]; with_reducible exact H2_) | (have H2_ := (Option.bind_some _ _).symm.trans H; with_reducible exact H2_) | with_reducible exact H | (rw [hy182]; exact H) | exact H
                              have Ny182 := Aside0.mk hy182
                              clear hy182
                              have H' := Aside0.mk H
                              clear H
                              have p179 : 0 ≤ (x71_3 : Int) := of_decide_eq_true (by first | (with_reducible assumption) | assumption)
                              have q179 : x71_3 < (x8_2.length : Int) := of_decide_eq_true (by first | (with_reducible assumption) | assumption)
                              obtain ⟨ad179, e179, hx179_0⟩ := Kd.at_int (Kd.R_reads' HO_69.out).2.2 x71_3 p179 q179
                              cases e179
                              replace p179 := eq_true p179
                              replace q179 := eq_true q179
                              go_wp2_with (first | ((with_reducible refine gate_callee (f := 114) rfl ?_); refine goesL_ (some 79) rfl rfl Try.func114 (by kernel_rfl) rfl #[.int .i64 (rd x8_2 x71_3), .int .i64 x9_2, .int .i64 a0] rfl (by (try simp only [List.map_toArray, List.map_cons, List.map_nil]); first | done | rfl | (simp only [List.length_drop, List.length_take]; rfl)) ?_; (with_reducible refine (thrumref01_Div.calls (rd x8_2 x71_3) x9_2 a0 t180 t181 _ A25.out).mono ?_); rintro e w' ⟨rfl, ⟨nd, rfl⟩⟩; refine ⟨_, rfl, ?_⟩) | ((with_reducible refine gate_builtin (b := .append) (xs := #[.tmp 85, .tmp 87]) rfl ?_); at_builtin; refine Kd.R_append (Kd.int .i64) (w0 := w) w.heap.size rfl (.tmp 85) (.tmp 87) 22 2 (.int .i64 0) 8 rfl Try.underlying22 info2 rfl (by decide) (by omega) u15 x15_3 t180 [.int .i64 t180] (fun k_ => some k_ ≠ (.slice (some ad179) x8_2.length co21 : Value).ownBlock) (fun _ => False) rfl rfl ?aP (fun _ hk => hk.elim) ?aF ?aO ?aB ?aS ?aL ?_; (case aP => exact rfl); (case aB => exact (by repeat (first | (with_reducible first | exact HB.out | apply below_alloc | apply pw_below_drewN | apply below_drew1) | exact HB.out))); (case aF => exact (fun k_ hk => Kd.fresh' (Kd.R_lt (by (with_reducible repeat (first | apply Kd.R_alloc | apply Kd.R_drewN | apply Kd.R_drew)); exact HO_69.out)) k_ hk)); (case aO => exact (by (with_reducible repeat (first | apply Kd.R_alloc | apply Kd.R_drewN | apply Kd.R_drew)); exact HO_15.out)); (case aS => exact (below_size (by repeat (first | (with_reducible first | exact HB.out | apply below_alloc | apply pw_below_drewN | apply below_drew1) | exact HB.out)))); (case aL => have := LMc27.out; omega); intro v183 w28 ho hb hg hat; rw [← Ny182.out] at ho; have n0_ := Aside0.mk (Kd.R_after (ok := (fun _ => True)) (by (with_reducible repeat (first | apply Kd.R_alloc | apply Kd.R_drewN | apply Kd.R_drew)); exact Kd.R_mono HO_69.out (fun _ hk => ⟨trivial, hk⟩)) hg hat); have n1_ := Aside0.mk (hb); have n2_ := Aside0.mk (ho); clear HO_69; clear HB; clear HO_15; have HO_69 := n0_; have HB := n1_; have HO184 := n2_; clear n0_ n1_ n2_; clear ho hb hg hat))
                              go_roundg k3
                              case measure => have := HJ4.out; have := HK2.out; have := HK3.out; omega
                              case rel => exact ⟨(y182), (wrap64 (x71_3 + 1)), (by first | rfl | (simp; done) | (simp [*]; done)), H', ⟨by have := HJ4.out; have := HK2.out; have := HK3.out; omega⟩, ⟨by (with_reducible repeat (first | apply Kd.R_alloc | apply Kd.R_drewN | apply Kd.R_drew)); exact HO184.out⟩, ⟨by (with_reducible repeat (first | apply Kd.R_alloc | apply Kd.R_drewN | apply Kd.R_drew)); exact Kd.R_mono HO_69.out (fun _ hk => hk.2)⟩, ⟨by repeat (first | (with_reducible first | exact HB.out | apply below_alloc | apply pw_below_drewN | apply below_drew1) | exact HB.out)⟩⟩
                            · rw [if_neg c27] at H
                              exact absurd H (by simp)
                          · rw [if_neg c26] at H
                            have c26b0 : (t181 == 0) = false := beq_eq_false_iff_ne.mpr c26
                            have c26b1 : (t181 != 0) = true := bne_iff_ne.mpr c26
                            simp only [Option.some.injEq, Prod.mk.injEq] at H
                            obtain ⟨rfl, rfl⟩ := H
                            have p179 : 0 ≤ (x71_3 : Int) := of_decide_eq_true (by first | (with_reducible assumption) | assumption)
                            have q179 : x71_3 < (x8_2.length : Int) := of_decide_eq_true (by first | (with_reducible assumption) | assumption)
                            obtain ⟨ad179, e179, hx179_0⟩ := Kd.at_int (Kd.R_reads' HO_69.out).2.2 x71_3 p179 q179
                            cases e179
                            replace p179 := eq_true p179
                            replace q179 := eq_true q179
                            go_wp2_with (first | ((with_reducible refine gate_callee (f := 114) rfl ?_); refine goesL_ (some 79) rfl rfl Try.func114 (by kernel_rfl) rfl #[.int .i64 (rd x8_2 x71_3), .int .i64 x9_2, .int .i64 a0] rfl (by (try simp only [List.map_toArray, List.map_cons, List.map_nil]); first | done | rfl | (simp only [List.length_drop, List.length_take]; rfl)) ?_; (with_reducible refine (thrumref01_Div.calls (rd x8_2 x71_3) x9_2 a0 t180 t181 _ A25.out).mono ?_); rintro e w' ⟨rfl, ⟨nd, rfl⟩⟩; refine ⟨_, rfl, ?_⟩))
                            go_ret2
                            exact ⟨_, by first | rfl | (simp [errW_none, errW_some] <;> rfl) | (simp [*, errW_none, errW_some] <;> rfl), by first | exact Kd.R_nil _ _ _ _ _ | exact Kd.N_nil _ _ _ _ _ | exact Kd.V_nil _ _ _ _ _ | exact Kd.Q_nil _ _ _ _ _ | exact Kd.S_nil _ _ _ _ _, by repeat (first | (with_reducible first | exact HB.out | apply below_alloc | apply pw_below_drewN | apply below_drew1) | exact HB.out)⟩
                        · rw [if_neg c24] at H
                          exact absurd H (by simp)
                      · rw [if_neg c23] at H
                        exact absurd H (by simp)
                    · rw [if_neg c22] at H
                      have c22b0 : decide (x71_3 < (x8_2.length : Int)) = false := decide_eq_false c22
                      clear c22
                      simp only [Option.some.injEq, Prod.mk.injEq] at H
                      obtain ⟨rfl, rfl⟩ := H
                      go_wp2
                      go_ret2
                      exact ⟨_, by first | rfl | (simp [errW_none, errW_some] <;> rfl) | (simp [*, errW_none, errW_some] <;> rfl), by (with_reducible repeat (first | apply Kd.R_alloc | apply Kd.R_drewN | apply Kd.R_drew)); exact Kd.R_mono HO_15.out (fun _ hk => trivial), by repeat (first | (with_reducible first | exact HB.out | apply below_alloc | apply pw_below_drewN | apply below_drew1) | exact HB.out)⟩
  · rw [if_neg c4] at H
    have c4b0 : (t169 == 0) = false := beq_eq_false_iff_ne.mpr c4
    have c4b1 : (t169 != 0) = true := bne_iff_ne.mpr c4
    simp only [Option.some.injEq, Prod.mk.injEq] at H
    obtain ⟨rfl, rfl⟩ := H
    go_enter Try.func51, Try.ntmps51
    go_wp2_with (first | ((with_reducible refine gate_callee (f := 53) rfl ?_); refine goesL_ (some 22) rfl rfl Try.func53 (by kernel_rfl) rfl #[.slice A1 l1.length c1] rfl (by (try simp only [List.map_toArray, List.map_cons, List.map_nil]); first | done | rfl | (simp only [List.length_drop, List.length_take]; rfl)) ?_; (with_reducible refine (thrumref13_Best.calls _ _ l1 t168 t169 _ ?side1 ?side2 A3.out).mono ?_); (case side1 => repeat (first | exact HR1.out | (with_reducible refine Kd.C_alloc ?_ _) | (with_reducible refine Kd.C_drewN ?_ _) | (with_reducible refine Kd.C_drew ?_))); (case side2 => exact HC1.out); rintro e w' ⟨rfl, ⟨nd, rfl⟩⟩; refine ⟨_, rfl, ?_⟩))
    go_ret2
    exact ⟨_, by first | rfl | (simp [errW_none, errW_some] <;> rfl) | (simp [*, errW_none, errW_some] <;> rfl), by first | exact Kd.R_nil _ _ _ _ _ | exact Kd.N_nil _ _ _ _ _ | exact Kd.V_nil _ _ _ _ _ | exact Kd.Q_nil _ _ _ _ _ | exact Kd.S_nil _ _ _ _ _, by repeat (first | (with_reducible first | exact HB.out | apply below_alloc | apply pw_below_drewN | apply below_drew1) | exact HB.out)⟩

theorem thrumref13_SoftP.loop1 (f S : Int) (ps : List Int) (hps : ∀ p ∈ ps, 0 ≤ p ∧ p ≤ 1073741824) (hS : I64 S) (hl : ps.length ≤ 4096) : ∀ (d j : Nat) (qs : List Int), d + j = ps.length → qs.length = j →
    thrumref13_SoftP.l1 (d + 1) f S qs ps (ps.length : Int) (j : Int) = some (seqFrom (fun p => divF p S f) (ps.drop j) qs) := by
  intro d
  induction d with
  | zero =>
    intro j qs hd hq
    rw [thrumref13_SoftP.l1, if_neg (by omega), List.drop_eq_nil_of_le (by omega), seqFrom_nil]
  | succ d ih =>
    intro j qs hd hq
    have hj : j < ps.length := by omega
    have hp := hps _ (List.getElem_mem hj)
    rw [thrumref13_SoftP.l1, if_pos (by omega), if_pos (by omega), if_pos (by omega), show rd ps (j : Int) = ps[j] from rd_nat hj, thrumref01_Div.of _ _ _ ⟨by unfold I64; omega, hS⟩, List.drop_eq_getElem_cons hj]
    simp only [Option.bind_some]
    by_cases c : (divF ps[j] S f).2 = 0
    · rw [if_pos c, if_pos (by omega), wrap64_of (by unfold I64; omega), show (j : Int) + 1 = ((j + 1 : Nat) : Int) by omega, ih (j + 1) _ (by omega) (by simp; omega), seqFrom_ok (g := fun p => divF p S f) c]
    · rw [if_neg c, seqFrom_bad (g := fun p => divF p S f) c]
/-- What comes of the powers. -/
def softEnd (f : Int) (q : List Int × Int) : List Int × Int := if q.2 ≠ 0 then ([], q.2) else seqV (q.1.map fun p => divF p (sumI q.1) f)
theorem thrumref13_SoftP.loop0 (f : Int) (hf : 0 ≤ f ∧ f ≤ 30) (z : List Int) (hz : V64 z) (hl : z.length ≤ 4096) (best : Int) (hb : 0 ≤ best ∧ best < z.length) : ∀ (d i : Nat) (acc : List Int), d + i = z.length → acc.length = i → (∀ p ∈ acc, 0 ≤ p ∧ p ≤ 1073741824) →
    thrumref13_SoftP.l0 (d + 1 + 4100) f z best acc (sumI acc) z (z.length : Int) (i : Int) = some (softEnd f (seqFrom (powF (rd z best) f) (z.drop i) acc)) := by
  intro d
  induction d with
  | zero =>
    intro i acc hd ha hp
    have s0 := sumI_nn acc (fun q hq => (hp q hq).1)
    have s1 := sumI_ub acc 1073741824 (fun q hq => (hp q hq).2)
    have h1 := thrumref13_SoftP.loop1 f (sumI acc) acc hp (by unfold I64; omega) (by omega) acc.length 0 [] (by omega) rfl
    rw [show 0 + 1 + 4100 = 4100 + 1 by omega, thrumref13_SoftP.l0, if_neg (by omega), List.drop_eq_nil_of_le (by omega), seqFrom_nil]
    refine Eq.trans (leO_mono (fun k => (thrumref13_SoftP.mono_l k).2.2 _ _ _ _ _ _) (show acc.length + 1 ≤ 4100 by omega) h1) ?_
    rw [List.drop_zero, seqFrom_start]; rfl
  | succ d ih =>
    intro i acc hd ha hp
    have hi : i < z.length := by omega
    have hm : I64 (rd z best) := hz.rd _
    rw [show d + 1 + 1 + 4100 = (d + 1 + 4100) + 1 by omega, thrumref13_SoftP.l0, if_pos (by omega), if_pos (by omega), if_pos (by omega), if_pos hb.1, if_pos hb.2, show rd z (i : Int) = z[i] from rd_nat hi, thrumref01_Sub.of _ _ ⟨hz _ (List.getElem_mem hi), hm⟩, List.drop_eq_getElem_cons hi]
    simp only [Option.bind_some]
    by_cases c : I64 (z[i] - rd z best)
    · rw [res_of c]
      simp only [if_true]
      rw [thrumref13_Exp.of _ _ ⟨c, by unfold I64; omega⟩]
      simp only [Option.bind_some]
      have hg : powF (rd z best) f z[i] = expF (z[i] - rd z best) f := by unfold powF; rw [if_pos c]
      by_cases e : (expF (z[i] - rd z best) f).2 = 0
      · have hpb := expF_bd e
        have s0 := sumI_nn acc (fun q hq => (hp q hq).1)
        have s1 := sumI_ub acc 1073741824 (fun q hq => (hp q hq).2)
        rw [if_pos e, if_pos (by omega), wrap64_of (x := sumI acc + _) (by unfold I64; omega), ← sumI_app, wrap64_of (by unfold I64; omega), show (i : Int) + 1 = ((i + 1 : Nat) : Int) by omega, ih (i + 1) _ (by omega) (by simp; omega) (fun q hq => by rcases List.mem_append.1 hq with h | h; (exact hp q h); (cases List.mem_singleton.1 h; exact hpb)), seqFrom_ok (g := powF (rd z best) f) (by rw [hg]; exact e), hg]
      · rw [if_neg e, seqFrom_bad (g := powF (rd z best) f) (by rw [hg]; exact e), hg]
        unfold softEnd; rw [if_pos e]
    · rw [res_not c, if_neg (by decide)]
      have hg : powF (rd z best) f z[i] = (0, 2) := by unfold powF; rw [if_neg c]
      rw [seqFrom_bad (g := powF (rd z best) f) (by rw [hg]; decide), hg]
      rfl
def thrumref13_Soft.f (a0 : Int) (l1 : List Int) : Option (List Int × Int) := if I64 a0 ∧ V64 l1 then some (softV a0 l1) else none
theorem thrumref13_Soft.of (a0 : Int) (l1 : List Int)  (h_ : I64 a0 ∧ V64 l1) : thrumref13_Soft.f a0 l1 = some (softV a0 l1) := if_pos h_
theorem thrumref13_Soft.calls (a0 : Int) (A1 : Option Addr) (c1 : Nat) (l1 : List Int) (r1 : List Int) (r2 : Int) (w : World) (hr1 : Kd.C (Kd.int .i64) w A1 l1.length l1) (hc1 : l1.length ≤ c1) (h : thrumref13_Soft.f a0 l1 = some (r1, r2)) :
    Calls Try.prog 51 #[.int .i64 a0, .slice A1 l1.length c1] w fun e w' => ∃ v0_ : Value, e = .returned (.tuple #[v0_, .int .i64 r2]) ∧ Kd.R (Kd.int .i64) 2 w' w.heap.size (fun _ => True) v0_ r1 ∧ Below w.heap.size w w' := by
  unfold thrumref13_Soft.f at h
  split at h
  case isFalse => cases h
  rename_i hv
  refine thrumref13_SoftP.calls (l1.length + 1 + 4100 + 1) a0 A1 c1 l1 r1 r2 w hr1 hc1 (Eq.trans ?_ h)
  unfold thrumref13_SoftP.f thrumref13_Best.f softV
  simp only [Option.bind_some]
  by_cases hb : (bestF l1).2 = 0
  · obtain ⟨hI, hn0, hn⟩ := bestF_is hb
    rw [if_pos hb, if_neg (show ¬ ((bestF l1).2 ≠ 0) from fun q_ => q_ hb)]
    by_cases c1 : a0 < 0
    · rw [if_pos c1, thrumref13_SoftP.j0, if_pos rfl, if_pos (Or.inl c1)]
    · rw [if_neg c1, thrumref13_SoftP.j0]
      by_cases c2 : a0 > 30
      · rw [if_pos (decide_eq_true c2), if_pos (Or.inr c2)]
      · rw [if_neg (by simpa using c2), if_neg (by omega)]
        have := thrumref13_SoftP.loop0 a0 (by omega) l1 hv.2 hn (bestF l1).1 ⟨hI.1, hI.2.1⟩ l1.length 0 [] (by omega) rfl (by simp)
        refine Eq.trans this ?_
        rw [List.drop_zero, seqFrom_start]; rfl
  · rw [if_neg hb, if_pos hb]
















































































































































































































































































































































































































































end Go.Proofs.Ytfbdalnjijdknaa.HT
