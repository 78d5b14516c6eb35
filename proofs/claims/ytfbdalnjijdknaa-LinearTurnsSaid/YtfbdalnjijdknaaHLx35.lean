/- What Go functions do, each as a plain Lean function with the same answers, and the proof of it, in every world: printed by the session's driver over the kit's print, with texts by hand. -/
import Derived.Test.YtfbdalnjijdknaaHLx0
import Derived.Test.YtfbdalnjijdknaaHLx1
import Derived.Test.YtfbdalnjijdknaaHLx5
import Derived.Test.YtfbdalnjijdknaaHLx13
import Derived.Test.YtfbdalnjijdknaaHLx14
import Derived.Test.YtfbdalnjijdknaaHLx31
namespace Go.Proofs.Ytfbdalnjijdknaa.HL
open Go.RowKit Go.Proofs.YtfbdalnjijdknaaW.PrintWords Go.Proofs.YtfbdalnjijdknaaW.PrintLast Go.Proofs.YtfbdalnjijdknaaW.PrintMore
attribute [local go_sem] max2_int min2_int max_two min_two max_three min_three max_four min_four   -- for this text's walks alone
open Go.Proofs.Ytfbdalnjijdknaa.Sp
attribute [local go_sem] Go.Proofs.Ytfbdalnjijdknaa.Sp.u64_not
set_option linter.unusedVariables false
set_option linter.unusedSimpArgs false

/-! ### thrumlaw14_LinearTurns: function 16 -/
mutual
def thrumlaw14_LinearTurns.l0 : Nat → List Int → Int → List (S26) → Bool → List Int → Int → Int → Option (Bool)
  | 0, _, _, _, _, _, _, _ => none
  | k + 1, x0, x1, x2, x7, x31, x32, x33 => if x33 < x32 then (if 0 ≤ x33 then (if x33 < (x31.length : Int) then (if (rd x31 x33) > 1048576 then (some x7) else (if (rd x31 x33) < (-1048576) then (some x7) else (thrumlaw14_LinearTurns.l0 k x0 x1 x2 x7 x31 x32 (wrap64 (x33 + 1))))) else (none)) else (none)) else (thrumlaw14_LinearTurns.l1 k x0 x1 x2 x7 ([] : List (S26)) x2 (x2.length : Int) 0)
def thrumlaw14_LinearTurns.l1 : Nat → List Int → Int → List (S26) → Bool → List (S26) → List (S26) → Int → Int → Option (Bool)
  | 0, _, _, _, _, _, _, _, _ => none
  | k + 1, x0, x1, x2, x7, x10, x45, x46, x47 => if x47 < x46 then (if 0 ≤ x47 then (if x47 < (x45.length : Int) then (if 0 ≤ (wrap64 ((wrap64 ((x2.length : Int) - 1)) - x47)) then (if (wrap64 ((wrap64 ((x2.length : Int) - 1)) - x47)) < (x2.length : Int) then (if x10.length < 4398046511104 then (if ((rd_T26 x45 x47).f1) > 1048576 then (some x7) else (if ((rd_T26 x45 x47).f1) < (-1048576) then (some x7) else (thrumlaw14_LinearTurns.l2 k x0 x1 x2 x7 (x10 ++ [(⟨(rd_T26 x2 (wrap64 ((wrap64 ((x2.length : Int) - 1)) - x47))).f0, (rd_T26 x2 (wrap64 ((wrap64 ((x2.length : Int) - 1)) - x47))).f1⟩ : S26)]) x45 x46 x47 ((rd_T26 x45 x47).f0) (((rd_T26 x45 x47).f0).length : Int) 0))) else (none)) else (none)) else (none)) else (none)) else (none)) else ((linear_Grad.f x0 (Int.tmod (wrap64 ((Int.tmod x1 17) + 17)) 17) x2).bind fun bt400 => ((linear_Grad.f x0 (Int.tmod (wrap64 ((Int.tmod x1 17) + 17)) 17) x10).bind fun bt404 => ((linear_Loss.f x0 (Int.tmod (wrap64 ((Int.tmod x1 17) + 17)) 17) x2).bind fun bt408 => ((linear_Loss.f x0 (Int.tmod (wrap64 ((Int.tmod x1 17) + 17)) 17) x10).bind fun bt410 => (if x7 = true then ((thrumref02_Same.f bt400.1 bt404.1).bind fun t412 => (if t412 = true then (if bt400.2 = bt404.2 then (if bt408.1 = bt410.1 then (if bt408.2 = bt410.2 then (some (decide (bt408.1 ≥ 0))) else (some false)) else (some false)) else (some false)) else (some false))) else (some false))))))
def thrumlaw14_LinearTurns.l2 : Nat → List Int → Int → List (S26) → Bool → List (S26) → List (S26) → Int → Int → List Int → Int → Int → Option (Bool)
  | 0, _, _, _, _, _, _, _, _, _, _, _ => none
  | k + 1, x0, x1, x2, x7, x10, x45, x46, x47, x73, x74, x75 => if x75 < x74 then (if 0 ≤ x75 then (if x75 < (x73.length : Int) then (if (rd x73 x75) > 4096 then (some x7) else (if (rd x73 x75) < (-4096) then (some x7) else (thrumlaw14_LinearTurns.l2 k x0 x1 x2 x7 x10 x45 x46 x47 x73 x74 (wrap64 (x75 + 1))))) else (none)) else (none)) else (thrumlaw14_LinearTurns.l1 k x0 x1 x2 x7 x10 x45 x46 (wrap64 (x47 + 1)))
end
def thrumlaw14_LinearTurns.f (k : Nat) (l0 : List Int) (a1 : Int) (l2 : List (S26)) : Option (Bool) := (thrumlaw14_live.f).bind fun t390 => (if t390 = true then ((thrumref14_Few.f l0 l2).bind fun t391 => (if t391 = true then (thrumlaw14_LinearTurns.l0 k l0 a1 l2 t390 l0 (l0.length : Int) 0) else (some t390))) else (some false))
theorem thrumlaw14_LinearTurns.mono_l : ∀ k, (∀ y0 y1 y2 y3 y4 y5 y6, LeO (thrumlaw14_LinearTurns.l0 k y0 y1 y2 y3 y4 y5 y6) (thrumlaw14_LinearTurns.l0 (k + 1) y0 y1 y2 y3 y4 y5 y6)) ∧ (∀ y0 y1 y2 y3 y4 y5 y6 y7, LeO (thrumlaw14_LinearTurns.l1 k y0 y1 y2 y3 y4 y5 y6 y7) (thrumlaw14_LinearTurns.l1 (k + 1) y0 y1 y2 y3 y4 y5 y6 y7)) ∧ (∀ y0 y1 y2 y3 y4 y5 y6 y7 y8 y9 y10, LeO (thrumlaw14_LinearTurns.l2 k y0 y1 y2 y3 y4 y5 y6 y7 y8 y9 y10) (thrumlaw14_LinearTurns.l2 (k + 1) y0 y1 y2 y3 y4 y5 y6 y7 y8 y9 y10))
  | 0 => ⟨fun _ _ _ _ _ _ _ r h => by simp [thrumlaw14_LinearTurns.l0] at h, fun _ _ _ _ _ _ _ _ r h => by simp [thrumlaw14_LinearTurns.l1] at h, fun _ _ _ _ _ _ _ _ _ _ _ r h => by simp [thrumlaw14_LinearTurns.l2] at h⟩
  | k + 1 => by
    obtain ⟨ih0, ih1, ih2⟩ := thrumlaw14_LinearTurns.mono_l k
    refine ⟨?_, ?_, ?_⟩
    · intro y0 y1 y2 y3 y4 y5 y6
      unfold thrumlaw14_LinearTurns.l0
      repeat' first
      | (with_reducible exact ih0 _ _ _ _ _ _ _)
      | (with_reducible exact ih1 _ _ _ _ _ _ _ _)
      | (with_reducible exact ih2 _ _ _ _ _ _ _ _ _ _ _)
      | (with_reducible exact LeO.refl _)
      | (with_reducible exact LeO.none _)
      | (with_reducible refine LeO.ite ?_ ?_)
      | (with_reducible refine LeO.bind ?_ (fun _ => ?_))
      | exact ih0 _ _ _ _ _ _ _
      | exact ih1 _ _ _ _ _ _ _ _
      | exact ih2 _ _ _ _ _ _ _ _ _ _ _
      | exact LeO.none _
      | refine LeO.ite ?_ ?_
      | refine LeO.bind ?_ (fun _ => ?_)
    · intro y0 y1 y2 y3 y4 y5 y6 y7
      unfold thrumlaw14_LinearTurns.l1
      repeat' first
      | (with_reducible exact ih0 _ _ _ _ _ _ _)
      | (with_reducible exact ih1 _ _ _ _ _ _ _ _)
      | (with_reducible exact ih2 _ _ _ _ _ _ _ _ _ _ _)
      | (with_reducible exact LeO.refl _)
      | (with_reducible exact LeO.none _)
      | (with_reducible refine LeO.ite ?_ ?_)
      | (with_reducible refine LeO.bind ?_ (fun _ => ?_))
      | exact ih0 _ _ _ _ _ _ _
      | exact ih1 _ _ _ _ _ _ _ _
      | exact ih2 _ _ _ _ _ _ _ _ _ _ _
      | exact LeO.none _
      | refine LeO.ite ?_ ?_
      | refine LeO.bind ?_ (fun _ => ?_)
    · intro y0 y1 y2 y3 y4 y5 y6 y7 y8 y9 y10
      unfold thrumlaw14_LinearTurns.l2
      repeat' first
      | (with_reducible exact ih0 _ _ _ _ _ _ _)
      | (with_reducible exact ih1 _ _ _ _ _ _ _ _)
      | (with_reducible exact ih2 _ _ _ _ _ _ _ _ _ _ _)
      | (with_reducible exact LeO.refl _)
      | (with_reducible exact LeO.none _)
      | (with_reducible refine LeO.ite ?_ ?_)
      | (with_reducible refine LeO.bind ?_ (fun _ => ?_))
      | exact ih0 _ _ _ _ _ _ _
      | exact ih1 _ _ _ _ _ _ _ _
      | exact ih2 _ _ _ _ _ _ _ _ _ _ _
      | exact LeO.none _
      | refine LeO.ite ?_ ?_
      | refine LeO.bind ?_ (fun _ => ?_)
theorem thrumlaw14_LinearTurns.mono : ∀ a0 a1 a2 k, LeO (thrumlaw14_LinearTurns.f k a0 a1 a2) (thrumlaw14_LinearTurns.f (k + 1) a0 a1 a2) := by
  intro a0 a1 a2 k
  obtain ⟨ih0, ih1, ih2⟩ := thrumlaw14_LinearTurns.mono_l k
  unfold thrumlaw14_LinearTurns.f
  repeat' first
      | (with_reducible exact ih0 _ _ _ _ _ _ _)
      | (with_reducible exact ih1 _ _ _ _ _ _ _ _)
      | (with_reducible exact ih2 _ _ _ _ _ _ _ _ _ _ _)
      | (with_reducible exact LeO.refl _)
      | (with_reducible exact LeO.none _)
      | (with_reducible refine LeO.ite ?_ ?_)
      | (with_reducible refine LeO.bind ?_ (fun _ => ?_))
      | exact ih0 _ _ _ _ _ _ _
      | exact ih1 _ _ _ _ _ _ _ _
      | exact ih2 _ _ _ _ _ _ _ _ _ _ _
      | exact LeO.none _
      | refine LeO.ite ?_ ?_
      | refine LeO.bind ?_ (fun _ => ?_)
set_option maxHeartbeats 80000000 in
set_option maxRecDepth 100000 in
theorem thrumlaw14_LinearTurns.calls (k : Nat) (A0 : Option Addr) (c0 : Nat) (l0 : List Int) (a1 : Int) (P2_ : Nat → Prop) (A2 : Option Addr) (c2 : Nat) (l2 : List (S26)) (r : Bool) (w : World) (hr0 : Kd.C (Kd.int .i64) w A0 l0.length l0) (hc0 : l0.length ≤ c0) (hs2 : Kd.V k26 26 w w.heap.size (fun k_ => P2_ k_) (.slice A2 l2.length c2) l2) (h : thrumlaw14_LinearTurns.f k l0 a1 l2 = some r) (hr_ : r = true) :
    Calls Try.prog 16 #[.slice A0 l0.length c0, .int .i64 a1, .slice A2 l2.length c2] w fun e w' => e = .returned (.bool r) ∧ Below w.heap.size w w' := by
  have HR_ := Aside0.mk hr_
  clear hr_
  have hu26 := Try.underlying26
  have HR0 := Aside0.mk hr0
  have HC0 := Aside0.mk hc0
  clear hr0 hc0
  have HO2 := Aside0.mk (show Kd.V k26 26 w w.heap.size (fun k_ => (P2_ k_ ∨ w.heap.size ≤ k_)) (.slice A2 l2.length c2) l2 from Kd.V_mono hs2 (fun k_ hk => .inl hk))
  have HB := Aside0.mk (Below.refl w.heap.size w)
  have H : ((thrumlaw14_live.f).bind fun t390 => (if t390 = true then ((thrumref14_Few.f l0 l2).bind fun t391 => (if t391 = true then (thrumlaw14_LinearTurns.l0 k l0 a1 l2 t390 l0 (l0.length : Int) 0) else (some t390))) else (some false))) = some r := h
  clear h
  replace H := Option.bind_eq_some_iff.mp H
  obtain ⟨t390, A40, H⟩ := H
  replace H : (if t390 = true then ((thrumref14_Few.f l0 l2).bind fun t391 => (if t391 = true then (thrumlaw14_LinearTurns.l0 k l0 a1 l2 t390 l0 (l0.length : Int) 0) else (some t390))) else (some false)) = some r := H
  have A4 := Aside0.mk A40
  clear A40
  by_cases c5 : t390 = true
  · subst c5
    have H1 : ((thrumref14_Few.f l0 l2).bind fun t391 => (if t391 = true then (thrumlaw14_LinearTurns.l0 k l0 a1 l2 true l0 (l0.length : Int) 0) else (some true))) = some r := by rw [if_pos rfl] at H; exact H
    clear H
    have H := H1
    clear H1
    replace H := Option.bind_eq_some_iff.mp H
    obtain ⟨t391, A60, H⟩ := H
    replace H : (if t391 = true then (thrumlaw14_LinearTurns.l0 k l0 a1 l2 true l0 (l0.length : Int) 0) else (some true)) = some r := H
    have A6 := Aside0.mk A60
    clear A60
    by_cases c7 : t391 = true
    · subst c7
      have H1 : (thrumlaw14_LinearTurns.l0 k l0 a1 l2 true l0 (l0.length : Int) 0) = some r := by rw [if_pos rfl] at H; exact H
      clear H
      have H := H1
      clear H1
      have H' := Aside0.mk H
      clear H
      go_enter Try.func16, Try.ntmps16
      go_wp2_with (first | ((with_reducible refine gate_callee (f := 61) rfl ?_); refine goesL_ (some 23) rfl rfl Try.func61 (by kernel_rfl) rfl #[] rfl (by (try simp only [List.map_toArray, List.map_cons, List.map_nil]); first | done | rfl | (simp only [List.length_drop, List.length_take]; rfl)) ?_; (with_reducible refine (thrumlaw14_live.calls  true _ A4.out).mono ?_); rintro e w8 ⟨rfl, hb⟩; refine ⟨_, rfl, ?_⟩; have n0_ := Aside0.mk (Kd.V_below (by (with_reducible repeat (first | apply Kd.V_alloc | apply Kd.V_drewN | apply Kd.V_drew)); exact HO2.out) hb); have n1_ := Aside0.mk (below_step (by repeat (first | (with_reducible first | exact HB.out | apply below_alloc | apply pw_below_drewN | apply below_drew1) | exact HB.out)) hb); clear HO2; clear HB; have HO2 := n0_; have HB := n1_; clear n0_ n1_; (try clear hb); (try clear hb2); (try clear hk); (try clear hi)) | ((with_reducible refine gate_callee (f := 30) rfl ?_); refine goesL_ (some 28) rfl rfl Try.func30 (by kernel_rfl) rfl #[.slice A0 l0.length c0, .slice A2 l2.length c2] rfl (by (try simp only [List.map_toArray, List.map_cons, List.map_nil]); first | done | rfl | (simp only [List.length_drop, List.length_take]; rfl)) ?_; (with_reducible refine (thrumref14_Few.calls _ _ l0 _ _ l2 true _ ?side1 ?side2 ?side3 ?side4 A6.out).mono ?_); (case side1 => repeat (first | exact (Kd.C_below HR0.out HB.out) | (with_reducible refine Kd.C_alloc ?_ _) | (with_reducible refine Kd.C_drewN ?_ _) | (with_reducible refine Kd.C_drew ?_))); (case side2 => exact HC0.out); (case side3 => repeat (first | exact (Kd.V_reads' HO2.out).2.2 | (with_reducible refine Kd.C_alloc ?_ _) | (with_reducible refine Kd.C_drewN ?_ _) | (with_reducible refine Kd.C_drew ?_))); (case side4 => exact (Kd.V_reads' HO2.out).2.1); rintro e w9 ⟨rfl, hb⟩; refine ⟨_, rfl, ?_⟩; have n0_ := Aside0.mk (Kd.V_below (by (with_reducible repeat (first | apply Kd.V_alloc | apply Kd.V_drewN | apply Kd.V_drew)); exact HO2.out) hb); have n1_ := Aside0.mk (below_step (by repeat (first | (with_reducible first | exact HB.out | apply below_alloc | apply pw_below_drewN | apply below_drew1) | exact HB.out)) hb); clear HO2; clear HB; have HO2 := n0_; have HB := n1_; clear n0_ n1_; (try clear hb); (try clear hb2); (try clear hk); (try clear hi)))
      go_loopg [33] k (fun kq v33 w' => ∃ (x33_1 : Int), v33 = .int .i64 x33_1 ∧ Aside0 (thrumlaw14_LinearTurns.l0 kq l0 a1 l2 true l0 (l0.length : Int) x33_1 = some r) ∧ Aside0 (kq ≤ k) ∧ Aside0 (Kd.V k26 26 w' w.heap.size (fun k_ => (P2_ k_ ∨ w.heap.size ≤ k_)) (.slice A2 l2.length c2) l2) ∧ Aside0 (Below w.heap.size w w'))
      case atStart => exact ⟨(0), (by first | rfl | (simp; done) | (simp [*]; done)), H', ⟨Nat.le_refl _⟩, ⟨by (with_reducible repeat (first | apply Kd.V_alloc | apply Kd.V_drewN | apply Kd.V_drew)); exact HO2.out⟩, ⟨by repeat (first | (with_reducible first | exact HB.out | apply below_alloc | apply pw_below_drewN | apply below_drew1) | exact HB.out)⟩⟩
      case round =>
        clear H'
        try clear c1
        try clear c2
        try clear p2
        try clear c3
        try clear c5
        try clear c6
        try clear c7
        obtain ⟨x33_1, rfl, HA, HK1, HO_2, HB⟩ := hrel
        cases gk with
        | zero => exact absurd HA.out (by simp [thrumlaw14_LinearTurns.l0])
        | succ k1 =>
          have H := HA.out
          clear HA
          simp only [thrumlaw14_LinearTurns.l0] at H
          by_cases c10 : x33_1 < (l0.length : Int)
          · rw [if_pos c10] at H
            have c10b0 : decide (x33_1 < (l0.length : Int)) = true := decide_eq_true c10
            clear c10
            by_cases c11 : 0 ≤ x33_1
            · rw [if_pos c11] at H
              have c11b0 : decide (0 ≤ x33_1) = true := decide_eq_true c11
              clear c11
              by_cases c12 : x33_1 < (l0.length : Int)
              · rw [if_pos c12] at H
                have c12b0 : decide (x33_1 < (l0.length : Int)) = true := decide_eq_true c12
                clear c12
                by_cases c13 : (rd l0 x33_1) > 1048576
                · rw [if_pos c13] at H
                  have c13b0 : decide (1048576 < (rd l0 x33_1)) = true := decide_eq_true c13
                  clear c13
                  obtain rfl := Option.some.inj H
                  have p392 : 0 ≤ (x33_1 : Int) := of_decide_eq_true (by first | (with_reducible assumption) | assumption)
                  have q392 : x33_1 < (l0.length : Int) := of_decide_eq_true (by first | (with_reducible assumption) | assumption)
                  obtain ⟨ad392, e392, hx392_0⟩ := Kd.at_int HR0.out x33_1 p392 q392
                  cases e392
                  (try (replace hx392_0 := (HB.out.cell (World.block_lt_of_cell? w _ hx392_0)).trans hx392_0))
                  replace p392 := eq_true p392
                  replace q392 := eq_true q392
                  go_wp2
                  go_ret
                  exact ⟨by first | rfl | (simp [errW_none, errW_some] <;> rfl) | (simp [*, errW_none, errW_some] <;> rfl), by repeat (first | (with_reducible first | exact HB.out | apply below_alloc | apply pw_below_drewN | apply below_drew1) | exact HB.out)⟩
                · rw [if_neg c13] at H
                  have c13b0 : decide (1048576 < (rd l0 x33_1)) = false := decide_eq_false c13
                  clear c13
                  by_cases c14 : (rd l0 x33_1) < (-1048576)
                  · rw [if_pos c14] at H
                    have c14b0 : decide ((rd l0 x33_1) < (-1048576)) = true := decide_eq_true c14
                    clear c14
                    obtain rfl := Option.some.inj H
                    have p392 : 0 ≤ (x33_1 : Int) := of_decide_eq_true (by first | (with_reducible assumption) | assumption)
                    have q392 : x33_1 < (l0.length : Int) := of_decide_eq_true (by first | (with_reducible assumption) | assumption)
                    obtain ⟨ad392, e392, hx392_0⟩ := Kd.at_int HR0.out x33_1 p392 q392
                    cases e392
                    (try (replace hx392_0 := (HB.out.cell (World.block_lt_of_cell? w _ hx392_0)).trans hx392_0))
                    replace p392 := eq_true p392
                    replace q392 := eq_true q392
                    go_wp2
                    go_ret
                    exact ⟨by first | rfl | (simp [errW_none, errW_some] <;> rfl) | (simp [*, errW_none, errW_some] <;> rfl), by repeat (first | (with_reducible first | exact HB.out | apply below_alloc | apply pw_below_drewN | apply below_drew1) | exact HB.out)⟩
                  · rw [if_neg c14] at H
                    have c14b0 : decide ((rd l0 x33_1) < (-1048576)) = false := decide_eq_false c14
                    clear c14
                    have H' := Aside0.mk H
                    clear H
                    have p392 : 0 ≤ (x33_1 : Int) := of_decide_eq_true (by first | (with_reducible assumption) | assumption)
                    have q392 : x33_1 < (l0.length : Int) := of_decide_eq_true (by first | (with_reducible assumption) | assumption)
                    obtain ⟨ad392, e392, hx392_0⟩ := Kd.at_int HR0.out x33_1 p392 q392
                    cases e392
                    (try (replace hx392_0 := (HB.out.cell (World.block_lt_of_cell? w _ hx392_0)).trans hx392_0))
                    replace p392 := eq_true p392
                    replace q392 := eq_true q392
                    go_wp2
                    go_roundg k1
                    case measure => have := HK1.out; omega
                    case rel => exact ⟨(wrap64 (x33_1 + 1)), (by first | rfl | (simp; done) | (simp [*]; done)), H', ⟨by have := HK1.out; omega⟩, ⟨by (with_reducible repeat (first | apply Kd.V_alloc | apply Kd.V_drewN | apply Kd.V_drew)); exact HO_2.out⟩, ⟨by repeat (first | (with_reducible first | exact HB.out | apply below_alloc | apply pw_below_drewN | apply below_drew1) | exact HB.out)⟩⟩
              · rw [if_neg c12] at H
                exact absurd H (by simp)
            · rw [if_neg c11] at H
              exact absurd H (by simp)
          · rw [if_neg c10] at H
            have c10b0 : decide (x33_1 < (l0.length : Int)) = false := decide_eq_false c10
            clear c10
            have H' := Aside0.mk H
            clear H
            go_wp2
            go_loopg [10, 47] k1 (fun kq v10 v47 w' => ∃ (x10_2 : List (S26)) (x47_2 : Int), v47 = .int .i64 x47_2 ∧ Aside0 (thrumlaw14_LinearTurns.l1 kq l0 a1 l2 true x10_2 l2 (l2.length : Int) x47_2 = some r) ∧ Aside0 (kq ≤ k1) ∧ Aside0 (Kd.V k26 26 w' w.heap.size (fun k_ => (P2_ k_ ∨ w.heap.size ≤ k_) ∧ some k_ ≠ (v10 : Value).ownBlock) (.slice A2 l2.length c2) l2) ∧ Aside0 (Kd.N k26 26 w' w.heap.size (fun k_ => (P2_ k_ ∨ w.heap.size ≤ k_)) v10 x10_2) ∧ Aside0 (Kd.V k26 26 w' w.heap.size (fun k_ => (P2_ k_ ∨ w.heap.size ≤ k_) ∧ some k_ ≠ (v10 : Value).ownBlock) (.slice A2 l2.length c2) l2) ∧ Aside0 (Below w.heap.size w w'))
            case atStart => exact ⟨(([] : List (S26))), (0), (by first | rfl | (simp; done) | (simp [*]; done)), H', ⟨Nat.le_refl _⟩, ⟨by (with_reducible repeat (first | apply Kd.V_alloc | apply Kd.V_drewN | apply Kd.V_drew)); exact Kd.V_mono HO_2.out (fun _ hk => ⟨hk, (by simp [Value.ownBlock])⟩)⟩, ⟨by first | exact Kd.S_nil _ _ _ _ _ | exact Kd.N_nil _ _ _ _ _ | exact Kd.V_nil _ _ _ _ _ | exact Kd.Q_nil _ _ _ _ _ | exact Kd.R_nil _ _ _ _ _⟩, ⟨by (with_reducible repeat (first | apply Kd.V_alloc | apply Kd.V_drewN | apply Kd.V_drew)); exact Kd.V_mono HO_2.out (fun _ hk => ⟨hk, (by simp [Value.ownBlock])⟩)⟩, ⟨by repeat (first | (with_reducible first | exact HB.out | apply below_alloc | apply pw_below_drewN | apply below_drew1) | exact HB.out)⟩⟩
            case round =>
              clear H'
              try clear c1
              try clear c2
              try clear p2
              try clear c3
              try clear p3
              try clear q3
              try clear hx3
              try clear c5
              try clear c6
              try clear p6
              try clear c7
              try clear c10
              try clear c10b0
              try clear c11
              try clear c11b0
              try clear c12
              try clear c12b0
              try clear c13
              try clear c13b0
              try clear c14
              try clear c14b0
              try clear hx392_0
              try clear p2
              try clear p392
              try clear q392
              obtain ⟨x10_2, x47_2, rfl, HA, HK2, HO_2, HO_10, HO_45, HB⟩ := hrel
              cases gk with
              | zero => exact absurd HA.out (by simp [thrumlaw14_LinearTurns.l1])
              | succ k2 =>
                have H := HA.out
                clear HA
                simp only [thrumlaw14_LinearTurns.l1] at H
                by_cases c15 : x47_2 < (l2.length : Int)
                · rw [if_pos c15] at H
                  have c15b0 : decide (x47_2 < (l2.length : Int)) = true := decide_eq_true c15
                  clear c15
                  by_cases c16 : 0 ≤ x47_2
                  · rw [if_pos c16] at H
                    have c16b0 : decide (0 ≤ x47_2) = true := decide_eq_true c16
                    clear c16
                    by_cases c17 : x47_2 < (l2.length : Int)
                    · rw [if_pos c17] at H
                      have c17b0 : decide (x47_2 < (l2.length : Int)) = true := decide_eq_true c17
                      clear c17
                      obtain ⟨ji18, hji18⟩ : ∃ j_ : Int, (wrap64 ((wrap64 ((l2.length : Int) - 1)) - x47_2)) = j_ := ⟨_, rfl⟩
                      replace H : (if 0 ≤ (ji18) then (if (ji18) < (l2.length : Int) then (if x10_2.length < 4398046511104 then (if ((rd_T26 l2 x47_2).f1) > 1048576 then (some true) else (if ((rd_T26 l2 x47_2).f1) < (-1048576) then (some true) else (thrumlaw14_LinearTurns.l2 k2 l0 a1 l2 true (x10_2 ++ [(⟨(rd_T26 l2 (ji18)).f0, (rd_T26 l2 (ji18)).f1⟩ : S26)]) l2 (l2.length : Int) x47_2 ((rd_T26 l2 x47_2).f0) (((rd_T26 l2 x47_2).f0).length : Int) 0))) else (none)) else (none)) else (none)) = some r := by first | (rw [hji18] at H; exact H) | (simp only [hji18] at H ⊢; exact H)
                      have hji18w : (IntKind.i64.wrap ((wrap64 ((l2.length : Int) - 1)) - x47_2)) = ji18 := (i64_w _).trans hji18
                      by_cases c19 : 0 ≤ (ji18)
                      · rw [if_pos c19] at H
                        have c19b0 : decide (0 ≤ (ji18)) = true := decide_eq_true c19
                        clear c19
                        by_cases c20 : (ji18) < (l2.length : Int)
                        · rw [if_pos c20] at H
                          have c20b0 : decide ((ji18) < (l2.length : Int)) = true := decide_eq_true c20
                          clear c20
                          by_cases c21 : x10_2.length < 4398046511104
                          · rw [if_pos c21] at H
                            have LMc21 := Aside0.mk c21
                            clear c21
                            obtain ⟨y396, hy396⟩ : ∃ y_ : List (S26), y_ = (x10_2 ++ [(⟨(rd_T26 l2 (ji18)).f0, (rd_T26 l2 (ji18)).f1⟩ : S26)]) := ⟨_, rfl⟩
                            replace H : (if ((rd_T26 l2 x47_2).f1) > 1048576 then (some true) else (if ((rd_T26 l2 x47_2).f1) < (-1048576) then (some true) else (thrumlaw14_LinearTurns.l2 k2 l0 a1 l2 true y396 l2 (l2.length : Int) x47_2 ((rd_T26 l2 x47_2).f0) (((rd_T26 l2 x47_2).f0).length : Int) 0))) = some r := by first | (rw [hy396]; with_reducible exact H) | (have H2_ := (Option.bind_some _ _).symm.trans H; rw [hy396]; with_reducible exact H2_) | (have H2_ := (Option.bind_some _ _).symm.trans H; with_reducible exact H2_) | with_reducible exact H | (rw [hy396]; exact H) | exact H
                            have Ny396 := Aside0.mk hy396
                            clear hy396
                            by_cases c22 : ((rd_T26 l2 x47_2).f1) > 1048576
                            · rw [if_pos c22] at H
                              have c22b0 : decide (1048576 < ((rd_T26 l2 x47_2).f1)) = true := decide_eq_true c22
                              clear c22
                              obtain rfl := Option.some.inj H
                              have p393 : 0 ≤ (x47_2 : Int) := of_decide_eq_true (by first | (with_reducible assumption) | assumption)
                              have q393 : x47_2 < (l2.length : Int) := of_decide_eq_true (by first | (with_reducible assumption) | assumption)
                              obtain ⟨ad393, A393_0, c393_0, e393, hx393_0, hx393_1, hl393_0, hi393_0⟩ := at_T26 (Kd.V_reads' HO_45.out).2.2 x47_2 p393 q393
                              cases e393
                              obtain ⟨ce393, hce393, hMe393, hcc393⟩ := Kd.V_get HO_45.out z26 x47_2 p393 (by first | exact q393 | exact of_decide_eq_true (by first | (with_reducible assumption) | assumption) | (have e_ := (Kd.V_reads' HO_45.out).1; omega))
                              obtain ⟨ua393_0, uc393_0, rfl, ul393_0, ge393_0⟩ := k26_openF hMe393
                              have hv393_0 := hcc393 0 _ rfl
                              rw [Nat.add_zero] at hv393_0
                              replace hv393_0 := Option.some.inj (hv393_0.symm.trans hx393_0)
                              injection hv393_0 with hva_ hvn_ hvc_
                              rw [hva_] at ge393_0
                              rw [hvc_] at ul393_0
                              have HL393_0 := Aside0.mk (show Kd.V (Kd.int .i64) 2 _ w.heap.size _ _ ((rd_T26 l2 x47_2).f0) from Kd.V_mk ul393_0 ge393_0)
                              clear hva_ hvn_ hvc_ ge393_0 ul393_0
                              clear hcc393 hce393
                              have HR393_0 := Aside0.mk hi393_0
                              have HC393_0 := Aside0.mk hl393_0
                              clear hi393_0 hl393_0
                              replace p393 := eq_true p393
                              replace q393 := eq_true q393
                              go_wp2_with (first | ((with_reducible refine gate_dst (N := 12) rfl ?_); refine box_event ?hg (N := 12) ?hd (cs := #[.slice none 0 0, .int .i64 0]) (t := 26) ?hr ?_; (case hd => rfl); (case hg => rfl); (case hr => first | (go_simp; done) | (go_simp; rfl)); intro gb394 hg w23 hbox hb; have n0_ := Aside0.mk (Kd.V_below (Kd.V_elderB (by (with_reducible repeat (first | apply Kd.V_alloc | apply Kd.V_drewN | apply Kd.V_drew)); exact HO_2.out) gb394 (Nat.le_of_eq hg.symm)) hb); have n1_ := Aside0.mk (Kd.N_below (Kd.N_elderB (by (with_reducible repeat (first | apply Kd.N_alloc | apply Kd.N_drewN | apply Kd.N_drew)); exact HO_10.out) gb394 (Nat.le_of_eq hg.symm)) hb); have n2_ := Aside0.mk (Kd.V_below (Kd.V_elderB (by (with_reducible repeat (first | apply Kd.V_alloc | apply Kd.V_drewN | apply Kd.V_drew)); exact HO_45.out) gb394 (Nat.le_of_eq hg.symm)) hb); have n3_ := Aside0.mk (Kd.V_below (Kd.V_elderB (by (with_reducible repeat (first | apply Kd.V_alloc | apply Kd.V_drewN | apply Kd.V_drew)); exact HL393_0.out) gb394 (Nat.le_of_eq hg.symm)) hb); have n4_ := Aside0.mk (Kd.C_below (by repeat (first | (with_reducible exact HR393_0.out) | (with_reducible refine Kd.C_alloc ?_ _) | (with_reducible refine Kd.C_drewN ?_ _) | (with_reducible refine Kd.C_drew ?_) | exact HR393_0.out)) hb); have n5_ := Aside0.mk (below_step (by repeat (first | (with_reducible first | exact HB.out | apply below_alloc | apply pw_below_drewN | apply below_drew1) | exact HB.out)) hb); have n6_ := Aside0.mk (hbox); have n7_ := Aside0.mk ((by rw [hg]; exact (below_size (by repeat (first | (with_reducible first | exact HB.out | apply below_alloc | apply pw_below_drewN | apply below_drew1) | exact HB.out))) : w.heap.size ≤ gb394)); have n8_ := Aside0.mk ((by rw [hg]; exact (below_size (by repeat (first | (with_reducible first | exact HB.out | apply below_alloc | apply pw_below_drewN | apply below_drew1) | exact HB.out))) : w.heap.size ≤ gb394)); clear HO_2; clear HO_10; clear HO_45; clear HL393_0; clear HR393_0; clear HB; have HO_2 := n0_; have HO_10 := n1_; have HO_45 := n2_; have HL393_0 := n3_; have HR393_0 := Aside0.mk (Kd.V_reads' (e := 2) (base := w.heap.size) HL393_0.out).2.2; have HR393_0 := n4_; have HB := n5_; have BK394 := n6_; have GW394 := n7_; have GE394 := n8_; clear n0_ n1_ n2_ n3_ n4_ n5_ n6_ n7_ n8_; clear hb hbox hg; have hcz24_0 : w23.cell? ⟨gb394, 0, none⟩ = some (.slice none 0 0) := (blk_cell BK394.out 0).trans rfl; have hcz24_1 : w23.cell? ⟨gb394, 1, none⟩ = some (.int .i64 0) := (blk_cell BK394.out 1).trans rfl; have hfz24_0 := blk_frozen BK394.out 0; have hfz24_1 := blk_frozen BK394.out 1) | ((with_reducible refine gate_store (t := 26) (p := 12) rfl ?_); refine store_event (t := 26) (p := 12) (v := ?vo_w25) (w1 := ((w23.setCell ⟨gb394, 0, none⟩ (.slice A393_0 ((rd_T26 l2 x47_2).f0).length c393_0)).setCell ⟨gb394, 1, none⟩ (.int .i64 ((rd_T26 l2 x47_2).f1)))) ?hg ?ho ?hn ?hr ?_; (case ho => rfl); (case hg => rfl); (case hn => rfl); (case hr => first | (go_simp; done) | (go_simp; rfl)); intro w25 hw; have n0_ : Aside0 (Kd.V k26 26 w25 w.heap.size (fun k_ => (P2_ k_ ∨ w.heap.size ≤ k_) ∧ some k_ ≠ (u10 : Value).ownBlock ∧ k_ ≠ gb394) (.slice (some ad393) l2.length c2) l2) := ⟨(by rw [hw]; exact (by (with_reducible repeat (first | apply Kd.V_alloc | apply Kd.V_drewN | apply Kd.V_drew)); exact Kd.V_mono (Kd.V_far (p := ⟨gb394, 1, none⟩) (Kd.V_far (p := ⟨gb394, 0, none⟩) (Kd.V_mono HO_2.out (fun k_ hk => (⟨hk, hk.2⟩ : _ ∧ k_ ≠ gb394))) (fun _ hk => hk.2) (.slice A393_0 ((rd_T26 l2 x47_2).f0).length c393_0)) (fun _ hk => hk.2) (.int .i64 ((rd_T26 l2 x47_2).f1))) (fun _ hk => ⟨hk.1.1.1, ⟨hk.1.1.2, hk.1.2⟩⟩)))⟩; have n1_ : Aside0 (Kd.N k26 26 w25 w.heap.size (fun k_ => (P2_ k_ ∨ w.heap.size ≤ k_) ∧ k_ ≠ gb394) u10 x10_2) := ⟨(by rw [hw]; exact (by (with_reducible repeat (first | apply Kd.N_alloc | apply Kd.N_drewN | apply Kd.N_drew)); exact Kd.N_mono (Kd.N_far (p := ⟨gb394, 1, none⟩) (Kd.N_far (p := ⟨gb394, 0, none⟩) (Kd.N_mono HO_10.out (fun k_ hk => (⟨hk, hk.2⟩ : _ ∧ k_ ≠ gb394))) (fun _ hk => hk.2) (.slice A393_0 ((rd_T26 l2 x47_2).f0).length c393_0)) (fun _ hk => hk.2) (.int .i64 ((rd_T26 l2 x47_2).f1))) (fun _ hk => ⟨hk.1.1, hk.1.2⟩)))⟩; have n2_ : Aside0 (Kd.V k26 26 w25 w.heap.size (fun k_ => (P2_ k_ ∨ w.heap.size ≤ k_) ∧ some k_ ≠ (u10 : Value).ownBlock ∧ k_ ≠ gb394) (.slice (some ad393) l2.length c2) l2) := ⟨(by rw [hw]; exact (by (with_reducible repeat (first | apply Kd.V_alloc | apply Kd.V_drewN | apply Kd.V_drew)); exact Kd.V_mono (Kd.V_far (p := ⟨gb394, 1, none⟩) (Kd.V_far (p := ⟨gb394, 0, none⟩) (Kd.V_mono HO_45.out (fun k_ hk => (⟨hk, hk.2⟩ : _ ∧ k_ ≠ gb394))) (fun _ hk => hk.2) (.slice A393_0 ((rd_T26 l2 x47_2).f0).length c393_0)) (fun _ hk => hk.2) (.int .i64 ((rd_T26 l2 x47_2).f1))) (fun _ hk => ⟨hk.1.1.1, ⟨hk.1.1.2, hk.1.2⟩⟩)))⟩; have n3_ : Aside0 (Kd.V (Kd.int .i64) 2 w25 w.heap.size (fun k_ => (P2_ k_ ∨ w.heap.size ≤ k_) ∧ some k_ ≠ (u10 : Value).ownBlock ∧ k_ ≠ gb394) (.slice A393_0 ((rd_T26 l2 x47_2).f0).length c393_0) ((rd_T26 l2 x47_2).f0)) := ⟨(by rw [hw]; exact (by (with_reducible repeat (first | apply Kd.V_alloc | apply Kd.V_drewN | apply Kd.V_drew)); exact Kd.V_mono (Kd.V_far (p := ⟨gb394, 1, none⟩) (Kd.V_far (p := ⟨gb394, 0, none⟩) (Kd.V_mono HL393_0.out (fun k_ hk => (⟨hk, hk.2⟩ : _ ∧ k_ ≠ gb394))) (fun _ hk => hk.2) (.slice A393_0 ((rd_T26 l2 x47_2).f0).length c393_0)) (fun _ hk => hk.2) (.int .i64 ((rd_T26 l2 x47_2).f1))) (fun _ hk => ⟨hk.1.1.1, ⟨hk.1.1.2, hk.1.2⟩⟩)))⟩; have n4_ : Aside0 (w25.heap[gb394]? = some (.cells #[.slice A393_0 ((rd_T26 l2 x47_2).f0).length c393_0, .int .i64 ((rd_T26 l2 x47_2).f1)] 26 (0, 0))) := ⟨(by rw [hw]; exact (by (with_reducible repeat (first | refine blk_drewN ?_ _ | refine blk_drew ?_ | refine blk_alloc ?_ _)); refine blk_put (cs := #[.slice A393_0 ((rd_T26 l2 x47_2).f0).length c393_0, .int .i64 0]) ?_ 1 _ rfl; (with_reducible repeat (first | refine blk_drewN ?_ _ | refine blk_drew ?_ | refine blk_alloc ?_ _)); refine blk_put (cs := #[.slice none 0 0, .int .i64 0]) ?_ 0 _ rfl; (with_reducible repeat (first | refine blk_drewN ?_ _ | refine blk_drew ?_ | refine blk_alloc ?_ _)); exact BK394.out))⟩; have n5_ : Aside0 (Below w.heap.size w w25) := ⟨(by rw [hw]; exact (by repeat (first | (with_reducible first | exact HB.out | apply below_alloc | apply pw_below_drewN | apply below_drew1 | refine below_set ?_ GE394.out) | exact HB.out)))⟩; clear hw; clear HO_2; clear HO_10; clear HO_45; clear HL393_0; clear BK394; clear HB; have HO_2 := n0_; have HO_10 := n1_; have HO_45 := n2_; have HL393_0 := n3_; have HR393_0 := Aside0.mk (Kd.V_reads' (e := 2) (base := w.heap.size) HL393_0.out).2.2; have BK394 := n4_; have HB := n5_; clear n0_ n1_ n2_ n3_ n4_ n5_; have p395 : 0 ≤ ((ji18) : Int) := of_decide_eq_true (by first | (with_reducible assumption) | assumption); have q395 : (ji18) < (l2.length : Int) := of_decide_eq_true (by first | (with_reducible assumption) | assumption); obtain ⟨ad395, A395_0, c395_0, e395, hx395_0, hx395_1, hl395_0, hi395_0⟩ := at_T26 (Kd.V_reads' HO_2.out).2.2 (ji18) p395 q395; obtain rfl : ad393 = ad395 := (by injection e395); obtain ⟨ce395, hce395, hMe395, hcc395⟩ := Kd.V_get HO_2.out z26 (ji18) p395 (by first | exact q395 | exact of_decide_eq_true (by first | (with_reducible assumption) | assumption) | (have e_ := (Kd.V_reads' HO_2.out).1; omega)); obtain ⟨ua395_0, uc395_0, rfl, ul395_0, ge395_0⟩ := k26_openF hMe395; have hv395_0 := hcc395 0 _ rfl; rw [Nat.add_zero] at hv395_0; replace hv395_0 := Option.some.inj (hv395_0.symm.trans hx395_0); injection hv395_0 with hva_ hvn_ hvc_; rw [hva_] at ge395_0; rw [hvc_] at ul395_0; have HL395_0 := Aside0.mk (show Kd.V (Kd.int .i64) 2 _ w.heap.size _ _ ((rd_T26 l2 (ji18)).f0) from Kd.V_mk ul395_0 ge395_0); clear hva_ hvn_ hvc_ ge395_0 ul395_0; clear hcc395 hce395; have HR395_0 := Aside0.mk hi395_0; have HC395_0 := Aside0.mk hl395_0; clear hi395_0 hl395_0; replace p395 := eq_true p395; replace q395 := eq_true q395) | ((with_reducible refine gate_builtin (b := .append) (xs := #[.tmp 52, .tmp 61]) rfl ?_); at_builtin; refine Kd.N_append k26 (w0 := w) w.heap.size rfl (.tmp 52) (.tmp 61) 66 26 (.agg #[(.slice none 0 0), (.int .i64 0)]) 32 rfl Try.underlying66 info26 rfl (by decide) (by omega) u10 x10_2 (⟨(rd_T26 l2 (ji18)).f0, (rd_T26 l2 (ji18)).f1⟩ : S26) [.slice A395_0 ((rd_T26 l2 (ji18)).f0).length c395_0, .int .i64 ((rd_T26 l2 (ji18)).f1)] (fun k_ => (P2_ k_ ∨ w.heap.size ≤ k_) ∧ k_ ≠ gb394) (fun k_ => ((fun k_ => (P2_ k_ ∨ w.heap.size ≤ k_) ∧ k_ ≠ gb394)) k_ ∧ some k_ ≠ (u10 : Value).ownBlock) rfl rfl ?aP (fun _ hk => hk) ?aF ?aO ?aB ?aS ?aL ?_; (case aP => exact (k26_mkF _ _ (⟨(rd_T26 l2 (ji18)).f0, (rd_T26 l2 (ji18)).f1⟩ : S26) (Kd.V_reads' (Kd.V_mono (ok' := (fun k_ => ((fun k_ => (P2_ k_ ∨ w.heap.size ≤ k_) ∧ k_ ≠ gb394)) k_ ∧ some k_ ≠ (u10 : Value).ownBlock)) (HL395_0.out) (fun k_ hk => ⟨⟨hk.1, hk.2.2⟩, hk.2.1⟩))).2.1 (Kd.V_F (Kd.V_mono (ok' := (fun k_ => ((fun k_ => (P2_ k_ ∨ w.heap.size ≤ k_) ∧ k_ ≠ gb394)) k_ ∧ some k_ ≠ (u10 : Value).ownBlock)) (HL395_0.out) (fun k_ hk => ⟨⟨hk.1, hk.2.2⟩, hk.2.1⟩))))); (case aB => exact (by repeat (first | (with_reducible first | exact HB.out | apply below_alloc | apply pw_below_drewN | apply below_drew1 | refine below_set ?_ GE394.out) | exact HB.out))); (case aF => exact (fun k_ hk => ⟨(.inr (Nat.le_trans (below_size (by repeat (first | (with_reducible first | exact HB.out | apply below_alloc | apply pw_below_drewN | apply below_drew1 | refine below_set ?_ GE394.out) | exact HB.out))) hk)), Kd.freshB (g := gb394) (o := .cells #[.slice A393_0 ((rd_T26 l2 x47_2).f0).length c393_0, .int .i64 ((rd_T26 l2 x47_2).f1)] 26 (0, 0)) (by (with_reducible repeat (first | refine blk_drewN ?_ _ | refine blk_drew ?_ | refine blk_alloc ?_ _)); exact BK394.out) k_ hk⟩)); (case aO => exact (by (with_reducible repeat (first | apply Kd.N_alloc | apply Kd.N_drewN | apply Kd.N_drew)); exact HO_10.out)); (case aS => exact (below_size (by repeat (first | (with_reducible first | exact HB.out | apply below_alloc | apply pw_below_drewN | apply below_drew1 | refine below_set ?_ GE394.out) | exact HB.out)))); (case aL => have := LMc21.out; omega); intro v397 w26 ho hb hg hat; rw [← Ny396.out] at ho; have n0_ := Aside0.mk (Kd.V_afterv (ok := (fun k_ => (P2_ k_ ∨ w.heap.size ≤ k_) ∧ k_ ≠ gb394)) (by (with_reducible repeat (first | apply Kd.V_alloc | apply Kd.V_drewN | apply Kd.V_drew)); exact Kd.V_mono HO_2.out (fun _ hk => ⟨⟨hk.1, hk.2.2⟩, hk.2.1⟩)) hg hat); have n1_ := Aside0.mk (Kd.V_afterv (ok := (fun k_ => (P2_ k_ ∨ w.heap.size ≤ k_) ∧ k_ ≠ gb394)) (by (with_reducible repeat (first | apply Kd.V_alloc | apply Kd.V_drewN | apply Kd.V_drew)); exact Kd.V_mono HO_45.out (fun _ hk => ⟨⟨hk.1, hk.2.2⟩, hk.2.1⟩)) hg hat); have n2_ := Aside0.mk (Kd.V_afterv (ok := (fun k_ => (P2_ k_ ∨ w.heap.size ≤ k_) ∧ k_ ≠ gb394)) (by (with_reducible repeat (first | apply Kd.V_alloc | apply Kd.V_drewN | apply Kd.V_drew)); exact Kd.V_mono HL393_0.out (fun _ hk => ⟨⟨hk.1, hk.2.2⟩, hk.2.1⟩)) hg hat); have n3_ := Aside0.mk (blk_grown (g := gb394) (o := .cells #[.slice A393_0 ((rd_T26 l2 x47_2).f0).length c393_0, .int .i64 ((rd_T26 l2 x47_2).f1)] 26 (0, 0)) (by (with_reducible repeat (first | refine blk_drewN ?_ _ | refine blk_drew ?_ | refine blk_alloc ?_ _)); exact BK394.out) hg (Kd.N_away HO_10.out (fun _ hk => hk.2))); have n4_ := Aside0.mk (Kd.V_afterv (ok := (fun k_ => (P2_ k_ ∨ w.heap.size ≤ k_) ∧ k_ ≠ gb394)) (by (with_reducible repeat (first | apply Kd.V_alloc | apply Kd.V_drewN | apply Kd.V_drew)); exact Kd.V_mono HL395_0.out (fun _ hk => ⟨⟨hk.1, hk.2.2⟩, hk.2.1⟩)) hg hat); have n5_ := Aside0.mk (hb); have n6_ := Aside0.mk (ho); clear HO_2; clear HO_45; clear HL393_0; clear BK394; clear HL395_0; clear HB; clear HO_10; have HO_2 := n0_; have HO_45 := n1_; have HL393_0 := n2_; have HR393_0 := Aside0.mk (Kd.V_reads' (e := 2) (base := w.heap.size) HL393_0.out).2.2; have BK394 := n3_; have HL395_0 := n4_; have HR395_0 := Aside0.mk (Kd.V_reads' (e := 2) (base := w.heap.size) HL395_0.out).2.2; have HB := n5_; have HO398 := n6_; clear n0_ n1_ n2_ n3_ n4_ n5_ n6_; clear ho hb hg hat; have hcz27_0 : w26.cell? ⟨gb394, 0, none⟩ = some (.slice A393_0 ((rd_T26 l2 x47_2).f0).length c393_0) := (blk_cell BK394.out 0).trans rfl; have hcz27_1 : w26.cell? ⟨gb394, 1, none⟩ = some (.int .i64 ((rd_T26 l2 x47_2).f1)) := (blk_cell BK394.out 1).trans rfl; have hfz27_0 := blk_frozen BK394.out 0; have hfz27_1 := blk_frozen BK394.out 1))
                              go_ret
                              exact ⟨by first | rfl | (simp [errW_none, errW_some] <;> rfl) | (simp only [← hji18]; first | rfl | (simp [errW_none, errW_some] <;> rfl)) | (simp [*, errW_none, errW_some] <;> rfl), by repeat (first | (with_reducible first | exact HB.out | apply below_alloc | apply pw_below_drewN | apply below_drew1 | refine below_set ?_ GE394.out) | exact HB.out)⟩
                            · rw [if_neg c22] at H
                              have c22b0 : decide (1048576 < ((rd_T26 l2 x47_2).f1)) = false := decide_eq_false c22
                              clear c22
                              by_cases c28 : ((rd_T26 l2 x47_2).f1) < (-1048576)
                              · rw [if_pos c28] at H
                                have c28b0 : decide (((rd_T26 l2 x47_2).f1) < (-1048576)) = true := decide_eq_true c28
                                clear c28
                                obtain rfl := Option.some.inj H
                                have p393 : 0 ≤ (x47_2 : Int) := of_decide_eq_true (by first | (with_reducible assumption) | assumption)
                                have q393 : x47_2 < (l2.length : Int) := of_decide_eq_true (by first | (with_reducible assumption) | assumption)
                                obtain ⟨ad393, A393_0, c393_0, e393, hx393_0, hx393_1, hl393_0, hi393_0⟩ := at_T26 (Kd.V_reads' HO_45.out).2.2 x47_2 p393 q393
                                cases e393
                                obtain ⟨ce393, hce393, hMe393, hcc393⟩ := Kd.V_get HO_45.out z26 x47_2 p393 (by first | exact q393 | exact of_decide_eq_true (by first | (with_reducible assumption) | assumption) | (have e_ := (Kd.V_reads' HO_45.out).1; omega))
                                obtain ⟨ua393_0, uc393_0, rfl, ul393_0, ge393_0⟩ := k26_openF hMe393
                                have hv393_0 := hcc393 0 _ rfl
                                rw [Nat.add_zero] at hv393_0
                                replace hv393_0 := Option.some.inj (hv393_0.symm.trans hx393_0)
                                injection hv393_0 with hva_ hvn_ hvc_
                                rw [hva_] at ge393_0
                                rw [hvc_] at ul393_0
                                have HL393_0 := Aside0.mk (show Kd.V (Kd.int .i64) 2 _ w.heap.size _ _ ((rd_T26 l2 x47_2).f0) from Kd.V_mk ul393_0 ge393_0)
                                clear hva_ hvn_ hvc_ ge393_0 ul393_0
                                clear hcc393 hce393
                                have HR393_0 := Aside0.mk hi393_0
                                have HC393_0 := Aside0.mk hl393_0
                                clear hi393_0 hl393_0
                                replace p393 := eq_true p393
                                replace q393 := eq_true q393
                                go_wp2_with (first | ((with_reducible refine gate_dst (N := 12) rfl ?_); refine box_event ?hg (N := 12) ?hd (cs := #[.slice none 0 0, .int .i64 0]) (t := 26) ?hr ?_; (case hd => rfl); (case hg => rfl); (case hr => first | (go_simp; done) | (go_simp; rfl)); intro gb394 hg w29 hbox hb; have n0_ := Aside0.mk (Kd.V_below (Kd.V_elderB (by (with_reducible repeat (first | apply Kd.V_alloc | apply Kd.V_drewN | apply Kd.V_drew)); exact HO_2.out) gb394 (Nat.le_of_eq hg.symm)) hb); have n1_ := Aside0.mk (Kd.N_below (Kd.N_elderB (by (with_reducible repeat (first | apply Kd.N_alloc | apply Kd.N_drewN | apply Kd.N_drew)); exact HO_10.out) gb394 (Nat.le_of_eq hg.symm)) hb); have n2_ := Aside0.mk (Kd.V_below (Kd.V_elderB (by (with_reducible repeat (first | apply Kd.V_alloc | apply Kd.V_drewN | apply Kd.V_drew)); exact HO_45.out) gb394 (Nat.le_of_eq hg.symm)) hb); have n3_ := Aside0.mk (Kd.V_below (Kd.V_elderB (by (with_reducible repeat (first | apply Kd.V_alloc | apply Kd.V_drewN | apply Kd.V_drew)); exact HL393_0.out) gb394 (Nat.le_of_eq hg.symm)) hb); have n4_ := Aside0.mk (Kd.C_below (by repeat (first | (with_reducible exact HR393_0.out) | (with_reducible refine Kd.C_alloc ?_ _) | (with_reducible refine Kd.C_drewN ?_ _) | (with_reducible refine Kd.C_drew ?_) | exact HR393_0.out)) hb); have n5_ := Aside0.mk (below_step (by repeat (first | (with_reducible first | exact HB.out | apply below_alloc | apply pw_below_drewN | apply below_drew1) | exact HB.out)) hb); have n6_ := Aside0.mk (hbox); have n7_ := Aside0.mk ((by rw [hg]; exact (below_size (by repeat (first | (with_reducible first | exact HB.out | apply below_alloc | apply pw_below_drewN | apply below_drew1) | exact HB.out))) : w.heap.size ≤ gb394)); have n8_ := Aside0.mk ((by rw [hg]; exact (below_size (by repeat (first | (with_reducible first | exact HB.out | apply below_alloc | apply pw_below_drewN | apply below_drew1) | exact HB.out))) : w.heap.size ≤ gb394)); clear HO_2; clear HO_10; clear HO_45; clear HL393_0; clear HR393_0; clear HB; have HO_2 := n0_; have HO_10 := n1_; have HO_45 := n2_; have HL393_0 := n3_; have HR393_0 := Aside0.mk (Kd.V_reads' (e := 2) (base := w.heap.size) HL393_0.out).2.2; have HR393_0 := n4_; have HB := n5_; have BK394 := n6_; have GW394 := n7_; have GE394 := n8_; clear n0_ n1_ n2_ n3_ n4_ n5_ n6_ n7_ n8_; clear hb hbox hg; have hcz30_0 : w29.cell? ⟨gb394, 0, none⟩ = some (.slice none 0 0) := (blk_cell BK394.out 0).trans rfl; have hcz30_1 : w29.cell? ⟨gb394, 1, none⟩ = some (.int .i64 0) := (blk_cell BK394.out 1).trans rfl; have hfz30_0 := blk_frozen BK394.out 0; have hfz30_1 := blk_frozen BK394.out 1) | ((with_reducible refine gate_store (t := 26) (p := 12) rfl ?_); refine store_event (t := 26) (p := 12) (v := ?vo_w31) (w1 := ((w29.setCell ⟨gb394, 0, none⟩ (.slice A393_0 ((rd_T26 l2 x47_2).f0).length c393_0)).setCell ⟨gb394, 1, none⟩ (.int .i64 ((rd_T26 l2 x47_2).f1)))) ?hg ?ho ?hn ?hr ?_; (case ho => rfl); (case hg => rfl); (case hn => rfl); (case hr => first | (go_simp; done) | (go_simp; rfl)); intro w31 hw; have n0_ : Aside0 (Kd.V k26 26 w31 w.heap.size (fun k_ => (P2_ k_ ∨ w.heap.size ≤ k_) ∧ some k_ ≠ (u10 : Value).ownBlock ∧ k_ ≠ gb394) (.slice (some ad393) l2.length c2) l2) := ⟨(by rw [hw]; exact (by (with_reducible repeat (first | apply Kd.V_alloc | apply Kd.V_drewN | apply Kd.V_drew)); exact Kd.V_mono (Kd.V_far (p := ⟨gb394, 1, none⟩) (Kd.V_far (p := ⟨gb394, 0, none⟩) (Kd.V_mono HO_2.out (fun k_ hk => (⟨hk, hk.2⟩ : _ ∧ k_ ≠ gb394))) (fun _ hk => hk.2) (.slice A393_0 ((rd_T26 l2 x47_2).f0).length c393_0)) (fun _ hk => hk.2) (.int .i64 ((rd_T26 l2 x47_2).f1))) (fun _ hk => ⟨hk.1.1.1, ⟨hk.1.1.2, hk.1.2⟩⟩)))⟩; have n1_ : Aside0 (Kd.N k26 26 w31 w.heap.size (fun k_ => (P2_ k_ ∨ w.heap.size ≤ k_) ∧ k_ ≠ gb394) u10 x10_2) := ⟨(by rw [hw]; exact (by (with_reducible repeat (first | apply Kd.N_alloc | apply Kd.N_drewN | apply Kd.N_drew)); exact Kd.N_mono (Kd.N_far (p := ⟨gb394, 1, none⟩) (Kd.N_far (p := ⟨gb394, 0, none⟩) (Kd.N_mono HO_10.out (fun k_ hk => (⟨hk, hk.2⟩ : _ ∧ k_ ≠ gb394))) (fun _ hk => hk.2) (.slice A393_0 ((rd_T26 l2 x47_2).f0).length c393_0)) (fun _ hk => hk.2) (.int .i64 ((rd_T26 l2 x47_2).f1))) (fun _ hk => ⟨hk.1.1, hk.1.2⟩)))⟩; have n2_ : Aside0 (Kd.V k26 26 w31 w.heap.size (fun k_ => (P2_ k_ ∨ w.heap.size ≤ k_) ∧ some k_ ≠ (u10 : Value).ownBlock ∧ k_ ≠ gb394) (.slice (some ad393) l2.length c2) l2) := ⟨(by rw [hw]; exact (by (with_reducible repeat (first | apply Kd.V_alloc | apply Kd.V_drewN | apply Kd.V_drew)); exact Kd.V_mono (Kd.V_far (p := ⟨gb394, 1, none⟩) (Kd.V_far (p := ⟨gb394, 0, none⟩) (Kd.V_mono HO_45.out (fun k_ hk => (⟨hk, hk.2⟩ : _ ∧ k_ ≠ gb394))) (fun _ hk => hk.2) (.slice A393_0 ((rd_T26 l2 x47_2).f0).length c393_0)) (fun _ hk => hk.2) (.int .i64 ((rd_T26 l2 x47_2).f1))) (fun _ hk => ⟨hk.1.1.1, ⟨hk.1.1.2, hk.1.2⟩⟩)))⟩; have n3_ : Aside0 (Kd.V (Kd.int .i64) 2 w31 w.heap.size (fun k_ => (P2_ k_ ∨ w.heap.size ≤ k_) ∧ some k_ ≠ (u10 : Value).ownBlock ∧ k_ ≠ gb394) (.slice A393_0 ((rd_T26 l2 x47_2).f0).length c393_0) ((rd_T26 l2 x47_2).f0)) := ⟨(by rw [hw]; exact (by (with_reducible repeat (first | apply Kd.V_alloc | apply Kd.V_drewN | apply Kd.V_drew)); exact Kd.V_mono (Kd.V_far (p := ⟨gb394, 1, none⟩) (Kd.V_far (p := ⟨gb394, 0, none⟩) (Kd.V_mono HL393_0.out (fun k_ hk => (⟨hk, hk.2⟩ : _ ∧ k_ ≠ gb394))) (fun _ hk => hk.2) (.slice A393_0 ((rd_T26 l2 x47_2).f0).length c393_0)) (fun _ hk => hk.2) (.int .i64 ((rd_T26 l2 x47_2).f1))) (fun _ hk => ⟨hk.1.1.1, ⟨hk.1.1.2, hk.1.2⟩⟩)))⟩; have n4_ : Aside0 (w31.heap[gb394]? = some (.cells #[.slice A393_0 ((rd_T26 l2 x47_2).f0).length c393_0, .int .i64 ((rd_T26 l2 x47_2).f1)] 26 (0, 0))) := ⟨(by rw [hw]; exact (by (with_reducible repeat (first | refine blk_drewN ?_ _ | refine blk_drew ?_ | refine blk_alloc ?_ _)); refine blk_put (cs := #[.slice A393_0 ((rd_T26 l2 x47_2).f0).length c393_0, .int .i64 0]) ?_ 1 _ rfl; (with_reducible repeat (first | refine blk_drewN ?_ _ | refine blk_drew ?_ | refine blk_alloc ?_ _)); refine blk_put (cs := #[.slice none 0 0, .int .i64 0]) ?_ 0 _ rfl; (with_reducible repeat (first | refine blk_drewN ?_ _ | refine blk_drew ?_ | refine blk_alloc ?_ _)); exact BK394.out))⟩; have n5_ : Aside0 (Below w.heap.size w w31) := ⟨(by rw [hw]; exact (by repeat (first | (with_reducible first | exact HB.out | apply below_alloc | apply pw_below_drewN | apply below_drew1 | refine below_set ?_ GE394.out) | exact HB.out)))⟩; clear hw; clear HO_2; clear HO_10; clear HO_45; clear HL393_0; clear BK394; clear HB; have HO_2 := n0_; have HO_10 := n1_; have HO_45 := n2_; have HL393_0 := n3_; have HR393_0 := Aside0.mk (Kd.V_reads' (e := 2) (base := w.heap.size) HL393_0.out).2.2; have BK394 := n4_; have HB := n5_; clear n0_ n1_ n2_ n3_ n4_ n5_; have p395 : 0 ≤ ((ji18) : Int) := of_decide_eq_true (by first | (with_reducible assumption) | assumption); have q395 : (ji18) < (l2.length : Int) := of_decide_eq_true (by first | (with_reducible assumption) | assumption); obtain ⟨ad395, A395_0, c395_0, e395, hx395_0, hx395_1, hl395_0, hi395_0⟩ := at_T26 (Kd.V_reads' HO_2.out).2.2 (ji18) p395 q395; obtain rfl : ad393 = ad395 := (by injection e395); obtain ⟨ce395, hce395, hMe395, hcc395⟩ := Kd.V_get HO_2.out z26 (ji18) p395 (by first | exact q395 | exact of_decide_eq_true (by first | (with_reducible assumption) | assumption) | (have e_ := (Kd.V_reads' HO_2.out).1; omega)); obtain ⟨ua395_0, uc395_0, rfl, ul395_0, ge395_0⟩ := k26_openF hMe395; have hv395_0 := hcc395 0 _ rfl; rw [Nat.add_zero] at hv395_0; replace hv395_0 := Option.some.inj (hv395_0.symm.trans hx395_0); injection hv395_0 with hva_ hvn_ hvc_; rw [hva_] at ge395_0; rw [hvc_] at ul395_0; have HL395_0 := Aside0.mk (show Kd.V (Kd.int .i64) 2 _ w.heap.size _ _ ((rd_T26 l2 (ji18)).f0) from Kd.V_mk ul395_0 ge395_0); clear hva_ hvn_ hvc_ ge395_0 ul395_0; clear hcc395 hce395; have HR395_0 := Aside0.mk hi395_0; have HC395_0 := Aside0.mk hl395_0; clear hi395_0 hl395_0; replace p395 := eq_true p395; replace q395 := eq_true q395) | ((with_reducible refine gate_builtin (b := .append) (xs := #[.tmp 52, .tmp 61]) rfl ?_); at_builtin; refine Kd.N_append k26 (w0 := w) w.heap.size rfl (.tmp 52) (.tmp 61) 66 26 (.agg #[(.slice none 0 0), (.int .i64 0)]) 32 rfl Try.underlying66 info26 rfl (by decide) (by omega) u10 x10_2 (⟨(rd_T26 l2 (ji18)).f0, (rd_T26 l2 (ji18)).f1⟩ : S26) [.slice A395_0 ((rd_T26 l2 (ji18)).f0).length c395_0, .int .i64 ((rd_T26 l2 (ji18)).f1)] (fun k_ => (P2_ k_ ∨ w.heap.size ≤ k_) ∧ k_ ≠ gb394) (fun k_ => ((fun k_ => (P2_ k_ ∨ w.heap.size ≤ k_) ∧ k_ ≠ gb394)) k_ ∧ some k_ ≠ (u10 : Value).ownBlock) rfl rfl ?aP (fun _ hk => hk) ?aF ?aO ?aB ?aS ?aL ?_; (case aP => exact (k26_mkF _ _ (⟨(rd_T26 l2 (ji18)).f0, (rd_T26 l2 (ji18)).f1⟩ : S26) (Kd.V_reads' (Kd.V_mono (ok' := (fun k_ => ((fun k_ => (P2_ k_ ∨ w.heap.size ≤ k_) ∧ k_ ≠ gb394)) k_ ∧ some k_ ≠ (u10 : Value).ownBlock)) (HL395_0.out) (fun k_ hk => ⟨⟨hk.1, hk.2.2⟩, hk.2.1⟩))).2.1 (Kd.V_F (Kd.V_mono (ok' := (fun k_ => ((fun k_ => (P2_ k_ ∨ w.heap.size ≤ k_) ∧ k_ ≠ gb394)) k_ ∧ some k_ ≠ (u10 : Value).ownBlock)) (HL395_0.out) (fun k_ hk => ⟨⟨hk.1, hk.2.2⟩, hk.2.1⟩))))); (case aB => exact (by repeat (first | (with_reducible first | exact HB.out | apply below_alloc | apply pw_below_drewN | apply below_drew1 | refine below_set ?_ GE394.out) | exact HB.out))); (case aF => exact (fun k_ hk => ⟨(.inr (Nat.le_trans (below_size (by repeat (first | (with_reducible first | exact HB.out | apply below_alloc | apply pw_below_drewN | apply below_drew1 | refine below_set ?_ GE394.out) | exact HB.out))) hk)), Kd.freshB (g := gb394) (o := .cells #[.slice A393_0 ((rd_T26 l2 x47_2).f0).length c393_0, .int .i64 ((rd_T26 l2 x47_2).f1)] 26 (0, 0)) (by (with_reducible repeat (first | refine blk_drewN ?_ _ | refine blk_drew ?_ | refine blk_alloc ?_ _)); exact BK394.out) k_ hk⟩)); (case aO => exact (by (with_reducible repeat (first | apply Kd.N_alloc | apply Kd.N_drewN | apply Kd.N_drew)); exact HO_10.out)); (case aS => exact (below_size (by repeat (first | (with_reducible first | exact HB.out | apply below_alloc | apply pw_below_drewN | apply below_drew1 | refine below_set ?_ GE394.out) | exact HB.out)))); (case aL => have := LMc21.out; omega); intro v397 w32 ho hb hg hat; rw [← Ny396.out] at ho; have n0_ := Aside0.mk (Kd.V_afterv (ok := (fun k_ => (P2_ k_ ∨ w.heap.size ≤ k_) ∧ k_ ≠ gb394)) (by (with_reducible repeat (first | apply Kd.V_alloc | apply Kd.V_drewN | apply Kd.V_drew)); exact Kd.V_mono HO_2.out (fun _ hk => ⟨⟨hk.1, hk.2.2⟩, hk.2.1⟩)) hg hat); have n1_ := Aside0.mk (Kd.V_afterv (ok := (fun k_ => (P2_ k_ ∨ w.heap.size ≤ k_) ∧ k_ ≠ gb394)) (by (with_reducible repeat (first | apply Kd.V_alloc | apply Kd.V_drewN | apply Kd.V_drew)); exact Kd.V_mono HO_45.out (fun _ hk => ⟨⟨hk.1, hk.2.2⟩, hk.2.1⟩)) hg hat); have n2_ := Aside0.mk (Kd.V_afterv (ok := (fun k_ => (P2_ k_ ∨ w.heap.size ≤ k_) ∧ k_ ≠ gb394)) (by (with_reducible repeat (first | apply Kd.V_alloc | apply Kd.V_drewN | apply Kd.V_drew)); exact Kd.V_mono HL393_0.out (fun _ hk => ⟨⟨hk.1, hk.2.2⟩, hk.2.1⟩)) hg hat); have n3_ := Aside0.mk (blk_grown (g := gb394) (o := .cells #[.slice A393_0 ((rd_T26 l2 x47_2).f0).length c393_0, .int .i64 ((rd_T26 l2 x47_2).f1)] 26 (0, 0)) (by (with_reducible repeat (first | refine blk_drewN ?_ _ | refine blk_drew ?_ | refine blk_alloc ?_ _)); exact BK394.out) hg (Kd.N_away HO_10.out (fun _ hk => hk.2))); have n4_ := Aside0.mk (Kd.V_afterv (ok := (fun k_ => (P2_ k_ ∨ w.heap.size ≤ k_) ∧ k_ ≠ gb394)) (by (with_reducible repeat (first | apply Kd.V_alloc | apply Kd.V_drewN | apply Kd.V_drew)); exact Kd.V_mono HL395_0.out (fun _ hk => ⟨⟨hk.1, hk.2.2⟩, hk.2.1⟩)) hg hat); have n5_ := Aside0.mk (hb); have n6_ := Aside0.mk (ho); clear HO_2; clear HO_45; clear HL393_0; clear BK394; clear HL395_0; clear HB; clear HO_10; have HO_2 := n0_; have HO_45 := n1_; have HL393_0 := n2_; have HR393_0 := Aside0.mk (Kd.V_reads' (e := 2) (base := w.heap.size) HL393_0.out).2.2; have BK394 := n3_; have HL395_0 := n4_; have HR395_0 := Aside0.mk (Kd.V_reads' (e := 2) (base := w.heap.size) HL395_0.out).2.2; have HB := n5_; have HO398 := n6_; clear n0_ n1_ n2_ n3_ n4_ n5_ n6_; clear ho hb hg hat; have hcz33_0 : w32.cell? ⟨gb394, 0, none⟩ = some (.slice A393_0 ((rd_T26 l2 x47_2).f0).length c393_0) := (blk_cell BK394.out 0).trans rfl; have hcz33_1 : w32.cell? ⟨gb394, 1, none⟩ = some (.int .i64 ((rd_T26 l2 x47_2).f1)) := (blk_cell BK394.out 1).trans rfl; have hfz33_0 := blk_frozen BK394.out 0; have hfz33_1 := blk_frozen BK394.out 1))
                                go_ret
                                exact ⟨by first | rfl | (simp [errW_none, errW_some] <;> rfl) | (simp only [← hji18]; first | rfl | (simp [errW_none, errW_some] <;> rfl)) | (simp [*, errW_none, errW_some] <;> rfl), by repeat (first | (with_reducible first | exact HB.out | apply below_alloc | apply pw_below_drewN | apply below_drew1 | refine below_set ?_ GE394.out) | exact HB.out)⟩
                              · rw [if_neg c28] at H
                                have c28b0 : decide (((rd_T26 l2 x47_2).f1) < (-1048576)) = false := decide_eq_false c28
                                clear c28
                                have H' := Aside0.mk H
                                clear H
                                have p393 : 0 ≤ (x47_2 : Int) := of_decide_eq_true (by first | (with_reducible assumption) | assumption)
                                have q393 : x47_2 < (l2.length : Int) := of_decide_eq_true (by first | (with_reducible assumption) | assumption)
                                obtain ⟨ad393, A393_0, c393_0, e393, hx393_0, hx393_1, hl393_0, hi393_0⟩ := at_T26 (Kd.V_reads' HO_45.out).2.2 x47_2 p393 q393
                                cases e393
                                obtain ⟨ce393, hce393, hMe393, hcc393⟩ := Kd.V_get HO_45.out z26 x47_2 p393 (by first | exact q393 | exact of_decide_eq_true (by first | (with_reducible assumption) | assumption) | (have e_ := (Kd.V_reads' HO_45.out).1; omega))
                                obtain ⟨ua393_0, uc393_0, rfl, ul393_0, ge393_0⟩ := k26_openF hMe393
                                have hv393_0 := hcc393 0 _ rfl
                                rw [Nat.add_zero] at hv393_0
                                replace hv393_0 := Option.some.inj (hv393_0.symm.trans hx393_0)
                                injection hv393_0 with hva_ hvn_ hvc_
                                rw [hva_] at ge393_0
                                rw [hvc_] at ul393_0
                                have HL393_0 := Aside0.mk (show Kd.V (Kd.int .i64) 2 _ w.heap.size _ _ ((rd_T26 l2 x47_2).f0) from Kd.V_mk ul393_0 ge393_0)
                                clear hva_ hvn_ hvc_ ge393_0 ul393_0
                                clear hcc393 hce393
                                have HR393_0 := Aside0.mk hi393_0
                                have HC393_0 := Aside0.mk hl393_0
                                clear hi393_0 hl393_0
                                replace p393 := eq_true p393
                                replace q393 := eq_true q393
                                go_wp2_with (first | ((with_reducible refine gate_dst (N := 12) rfl ?_); refine box_event ?hg (N := 12) ?hd (cs := #[.slice none 0 0, .int .i64 0]) (t := 26) ?hr ?_; (case hd => rfl); (case hg => rfl); (case hr => first | (go_simp; done) | (go_simp; rfl)); intro gb394 hg w34 hbox hb; have n0_ := Aside0.mk (Kd.V_below (Kd.V_elderB (by (with_reducible repeat (first | apply Kd.V_alloc | apply Kd.V_drewN | apply Kd.V_drew)); exact HO_2.out) gb394 (Nat.le_of_eq hg.symm)) hb); have n1_ := Aside0.mk (Kd.N_below (Kd.N_elderB (by (with_reducible repeat (first | apply Kd.N_alloc | apply Kd.N_drewN | apply Kd.N_drew)); exact HO_10.out) gb394 (Nat.le_of_eq hg.symm)) hb); have n2_ := Aside0.mk (Kd.V_below (Kd.V_elderB (by (with_reducible repeat (first | apply Kd.V_alloc | apply Kd.V_drewN | apply Kd.V_drew)); exact HO_45.out) gb394 (Nat.le_of_eq hg.symm)) hb); have n3_ := Aside0.mk (Kd.V_below (Kd.V_elderB (by (with_reducible repeat (first | apply Kd.V_alloc | apply Kd.V_drewN | apply Kd.V_drew)); exact HL393_0.out) gb394 (Nat.le_of_eq hg.symm)) hb); have n4_ := Aside0.mk (Kd.C_below (by repeat (first | (with_reducible exact HR393_0.out) | (with_reducible refine Kd.C_alloc ?_ _) | (with_reducible refine Kd.C_drewN ?_ _) | (with_reducible refine Kd.C_drew ?_) | exact HR393_0.out)) hb); have n5_ := Aside0.mk (below_step (by repeat (first | (with_reducible first | exact HB.out | apply below_alloc | apply pw_below_drewN | apply below_drew1) | exact HB.out)) hb); have n6_ := Aside0.mk (hbox); have n7_ := Aside0.mk ((by rw [hg]; exact (below_size (by repeat (first | (with_reducible first | exact HB.out | apply below_alloc | apply pw_below_drewN | apply below_drew1) | exact HB.out))) : w.heap.size ≤ gb394)); have n8_ := Aside0.mk ((by rw [hg]; exact (below_size (by repeat (first | (with_reducible first | exact HB.out | apply below_alloc | apply pw_below_drewN | apply below_drew1) | exact HB.out))) : w.heap.size ≤ gb394)); clear HO_2; clear HO_10; clear HO_45; clear HL393_0; clear HR393_0; clear HB; have HO_2 := n0_; have HO_10 := n1_; have HO_45 := n2_; have HL393_0 := n3_; have HR393_0 := Aside0.mk (Kd.V_reads' (e := 2) (base := w.heap.size) HL393_0.out).2.2; have HR393_0 := n4_; have HB := n5_; have BK394 := n6_; have GW394 := n7_; have GE394 := n8_; clear n0_ n1_ n2_ n3_ n4_ n5_ n6_ n7_ n8_; clear hb hbox hg; have hcz35_0 : w34.cell? ⟨gb394, 0, none⟩ = some (.slice none 0 0) := (blk_cell BK394.out 0).trans rfl; have hcz35_1 : w34.cell? ⟨gb394, 1, none⟩ = some (.int .i64 0) := (blk_cell BK394.out 1).trans rfl; have hfz35_0 := blk_frozen BK394.out 0; have hfz35_1 := blk_frozen BK394.out 1) | ((with_reducible refine gate_store (t := 26) (p := 12) rfl ?_); refine store_event (t := 26) (p := 12) (v := ?vo_w36) (w1 := ((w34.setCell ⟨gb394, 0, none⟩ (.slice A393_0 ((rd_T26 l2 x47_2).f0).length c393_0)).setCell ⟨gb394, 1, none⟩ (.int .i64 ((rd_T26 l2 x47_2).f1)))) ?hg ?ho ?hn ?hr ?_; (case ho => rfl); (case hg => rfl); (case hn => rfl); (case hr => first | (go_simp; done) | (go_simp; rfl)); intro w36 hw; have n0_ : Aside0 (Kd.V k26 26 w36 w.heap.size (fun k_ => (P2_ k_ ∨ w.heap.size ≤ k_) ∧ some k_ ≠ (u10 : Value).ownBlock ∧ k_ ≠ gb394) (.slice (some ad393) l2.length c2) l2) := ⟨(by rw [hw]; exact (by (with_reducible repeat (first | apply Kd.V_alloc | apply Kd.V_drewN | apply Kd.V_drew)); exact Kd.V_mono (Kd.V_far (p := ⟨gb394, 1, none⟩) (Kd.V_far (p := ⟨gb394, 0, none⟩) (Kd.V_mono HO_2.out (fun k_ hk => (⟨hk, hk.2⟩ : _ ∧ k_ ≠ gb394))) (fun _ hk => hk.2) (.slice A393_0 ((rd_T26 l2 x47_2).f0).length c393_0)) (fun _ hk => hk.2) (.int .i64 ((rd_T26 l2 x47_2).f1))) (fun _ hk => ⟨hk.1.1.1, ⟨hk.1.1.2, hk.1.2⟩⟩)))⟩; have n1_ : Aside0 (Kd.N k26 26 w36 w.heap.size (fun k_ => (P2_ k_ ∨ w.heap.size ≤ k_) ∧ k_ ≠ gb394) u10 x10_2) := ⟨(by rw [hw]; exact (by (with_reducible repeat (first | apply Kd.N_alloc | apply Kd.N_drewN | apply Kd.N_drew)); exact Kd.N_mono (Kd.N_far (p := ⟨gb394, 1, none⟩) (Kd.N_far (p := ⟨gb394, 0, none⟩) (Kd.N_mono HO_10.out (fun k_ hk => (⟨hk, hk.2⟩ : _ ∧ k_ ≠ gb394))) (fun _ hk => hk.2) (.slice A393_0 ((rd_T26 l2 x47_2).f0).length c393_0)) (fun _ hk => hk.2) (.int .i64 ((rd_T26 l2 x47_2).f1))) (fun _ hk => ⟨hk.1.1, hk.1.2⟩)))⟩; have n2_ : Aside0 (Kd.V k26 26 w36 w.heap.size (fun k_ => (P2_ k_ ∨ w.heap.size ≤ k_) ∧ some k_ ≠ (u10 : Value).ownBlock ∧ k_ ≠ gb394) (.slice (some ad393) l2.length c2) l2) := ⟨(by rw [hw]; exact (by (with_reducible repeat (first | apply Kd.V_alloc | apply Kd.V_drewN | apply Kd.V_drew)); exact Kd.V_mono (Kd.V_far (p := ⟨gb394, 1, none⟩) (Kd.V_far (p := ⟨gb394, 0, none⟩) (Kd.V_mono HO_45.out (fun k_ hk => (⟨hk, hk.2⟩ : _ ∧ k_ ≠ gb394))) (fun _ hk => hk.2) (.slice A393_0 ((rd_T26 l2 x47_2).f0).length c393_0)) (fun _ hk => hk.2) (.int .i64 ((rd_T26 l2 x47_2).f1))) (fun _ hk => ⟨hk.1.1.1, ⟨hk.1.1.2, hk.1.2⟩⟩)))⟩; have n3_ : Aside0 (Kd.V (Kd.int .i64) 2 w36 w.heap.size (fun k_ => (P2_ k_ ∨ w.heap.size ≤ k_) ∧ some k_ ≠ (u10 : Value).ownBlock ∧ k_ ≠ gb394) (.slice A393_0 ((rd_T26 l2 x47_2).f0).length c393_0) ((rd_T26 l2 x47_2).f0)) := ⟨(by rw [hw]; exact (by (with_reducible repeat (first | apply Kd.V_alloc | apply Kd.V_drewN | apply Kd.V_drew)); exact Kd.V_mono (Kd.V_far (p := ⟨gb394, 1, none⟩) (Kd.V_far (p := ⟨gb394, 0, none⟩) (Kd.V_mono HL393_0.out (fun k_ hk => (⟨hk, hk.2⟩ : _ ∧ k_ ≠ gb394))) (fun _ hk => hk.2) (.slice A393_0 ((rd_T26 l2 x47_2).f0).length c393_0)) (fun _ hk => hk.2) (.int .i64 ((rd_T26 l2 x47_2).f1))) (fun _ hk => ⟨hk.1.1.1, ⟨hk.1.1.2, hk.1.2⟩⟩)))⟩; have n4_ : Aside0 (w36.heap[gb394]? = some (.cells #[.slice A393_0 ((rd_T26 l2 x47_2).f0).length c393_0, .int .i64 ((rd_T26 l2 x47_2).f1)] 26 (0, 0))) := ⟨(by rw [hw]; exact (by (with_reducible repeat (first | refine blk_drewN ?_ _ | refine blk_drew ?_ | refine blk_alloc ?_ _)); refine blk_put (cs := #[.slice A393_0 ((rd_T26 l2 x47_2).f0).length c393_0, .int .i64 0]) ?_ 1 _ rfl; (with_reducible repeat (first | refine blk_drewN ?_ _ | refine blk_drew ?_ | refine blk_alloc ?_ _)); refine blk_put (cs := #[.slice none 0 0, .int .i64 0]) ?_ 0 _ rfl; (with_reducible repeat (first | refine blk_drewN ?_ _ | refine blk_drew ?_ | refine blk_alloc ?_ _)); exact BK394.out))⟩; have n5_ : Aside0 (Below w.heap.size w w36) := ⟨(by rw [hw]; exact (by repeat (first | (with_reducible first | exact HB.out | apply below_alloc | apply pw_below_drewN | apply below_drew1 | refine below_set ?_ GE394.out) | exact HB.out)))⟩; clear hw; clear HO_2; clear HO_10; clear HO_45; clear HL393_0; clear BK394; clear HB; have HO_2 := n0_; have HO_10 := n1_; have HO_45 := n2_; have HL393_0 := n3_; have HR393_0 := Aside0.mk (Kd.V_reads' (e := 2) (base := w.heap.size) HL393_0.out).2.2; have BK394 := n4_; have HB := n5_; clear n0_ n1_ n2_ n3_ n4_ n5_; have p395 : 0 ≤ ((ji18) : Int) := of_decide_eq_true (by first | (with_reducible assumption) | assumption); have q395 : (ji18) < (l2.length : Int) := of_decide_eq_true (by first | (with_reducible assumption) | assumption); obtain ⟨ad395, A395_0, c395_0, e395, hx395_0, hx395_1, hl395_0, hi395_0⟩ := at_T26 (Kd.V_reads' HO_2.out).2.2 (ji18) p395 q395; obtain rfl : ad393 = ad395 := (by injection e395); obtain ⟨ce395, hce395, hMe395, hcc395⟩ := Kd.V_get HO_2.out z26 (ji18) p395 (by first | exact q395 | exact of_decide_eq_true (by first | (with_reducible assumption) | assumption) | (have e_ := (Kd.V_reads' HO_2.out).1; omega)); obtain ⟨ua395_0, uc395_0, rfl, ul395_0, ge395_0⟩ := k26_openF hMe395; have hv395_0 := hcc395 0 _ rfl; rw [Nat.add_zero] at hv395_0; replace hv395_0 := Option.some.inj (hv395_0.symm.trans hx395_0); injection hv395_0 with hva_ hvn_ hvc_; rw [hva_] at ge395_0; rw [hvc_] at ul395_0; have HL395_0 := Aside0.mk (show Kd.V (Kd.int .i64) 2 _ w.heap.size _ _ ((rd_T26 l2 (ji18)).f0) from Kd.V_mk ul395_0 ge395_0); clear hva_ hvn_ hvc_ ge395_0 ul395_0; clear hcc395 hce395; have HR395_0 := Aside0.mk hi395_0; have HC395_0 := Aside0.mk hl395_0; clear hi395_0 hl395_0; replace p395 := eq_true p395; replace q395 := eq_true q395) | ((with_reducible refine gate_builtin (b := .append) (xs := #[.tmp 52, .tmp 61]) rfl ?_); at_builtin; refine Kd.N_append k26 (w0 := w) w.heap.size rfl (.tmp 52) (.tmp 61) 66 26 (.agg #[(.slice none 0 0), (.int .i64 0)]) 32 rfl Try.underlying66 info26 rfl (by decide) (by omega) u10 x10_2 (⟨(rd_T26 l2 (ji18)).f0, (rd_T26 l2 (ji18)).f1⟩ : S26) [.slice A395_0 ((rd_T26 l2 (ji18)).f0).length c395_0, .int .i64 ((rd_T26 l2 (ji18)).f1)] (fun k_ => (P2_ k_ ∨ w.heap.size ≤ k_) ∧ k_ ≠ gb394) (fun k_ => ((fun k_ => (P2_ k_ ∨ w.heap.size ≤ k_) ∧ k_ ≠ gb394)) k_ ∧ some k_ ≠ (u10 : Value).ownBlock) rfl rfl ?aP (fun _ hk => hk) ?aF ?aO ?aB ?aS ?aL ?_; (case aP => exact (k26_mkF _ _ (⟨(rd_T26 l2 (ji18)).f0, (rd_T26 l2 (ji18)).f1⟩ : S26) (Kd.V_reads' (Kd.V_mono (ok' := (fun k_ => ((fun k_ => (P2_ k_ ∨ w.heap.size ≤ k_) ∧ k_ ≠ gb394)) k_ ∧ some k_ ≠ (u10 : Value).ownBlock)) (HL395_0.out) (fun k_ hk => ⟨⟨hk.1, hk.2.2⟩, hk.2.1⟩))).2.1 (Kd.V_F (Kd.V_mono (ok' := (fun k_ => ((fun k_ => (P2_ k_ ∨ w.heap.size ≤ k_) ∧ k_ ≠ gb394)) k_ ∧ some k_ ≠ (u10 : Value).ownBlock)) (HL395_0.out) (fun k_ hk => ⟨⟨hk.1, hk.2.2⟩, hk.2.1⟩))))); (case aB => exact (by repeat (first | (with_reducible first | exact HB.out | apply below_alloc | apply pw_below_drewN | apply below_drew1 | refine below_set ?_ GE394.out) | exact HB.out))); (case aF => exact (fun k_ hk => ⟨(.inr (Nat.le_trans (below_size (by repeat (first | (with_reducible first | exact HB.out | apply below_alloc | apply pw_below_drewN | apply below_drew1 | refine below_set ?_ GE394.out) | exact HB.out))) hk)), Kd.freshB (g := gb394) (o := .cells #[.slice A393_0 ((rd_T26 l2 x47_2).f0).length c393_0, .int .i64 ((rd_T26 l2 x47_2).f1)] 26 (0, 0)) (by (with_reducible repeat (first | refine blk_drewN ?_ _ | refine blk_drew ?_ | refine blk_alloc ?_ _)); exact BK394.out) k_ hk⟩)); (case aO => exact (by (with_reducible repeat (first | apply Kd.N_alloc | apply Kd.N_drewN | apply Kd.N_drew)); exact HO_10.out)); (case aS => exact (below_size (by repeat (first | (with_reducible first | exact HB.out | apply below_alloc | apply pw_below_drewN | apply below_drew1 | refine below_set ?_ GE394.out) | exact HB.out)))); (case aL => have := LMc21.out; omega); intro v397 w37 ho hb hg hat; rw [← Ny396.out] at ho; have n0_ := Aside0.mk (Kd.V_afterv (ok := (fun k_ => (P2_ k_ ∨ w.heap.size ≤ k_) ∧ k_ ≠ gb394)) (by (with_reducible repeat (first | apply Kd.V_alloc | apply Kd.V_drewN | apply Kd.V_drew)); exact Kd.V_mono HO_2.out (fun _ hk => ⟨⟨hk.1, hk.2.2⟩, hk.2.1⟩)) hg hat); have n1_ := Aside0.mk (Kd.V_afterv (ok := (fun k_ => (P2_ k_ ∨ w.heap.size ≤ k_) ∧ k_ ≠ gb394)) (by (with_reducible repeat (first | apply Kd.V_alloc | apply Kd.V_drewN | apply Kd.V_drew)); exact Kd.V_mono HO_45.out (fun _ hk => ⟨⟨hk.1, hk.2.2⟩, hk.2.1⟩)) hg hat); have n2_ := Aside0.mk (Kd.V_afterv (ok := (fun k_ => (P2_ k_ ∨ w.heap.size ≤ k_) ∧ k_ ≠ gb394)) (by (with_reducible repeat (first | apply Kd.V_alloc | apply Kd.V_drewN | apply Kd.V_drew)); exact Kd.V_mono HL393_0.out (fun _ hk => ⟨⟨hk.1, hk.2.2⟩, hk.2.1⟩)) hg hat); have n3_ := Aside0.mk (blk_grown (g := gb394) (o := .cells #[.slice A393_0 ((rd_T26 l2 x47_2).f0).length c393_0, .int .i64 ((rd_T26 l2 x47_2).f1)] 26 (0, 0)) (by (with_reducible repeat (first | refine blk_drewN ?_ _ | refine blk_drew ?_ | refine blk_alloc ?_ _)); exact BK394.out) hg (Kd.N_away HO_10.out (fun _ hk => hk.2))); have n4_ := Aside0.mk (Kd.V_afterv (ok := (fun k_ => (P2_ k_ ∨ w.heap.size ≤ k_) ∧ k_ ≠ gb394)) (by (with_reducible repeat (first | apply Kd.V_alloc | apply Kd.V_drewN | apply Kd.V_drew)); exact Kd.V_mono HL395_0.out (fun _ hk => ⟨⟨hk.1, hk.2.2⟩, hk.2.1⟩)) hg hat); have n5_ := Aside0.mk (hb); have n6_ := Aside0.mk (ho); clear HO_2; clear HO_45; clear HL393_0; clear BK394; clear HL395_0; clear HB; clear HO_10; have HO_2 := n0_; have HO_45 := n1_; have HL393_0 := n2_; have HR393_0 := Aside0.mk (Kd.V_reads' (e := 2) (base := w.heap.size) HL393_0.out).2.2; have BK394 := n3_; have HL395_0 := n4_; have HR395_0 := Aside0.mk (Kd.V_reads' (e := 2) (base := w.heap.size) HL395_0.out).2.2; have HB := n5_; have HO398 := n6_; clear n0_ n1_ n2_ n3_ n4_ n5_ n6_; clear ho hb hg hat; have hcz38_0 : w37.cell? ⟨gb394, 0, none⟩ = some (.slice A393_0 ((rd_T26 l2 x47_2).f0).length c393_0) := (blk_cell BK394.out 0).trans rfl; have hcz38_1 : w37.cell? ⟨gb394, 1, none⟩ = some (.int .i64 ((rd_T26 l2 x47_2).f1)) := (blk_cell BK394.out 1).trans rfl; have hfz38_0 := blk_frozen BK394.out 0; have hfz38_1 := blk_frozen BK394.out 1))
                                go_loopg [75] k2 (fun kq v75 w' => ∃ (x75_3 : Int), v75 = .int .i64 x75_3 ∧ Aside0 (thrumlaw14_LinearTurns.l2 kq l0 a1 l2 true y396 l2 (l2.length : Int) x47_2 ((rd_T26 l2 x47_2).f0) (((rd_T26 l2 x47_2).f0).length : Int) x75_3 = some r) ∧ Aside0 (kq ≤ k2) ∧ Aside0 (Kd.V k26 26 w' w.heap.size (fun k_ => (P2_ k_ ∨ w.heap.size ≤ k_) ∧ some k_ ≠ (v397 : Value).ownBlock ∧ k_ ≠ gb394) (.slice (some ad393) l2.length c2) l2) ∧ Aside0 (Kd.N k26 26 w' w.heap.size (fun k_ => (P2_ k_ ∨ w.heap.size ≤ k_) ∧ k_ ≠ gb394) v397 y396) ∧ Aside0 (Kd.V k26 26 w' w.heap.size (fun k_ => (P2_ k_ ∨ w.heap.size ≤ k_) ∧ some k_ ≠ (v397 : Value).ownBlock ∧ k_ ≠ gb394) (.slice (some ad393) l2.length c2) l2) ∧ Aside0 (w'.heap[gb394]? = some (.cells #[(.slice A393_0 ((rd_T26 l2 x47_2).f0).length c393_0), .int .i64 ((rd_T26 l2 x47_2).f1)] 26 (0, 0))) ∧ Aside0 (Kd.C (Kd.int .i64) w' A393_0 ((rd_T26 l2 x47_2).f0).length ((rd_T26 l2 x47_2).f0)) ∧ Aside0 (Below w.heap.size w w'))
                                case atStart => exact ⟨(0), (by first | rfl | (simp; done) | (simp [*]; done)), H', ⟨Nat.le_refl _⟩, ⟨by (with_reducible repeat (first | apply Kd.V_alloc | apply Kd.V_drewN | apply Kd.V_drew)); exact Kd.V_mono HO_2.out (fun _ hk => ⟨hk.1.1, ⟨hk.2, hk.1.2⟩⟩)⟩, ⟨by (with_reducible repeat (first | apply Kd.N_alloc | apply Kd.N_drewN | apply Kd.N_drew)); exact HO398.out⟩, ⟨by (with_reducible repeat (first | apply Kd.V_alloc | apply Kd.V_drewN | apply Kd.V_drew)); exact Kd.V_mono HO_45.out (fun _ hk => ⟨hk.1.1, ⟨hk.2, hk.1.2⟩⟩)⟩, ⟨by (with_reducible repeat (first | refine blk_drewN ?_ _ | refine blk_drew ?_ | refine blk_alloc ?_ _)); exact BK394.out⟩, ⟨by (with_reducible repeat (first | refine Kd.C_alloc ?_ _ | refine Kd.C_drewN ?_ _ | refine Kd.C_drew ?_)); exact (Kd.V_reads' HL393_0.out).2.2⟩, ⟨by repeat (first | (with_reducible first | exact HB.out | apply below_alloc | apply pw_below_drewN | apply below_drew1 | refine below_set ?_ GE394.out) | exact HB.out)⟩⟩
                                case round =>
                                  clear H'
                                  try clear c1
                                  try clear c2
                                  try clear p2
                                  try clear c3
                                  try clear p3
                                  try clear q3
                                  try clear hx3
                                  try clear c5
                                  try clear c6
                                  try clear p6
                                  try clear c7
                                  try clear c10
                                  try clear c10b0
                                  try clear c11
                                  try clear c11b0
                                  try clear c12
                                  try clear c12b0
                                  try clear c13
                                  try clear c13b0
                                  try clear c14
                                  try clear c14b0
                                  try clear c15
                                  try clear c15b0
                                  try clear c16
                                  try clear c16b0
                                  try clear c17
                                  try clear c17b0
                                  try clear c19
                                  try clear c19b0
                                  try clear c20
                                  try clear c20b0
                                  try clear c21
                                  try clear c22
                                  try clear c22b0
                                  try clear c28
                                  try clear c28b0
                                  try clear c30
                                  try clear hcz24_0
                                  try clear hcz24_1
                                  try clear hcz27_0
                                  try clear hcz27_1
                                  try clear hcz30_0
                                  try clear hcz30_1
                                  try clear hcz33_0
                                  try clear hcz33_1
                                  try clear hcz35_0
                                  try clear hcz35_1
                                  try clear hcz38_0
                                  try clear hcz38_1
                                  try clear hfz24_0
                                  try clear hfz24_1
                                  try clear hfz27_0
                                  try clear hfz27_1
                                  try clear hfz30_0
                                  try clear hfz30_1
                                  try clear hfz33_0
                                  try clear hfz33_1
                                  try clear hfz35_0
                                  try clear hfz35_1
                                  try clear hfz38_0
                                  try clear hfz38_1
                                  try clear hx392_0
                                  try clear hx393_0
                                  try clear hx393_1
                                  try clear hx395_0
                                  try clear hx395_1
                                  try clear p2
                                  try clear p3
                                  try clear p392
                                  try clear p393
                                  try clear p395
                                  try clear p6
                                  try clear q3
                                  try clear q392
                                  try clear q393
                                  try clear q395
                                  obtain ⟨x75_3, rfl, HA, HK3, HO_2, HO_10, HO_45, BK394, HR393_0, HB⟩ := hrel
                                  cases gk with
                                  | zero => exact absurd HA.out (by simp [thrumlaw14_LinearTurns.l2])
                                  | succ k3 =>
                                    have H := HA.out
                                    clear HA
                                    simp only [thrumlaw14_LinearTurns.l2] at H
                                    by_cases c39 : x75_3 < (((rd_T26 l2 x47_2).f0).length : Int)
                                    · rw [if_pos c39] at H
                                      have c39b0 : decide (x75_3 < (((rd_T26 l2 x47_2).f0).length : Int)) = true := decide_eq_true c39
                                      clear c39
                                      by_cases c40 : 0 ≤ x75_3
                                      · rw [if_pos c40] at H
                                        have c40b0 : decide (0 ≤ x75_3) = true := decide_eq_true c40
                                        clear c40
                                        by_cases c41 : x75_3 < (((rd_T26 l2 x47_2).f0).length : Int)
                                        · rw [if_pos c41] at H
                                          have c41b0 : decide (x75_3 < (((rd_T26 l2 x47_2).f0).length : Int)) = true := decide_eq_true c41
                                          clear c41
                                          by_cases c42 : (rd ((rd_T26 l2 x47_2).f0) x75_3) > 4096
                                          · rw [if_pos c42] at H
                                            have c42b0 : decide (4096 < (rd ((rd_T26 l2 x47_2).f0) x75_3)) = true := decide_eq_true c42
                                            clear c42
                                            obtain rfl := Option.some.inj H
                                            have p399 : 0 ≤ (x75_3 : Int) := of_decide_eq_true (by first | (with_reducible assumption) | assumption)
                                            have q399 : x75_3 < (((rd_T26 l2 x47_2).f0).length : Int) := of_decide_eq_true (by first | (with_reducible assumption) | assumption)
                                            obtain ⟨ad399, e399, hx399_0⟩ := Kd.at_int HR393_0.out x75_3 p399 q399
                                            cases e399
                                            (try (replace hx399_0 := (HB.out.cell (World.block_lt_of_cell? w _ hx399_0)).trans hx399_0))
                                            replace p399 := eq_true p399
                                            replace q399 := eq_true q399
                                            go_wp2
                                            go_ret
                                            exact ⟨by first | rfl | (simp [errW_none, errW_some] <;> rfl) | (simp only [← hji18]; first | rfl | (simp [errW_none, errW_some] <;> rfl)) | (simp [*, errW_none, errW_some] <;> rfl), by repeat (first | (with_reducible first | exact HB.out | apply below_alloc | apply pw_below_drewN | apply below_drew1 | refine below_set ?_ GE394.out) | exact HB.out)⟩
                                          · rw [if_neg c42] at H
                                            have c42b0 : decide (4096 < (rd ((rd_T26 l2 x47_2).f0) x75_3)) = false := decide_eq_false c42
                                            clear c42
                                            by_cases c43 : (rd ((rd_T26 l2 x47_2).f0) x75_3) < (-4096)
                                            · rw [if_pos c43] at H
                                              have c43b0 : decide ((rd ((rd_T26 l2 x47_2).f0) x75_3) < (-4096)) = true := decide_eq_true c43
                                              clear c43
                                              obtain rfl := Option.some.inj H
                                              have p399 : 0 ≤ (x75_3 : Int) := of_decide_eq_true (by first | (with_reducible assumption) | assumption)
                                              have q399 : x75_3 < (((rd_T26 l2 x47_2).f0).length : Int) := of_decide_eq_true (by first | (with_reducible assumption) | assumption)
                                              obtain ⟨ad399, e399, hx399_0⟩ := Kd.at_int HR393_0.out x75_3 p399 q399
                                              cases e399
                                              (try (replace hx399_0 := (HB.out.cell (World.block_lt_of_cell? w _ hx399_0)).trans hx399_0))
                                              replace p399 := eq_true p399
                                              replace q399 := eq_true q399
                                              go_wp2
                                              go_ret
                                              exact ⟨by first | rfl | (simp [errW_none, errW_some] <;> rfl) | (simp only [← hji18]; first | rfl | (simp [errW_none, errW_some] <;> rfl)) | (simp [*, errW_none, errW_some] <;> rfl), by repeat (first | (with_reducible first | exact HB.out | apply below_alloc | apply pw_below_drewN | apply below_drew1 | refine below_set ?_ GE394.out) | exact HB.out)⟩
                                            · rw [if_neg c43] at H
                                              have c43b0 : decide ((rd ((rd_T26 l2 x47_2).f0) x75_3) < (-4096)) = false := decide_eq_false c43
                                              clear c43
                                              have H' := Aside0.mk H
                                              clear H
                                              have p399 : 0 ≤ (x75_3 : Int) := of_decide_eq_true (by first | (with_reducible assumption) | assumption)
                                              have q399 : x75_3 < (((rd_T26 l2 x47_2).f0).length : Int) := of_decide_eq_true (by first | (with_reducible assumption) | assumption)
                                              obtain ⟨ad399, e399, hx399_0⟩ := Kd.at_int HR393_0.out x75_3 p399 q399
                                              cases e399
                                              (try (replace hx399_0 := (HB.out.cell (World.block_lt_of_cell? w _ hx399_0)).trans hx399_0))
                                              replace p399 := eq_true p399
                                              replace q399 := eq_true q399
                                              go_wp2
                                              go_roundg k3
                                              case measure => have := HK1.out; have := HK2.out; have := HK3.out; omega
                                              case rel => exact ⟨(wrap64 (x75_3 + 1)), (by first | rfl | (simp; done) | (simp [*]; done)), H', ⟨by have := HK1.out; have := HK2.out; have := HK3.out; omega⟩, ⟨by (with_reducible repeat (first | apply Kd.V_alloc | apply Kd.V_drewN | apply Kd.V_drew)); exact HO_2.out⟩, ⟨by (with_reducible repeat (first | apply Kd.N_alloc | apply Kd.N_drewN | apply Kd.N_drew)); exact HO_10.out⟩, ⟨by (with_reducible repeat (first | apply Kd.V_alloc | apply Kd.V_drewN | apply Kd.V_drew)); exact HO_45.out⟩, ⟨by (with_reducible repeat (first | refine blk_drewN ?_ _ | refine blk_drew ?_ | refine blk_alloc ?_ _)); exact BK394.out⟩, ⟨by (with_reducible repeat (first | refine Kd.C_alloc ?_ _ | refine Kd.C_drewN ?_ _ | refine Kd.C_drew ?_)); exact HR393_0.out⟩, ⟨by repeat (first | (with_reducible first | exact HB.out | apply below_alloc | apply pw_below_drewN | apply below_drew1 | refine below_set ?_ GE394.out) | exact HB.out)⟩⟩
                                        · rw [if_neg c41] at H
                                          exact absurd H (by simp)
                                      · rw [if_neg c40] at H
                                        exact absurd H (by simp)
                                    · rw [if_neg c39] at H
                                      have c39b0 : decide (x75_3 < (((rd_T26 l2 x47_2).f0).length : Int)) = false := decide_eq_false c39
                                      clear c39
                                      have H' := Aside0.mk H
                                      clear H
                                      go_wp2
                                      go_roundg k3
                                      case measure => have := HK1.out; have := HK2.out; have := HK3.out; omega
                                      case rel => exact ⟨(y396), (wrap64 (x47_2 + 1)), (by first | rfl | (simp; done) | (simp [*]; done)), H', ⟨by have := HK1.out; have := HK2.out; have := HK3.out; omega⟩, ⟨by (with_reducible repeat (first | apply Kd.V_alloc | apply Kd.V_drewN | apply Kd.V_drew)); exact Kd.V_mono HO_2.out (fun _ hk => ⟨hk.1, hk.2.1⟩)⟩, ⟨by (with_reducible repeat (first | apply Kd.N_alloc | apply Kd.N_drewN | apply Kd.N_drew)); exact Kd.N_mono HO_10.out (fun _ hk => hk.1)⟩, ⟨by (with_reducible repeat (first | apply Kd.V_alloc | apply Kd.V_drewN | apply Kd.V_drew)); exact Kd.V_mono HO_45.out (fun _ hk => ⟨hk.1, hk.2.1⟩)⟩, ⟨by repeat (first | (with_reducible first | exact HB.out | apply below_alloc | apply pw_below_drewN | apply below_drew1 | refine below_set ?_ GE394.out) | exact HB.out)⟩⟩
                          · rw [if_neg c21] at H
                            exact absurd H (by simp)
                        · rw [if_neg c20] at H
                          exact absurd H (by simp)
                      · rw [if_neg c19] at H
                        exact absurd H (by simp)
                    · rw [if_neg c17] at H
                      exact absurd H (by simp)
                  · rw [if_neg c16] at H
                    exact absurd H (by simp)
                · rw [if_neg c15] at H
                  have c15b0 : decide (x47_2 < (l2.length : Int)) = false := decide_eq_false c15
                  clear c15
                  replace H := Option.bind_eq_some_iff.mp H
                  obtain ⟨⟨t400, t401⟩, A440, H⟩ := H
                  replace H : ((linear_Grad.f l0 (Int.tmod (wrap64 ((Int.tmod a1 17) + 17)) 17) x10_2).bind fun bt404 => ((linear_Loss.f l0 (Int.tmod (wrap64 ((Int.tmod a1 17) + 17)) 17) l2).bind fun bt408 => ((linear_Loss.f l0 (Int.tmod (wrap64 ((Int.tmod a1 17) + 17)) 17) x10_2).bind fun bt410 => (if true = true then ((thrumref02_Same.f t400 bt404.1).bind fun t412 => (if t412 = true then (if t401 = bt404.2 then (if bt408.1 = bt410.1 then (if bt408.2 = bt410.2 then (some (decide (bt408.1 ≥ 0))) else (some false)) else (some false)) else (some false)) else (some false))) else (some false))))) = some r := H
                  have A44 := Aside0.mk A440
                  clear A440
                  replace H := Option.bind_eq_some_iff.mp H
                  obtain ⟨⟨t404, t405⟩, A450, H⟩ := H
                  replace H : ((linear_Loss.f l0 (Int.tmod (wrap64 ((Int.tmod a1 17) + 17)) 17) l2).bind fun bt408 => ((linear_Loss.f l0 (Int.tmod (wrap64 ((Int.tmod a1 17) + 17)) 17) x10_2).bind fun bt410 => (if true = true then ((thrumref02_Same.f t400 t404).bind fun t412 => (if t412 = true then (if t401 = t405 then (if bt408.1 = bt410.1 then (if bt408.2 = bt410.2 then (some (decide (bt408.1 ≥ 0))) else (some false)) else (some false)) else (some false)) else (some false))) else (some false)))) = some r := H
                  have A45 := Aside0.mk A450
                  clear A450
                  replace H := Option.bind_eq_some_iff.mp H
                  obtain ⟨⟨t408, t409⟩, A460, H⟩ := H
                  replace H : ((linear_Loss.f l0 (Int.tmod (wrap64 ((Int.tmod a1 17) + 17)) 17) x10_2).bind fun bt410 => (if true = true then ((thrumref02_Same.f t400 t404).bind fun t412 => (if t412 = true then (if t401 = t405 then (if t408 = bt410.1 then (if t409 = bt410.2 then (some (decide (t408 ≥ 0))) else (some false)) else (some false)) else (some false)) else (some false))) else (some false))) = some r := H
                  have A46 := Aside0.mk A460
                  clear A460
                  replace H := Option.bind_eq_some_iff.mp H
                  obtain ⟨⟨t410, t411⟩, A470, H⟩ := H
                  replace H : (if true = true then ((thrumref02_Same.f t400 t404).bind fun t412 => (if t412 = true then (if t401 = t405 then (if t408 = t410 then (if t409 = t411 then (some (decide (t408 ≥ 0))) else (some false)) else (some false)) else (some false)) else (some false))) else (some false)) = some r := H
                  have A47 := Aside0.mk A470
                  clear A470
                  first | rw [if_pos rfl] at H | rw [if_pos trivial] at H
                  replace H := Option.bind_eq_some_iff.mp H
                  obtain ⟨t412, A480, H⟩ := H
                  replace H : (if t412 = true then (if t401 = t405 then (if t408 = t410 then (if t409 = t411 then (some (decide (t408 ≥ 0))) else (some false)) else (some false)) else (some false)) else (some false)) = some r := H
                  have A48 := Aside0.mk A480
                  clear A480
                  by_cases c49 : t412 = true
                  · subst c49
                    have H1 : (if t401 = t405 then (if t408 = t410 then (if t409 = t411 then (some (decide (t408 ≥ 0))) else (some false)) else (some false)) else (some false)) = some r := by rw [if_pos rfl] at H; exact H
                    clear H
                    have H := H1
                    clear H1
                    by_cases c50 : t401 = t405
                    · rw [if_pos c50] at H
                      have c50b0 : (t401 == t405) = true := beq_iff_eq.mpr c50
                      have c50b1 : (t401 != t405) = false := bne_eq_false_iff_eq.mpr c50
                      clear c50
                      by_cases c51 : t408 = t410
                      · rw [if_pos c51] at H
                        have c51b0 : (t408 == t410) = true := beq_iff_eq.mpr c51
                        have c51b1 : (t408 != t410) = false := bne_eq_false_iff_eq.mpr c51
                        clear c51
                        by_cases c52 : t409 = t411
                        · rw [if_pos c52] at H
                          have c52b0 : (t409 == t411) = true := beq_iff_eq.mpr c52
                          have c52b1 : (t409 != t411) = false := bne_eq_false_iff_eq.mpr c52
                          clear c52
                          obtain rfl := Option.some.inj H
                          go_wp2_with (first | ((with_reducible refine gate_callee (f := 71) rfl ?_); refine goesL_ (some 96) rfl rfl Try.func71 (by kernel_rfl) rfl #[.slice A0 l0.length c0, .int .i64 (Int.tmod (wrap64 ((Int.tmod a1 17) + 17)) 17), .slice A2 l2.length c2] rfl (by (try simp only [List.map_toArray, List.map_cons, List.map_nil]); first | done | rfl | (simp only [List.length_drop, List.length_take]; rfl)) ?_; (with_reducible refine (linear_Grad.calls _ _ l0 (Int.tmod (wrap64 ((Int.tmod a1 17) + 17)) 17) _ _ l2 t400 t401 _ ?side1 ?side2 ?side3 ?side4 A44.out).mono ?_); (case side1 => repeat (first | exact (Kd.C_below HR0.out HB.out) | (with_reducible refine Kd.C_alloc ?_ _) | (with_reducible refine Kd.C_drewN ?_ _) | (with_reducible refine Kd.C_drew ?_))); (case side2 => exact HC0.out); (case side3 => repeat (first | exact (Kd.V_reads' HO_2.out).2.2 | (with_reducible refine Kd.C_alloc ?_ _) | (with_reducible refine Kd.C_drewN ?_ _) | (with_reducible refine Kd.C_drew ?_))); (case side4 => exact (Kd.V_reads' HO_2.out).2.1); rintro e w53 ⟨v402, rfl, ho0, hb⟩; refine ⟨_, rfl, ?_⟩; have n0_ := Aside0.mk (Kd.V_elder' (by (with_reducible repeat (first | apply Kd.V_alloc | apply Kd.V_drewN | apply Kd.V_drew)); exact HO_2.out) (Kd.R_base ho0) hb); have n1_ := Aside0.mk (Kd.N_elder' (by (with_reducible repeat (first | apply Kd.N_alloc | apply Kd.N_drewN | apply Kd.N_drew)); exact HO_10.out) (Kd.R_base ho0) hb); have n2_ := Aside0.mk (Kd.V_elder' (by (with_reducible repeat (first | apply Kd.V_alloc | apply Kd.V_drewN | apply Kd.V_drew)); exact HO_45.out) (Kd.R_base ho0) hb); have n3_ := Aside0.mk (Kd.R_lower (Kd.R_newM (M := fun k_ => (w.heap.size ≤ k_)) ho0 (below_size (by repeat (first | (with_reducible first | exact HB.out | apply below_alloc | apply pw_below_drewN | apply below_drew1) | exact HB.out))) (fun k_ h_ => h_)) (below_size (by repeat (first | (with_reducible first | exact HB.out | apply below_alloc | apply pw_below_drewN | apply below_drew1) | exact HB.out)))); have n4_ := Aside0.mk (below_step (by repeat (first | (with_reducible first | exact HB.out | apply below_alloc | apply pw_below_drewN | apply below_drew1) | exact HB.out)) hb); clear HO_2; clear HO_10; clear HO_45; clear HB; have HO_2 := n0_; have HO_10 := n1_; have HO_45 := n2_; have HO403 := n3_; have HB := n4_; clear n0_ n1_ n2_ n3_ n4_; (try clear hb); (try clear hb2); (try clear hk); (try clear hi); (try clear ho0); obtain ⟨Ao54, co54, eo54⟩ := Kd.N_slice HO_10.out; subst eo54) | ((with_reducible refine gate_callee (f := 71) rfl ?_); refine goesL_ (some 103) rfl rfl Try.func71 (by kernel_rfl) rfl #[.slice A0 l0.length c0, .int .i64 (Int.tmod (wrap64 ((Int.tmod a1 17) + 17)) 17), .slice Ao54 x10_2.length co54] rfl (by (try simp only [List.map_toArray, List.map_cons, List.map_nil]); first | done | rfl | (simp only [List.length_drop, List.length_take]; rfl)) ?_; (with_reducible refine (linear_Grad.calls _ _ l0 (Int.tmod (wrap64 ((Int.tmod a1 17) + 17)) 17) _ _ x10_2 t404 t405 _ ?side1 ?side2 ?side3 ?side4 A45.out).mono ?_); (case side1 => repeat (first | exact (Kd.C_below HR0.out HB.out) | (with_reducible refine Kd.C_alloc ?_ _) | (with_reducible refine Kd.C_drewN ?_ _) | (with_reducible refine Kd.C_drew ?_))); (case side2 => exact HC0.out); (case side3 => repeat (first | exact (Kd.N_reads' HO_10.out).2.2 | (with_reducible refine Kd.C_alloc ?_ _) | (with_reducible refine Kd.C_drewN ?_ _) | (with_reducible refine Kd.C_drew ?_))); (case side4 => exact (Kd.N_reads' HO_10.out).2.1); rintro e w55 ⟨v406, rfl, ho0, hb⟩; refine ⟨_, rfl, ?_⟩; have n0_ := Aside0.mk (Kd.V_elder' (by (with_reducible repeat (first | apply Kd.V_alloc | apply Kd.V_drewN | apply Kd.V_drew)); exact HO_2.out) (Kd.R_base ho0) hb); have n1_ := Aside0.mk (Kd.N_elder' (by (with_reducible repeat (first | apply Kd.N_alloc | apply Kd.N_drewN | apply Kd.N_drew)); exact HO_10.out) (Kd.R_base ho0) hb); have n2_ := Aside0.mk (Kd.V_elder' (by (with_reducible repeat (first | apply Kd.V_alloc | apply Kd.V_drewN | apply Kd.V_drew)); exact HO_45.out) (Kd.R_base ho0) hb); have n3_ := Aside0.mk (Kd.R_elder' (by (with_reducible repeat (first | apply Kd.R_alloc | apply Kd.R_drewN | apply Kd.R_drew)); exact HO403.out) (Kd.R_base ho0) hb); have n4_ := Aside0.mk (Kd.R_lower (Kd.R_new' (Kd.R_newM (M := fun k_ => (w.heap.size ≤ k_)) ho0 (below_size (by repeat (first | (with_reducible first | exact HB.out | apply below_alloc | apply pw_below_drewN | apply below_drew1) | exact HB.out))) (fun k_ h_ => h_)) (Kd.R_lt (by (with_reducible repeat (first | apply Kd.R_alloc | apply Kd.R_drewN | apply Kd.R_drew)); exact HO403.out))) (below_size (by repeat (first | (with_reducible first | exact HB.out | apply below_alloc | apply pw_below_drewN | apply below_drew1) | exact HB.out)))); have n5_ := Aside0.mk (below_step (by repeat (first | (with_reducible first | exact HB.out | apply below_alloc | apply pw_below_drewN | apply below_drew1) | exact HB.out)) hb); clear HO_2; clear HO_10; clear HO_45; clear HO403; clear HB; have HO_2 := n0_; have HO_10 := n1_; have HO_45 := n2_; have HO403 := n3_; have HO407 := n4_; have HB := n5_; clear n0_ n1_ n2_ n3_ n4_ n5_; (try clear hb); (try clear hb2); (try clear hk); (try clear hi); (try clear ho0)) | ((with_reducible refine gate_callee (f := 73) rfl ?_); refine goesL_ (some 110) rfl rfl Try.func73 (by kernel_rfl) rfl #[.slice A0 l0.length c0, .int .i64 (Int.tmod (wrap64 ((Int.tmod a1 17) + 17)) 17), .slice A2 l2.length c2] rfl (by (try simp only [List.map_toArray, List.map_cons, List.map_nil]); first | done | rfl | (simp only [List.length_drop, List.length_take]; rfl)) ?_; (with_reducible refine (linear_Loss.calls _ _ l0 (Int.tmod (wrap64 ((Int.tmod a1 17) + 17)) 17) _ _ l2 t408 t409 _ ?side1 ?side2 ?side3 ?side4 A46.out).mono ?_); (case side1 => repeat (first | exact (Kd.C_below HR0.out HB.out) | (with_reducible refine Kd.C_alloc ?_ _) | (with_reducible refine Kd.C_drewN ?_ _) | (with_reducible refine Kd.C_drew ?_))); (case side2 => exact HC0.out); (case side3 => repeat (first | exact (Kd.V_reads' HO_2.out).2.2 | (with_reducible refine Kd.C_alloc ?_ _) | (with_reducible refine Kd.C_drewN ?_ _) | (with_reducible refine Kd.C_drew ?_))); (case side4 => exact (Kd.V_reads' HO_2.out).2.1); rintro e w56 ⟨rfl, hb⟩; refine ⟨_, rfl, ?_⟩; have n0_ := Aside0.mk (Kd.V_below (by (with_reducible repeat (first | apply Kd.V_alloc | apply Kd.V_drewN | apply Kd.V_drew)); exact HO_2.out) hb); have n1_ := Aside0.mk (Kd.N_below (by (with_reducible repeat (first | apply Kd.N_alloc | apply Kd.N_drewN | apply Kd.N_drew)); exact HO_10.out) hb); have n2_ := Aside0.mk (Kd.V_below (by (with_reducible repeat (first | apply Kd.V_alloc | apply Kd.V_drewN | apply Kd.V_drew)); exact HO_45.out) hb); have n3_ := Aside0.mk (Kd.R_below (by (with_reducible repeat (first | apply Kd.R_alloc | apply Kd.R_drewN | apply Kd.R_drew)); exact HO403.out) hb); have n4_ := Aside0.mk (Kd.R_below (by (with_reducible repeat (first | apply Kd.R_alloc | apply Kd.R_drewN | apply Kd.R_drew)); exact HO407.out) hb); have n5_ := Aside0.mk (below_step (by repeat (first | (with_reducible first | exact HB.out | apply below_alloc | apply pw_below_drewN | apply below_drew1) | exact HB.out)) hb); clear HO_2; clear HO_10; clear HO_45; clear HO403; clear HO407; clear HB; have HO_2 := n0_; have HO_10 := n1_; have HO_45 := n2_; have HO403 := n3_; have HO407 := n4_; have HB := n5_; clear n0_ n1_ n2_ n3_ n4_ n5_; (try clear hb); (try clear hb2); (try clear hk); (try clear hi)) | ((with_reducible refine gate_callee (f := 73) rfl ?_); refine goesL_ (some 117) rfl rfl Try.func73 (by kernel_rfl) rfl #[.slice A0 l0.length c0, .int .i64 (Int.tmod (wrap64 ((Int.tmod a1 17) + 17)) 17), .slice Ao54 x10_2.length co54] rfl (by (try simp only [List.map_toArray, List.map_cons, List.map_nil]); first | done | rfl | (simp only [List.length_drop, List.length_take]; rfl)) ?_; (with_reducible refine (linear_Loss.calls _ _ l0 (Int.tmod (wrap64 ((Int.tmod a1 17) + 17)) 17) _ _ x10_2 t410 t411 _ ?side1 ?side2 ?side3 ?side4 A47.out).mono ?_); (case side1 => repeat (first | exact (Kd.C_below HR0.out HB.out) | (with_reducible refine Kd.C_alloc ?_ _) | (with_reducible refine Kd.C_drewN ?_ _) | (with_reducible refine Kd.C_drew ?_))); (case side2 => exact HC0.out); (case side3 => repeat (first | exact (Kd.N_reads' HO_10.out).2.2 | (with_reducible refine Kd.C_alloc ?_ _) | (with_reducible refine Kd.C_drewN ?_ _) | (with_reducible refine Kd.C_drew ?_))); (case side4 => exact (Kd.N_reads' HO_10.out).2.1); rintro e w57 ⟨rfl, hb⟩; refine ⟨_, rfl, ?_⟩; have n0_ := Aside0.mk (Kd.V_below (by (with_reducible repeat (first | apply Kd.V_alloc | apply Kd.V_drewN | apply Kd.V_drew)); exact HO_2.out) hb); have n1_ := Aside0.mk (Kd.N_below (by (with_reducible repeat (first | apply Kd.N_alloc | apply Kd.N_drewN | apply Kd.N_drew)); exact HO_10.out) hb); have n2_ := Aside0.mk (Kd.V_below (by (with_reducible repeat (first | apply Kd.V_alloc | apply Kd.V_drewN | apply Kd.V_drew)); exact HO_45.out) hb); have n3_ := Aside0.mk (Kd.R_below (by (with_reducible repeat (first | apply Kd.R_alloc | apply Kd.R_drewN | apply Kd.R_drew)); exact HO403.out) hb); have n4_ := Aside0.mk (Kd.R_below (by (with_reducible repeat (first | apply Kd.R_alloc | apply Kd.R_drewN | apply Kd.R_drew)); exact HO407.out) hb); have n5_ := Aside0.mk (below_step (by repeat (first | (with_reducible first | exact HB.out | apply below_alloc | apply pw_below_drewN | apply below_drew1) | exact HB.out)) hb); clear HO_2; clear HO_10; clear HO_45; clear HO403; clear HO407; clear HB; have HO_2 := n0_; have HO_10 := n1_; have HO_45 := n2_; have HO403 := n3_; have HO407 := n4_; have HB := n5_; clear n0_ n1_ n2_ n3_ n4_ n5_; (try clear hb); (try clear hb2); (try clear hk); (try clear hi); obtain ⟨Ao58, co58, eo58⟩ := Kd.R_slice HO403.out; subst eo58; obtain ⟨Ao59, co59, eo59⟩ := Kd.R_slice HO407.out; subst eo59) | (go_at_call 44; (with_reducible refine (thrumref02_Same.calls _ _ t400 _ _ t404 true _ ?side1 ?side2 ?side3 ?side4 A48.out).mono ?_); (case side1 => repeat (first | exact (Kd.R_reads' HO403.out).2.2 | (with_reducible refine Kd.C_alloc ?_ _) | (with_reducible refine Kd.C_drewN ?_ _) | (with_reducible refine Kd.C_drew ?_))); (case side2 => exact (Kd.R_reads' HO403.out).2.1); (case side3 => repeat (first | exact (Kd.R_reads' HO407.out).2.2 | (with_reducible refine Kd.C_alloc ?_ _) | (with_reducible refine Kd.C_drewN ?_ _) | (with_reducible refine Kd.C_drew ?_))); (case side4 => exact (Kd.R_reads' HO407.out).2.1); rintro e w' ⟨rfl, ⟨nd, rfl⟩⟩))
                          go_ret
                          exact ⟨by first | rfl | (simp [errW_none, errW_some] <;> rfl) | (simp [*, errW_none, errW_some] <;> rfl), by repeat (first | (with_reducible first | exact HB.out | apply below_alloc | apply pw_below_drewN | apply below_drew1) | exact HB.out)⟩
                        · rw [if_neg c52] at H
                          exact absurd (Option.some.inj H) (by rw [HR_.out]; decide)
                      · rw [if_neg c51] at H
                        exact absurd (Option.some.inj H) (by rw [HR_.out]; decide)
                    · rw [if_neg c50] at H
                      exact absurd (Option.some.inj H) (by rw [HR_.out]; decide)
                  · replace c49 := Bool.eq_false_iff.mpr c49
                    subst c49
                    have H1 : (some false) = some r := by rw [if_neg (show ¬ (false = true) by decide)] at H; exact H
                    exact absurd (Option.some.inj H1) (by rw [HR_.out]; decide)
    · replace c7 := Bool.eq_false_iff.mpr c7
      subst c7
      have H1 : (some true) = some r := by rw [if_neg (show ¬ (false = true) by decide)] at H; exact H
      clear H
      have H := H1
      clear H1
      obtain rfl := Option.some.inj H
      go_enter Try.func16, Try.ntmps16
      go_wp2_with (first | ((with_reducible refine gate_callee (f := 61) rfl ?_); refine goesL_ (some 23) rfl rfl Try.func61 (by kernel_rfl) rfl #[] rfl (by (try simp only [List.map_toArray, List.map_cons, List.map_nil]); first | done | rfl | (simp only [List.length_drop, List.length_take]; rfl)) ?_; (with_reducible refine (thrumlaw14_live.calls  true _ A4.out).mono ?_); rintro e w88 ⟨rfl, hb⟩; refine ⟨_, rfl, ?_⟩; have n0_ := Aside0.mk (Kd.V_below (by (with_reducible repeat (first | apply Kd.V_alloc | apply Kd.V_drewN | apply Kd.V_drew)); exact HO2.out) hb); have n1_ := Aside0.mk (below_step (by repeat (first | (with_reducible first | exact HB.out | apply below_alloc | apply pw_below_drewN | apply below_drew1) | exact HB.out)) hb); clear HO2; clear HB; have HO2 := n0_; have HB := n1_; clear n0_ n1_; (try clear hb); (try clear hb2); (try clear hk); (try clear hi)) | ((with_reducible refine gate_callee (f := 30) rfl ?_); refine goesL_ (some 28) rfl rfl Try.func30 (by kernel_rfl) rfl #[.slice A0 l0.length c0, .slice A2 l2.length c2] rfl (by (try simp only [List.map_toArray, List.map_cons, List.map_nil]); first | done | rfl | (simp only [List.length_drop, List.length_take]; rfl)) ?_; (with_reducible refine (thrumref14_Few.calls _ _ l0 _ _ l2 false _ ?side1 ?side2 ?side3 ?side4 A6.out).mono ?_); (case side1 => repeat (first | exact (Kd.C_below HR0.out HB.out) | (with_reducible refine Kd.C_alloc ?_ _) | (with_reducible refine Kd.C_drewN ?_ _) | (with_reducible refine Kd.C_drew ?_))); (case side2 => exact HC0.out); (case side3 => repeat (first | exact (Kd.V_reads' HO2.out).2.2 | (with_reducible refine Kd.C_alloc ?_ _) | (with_reducible refine Kd.C_drewN ?_ _) | (with_reducible refine Kd.C_drew ?_))); (case side4 => exact (Kd.V_reads' HO2.out).2.1); rintro e w89 ⟨rfl, hb⟩; refine ⟨_, rfl, ?_⟩; have n0_ := Aside0.mk (Kd.V_below (by (with_reducible repeat (first | apply Kd.V_alloc | apply Kd.V_drewN | apply Kd.V_drew)); exact HO2.out) hb); have n1_ := Aside0.mk (below_step (by repeat (first | (with_reducible first | exact HB.out | apply below_alloc | apply pw_below_drewN | apply below_drew1) | exact HB.out)) hb); clear HO2; clear HB; have HO2 := n0_; have HB := n1_; clear n0_ n1_; (try clear hb); (try clear hb2); (try clear hk); (try clear hi)))
      go_ret
      exact ⟨by first | rfl | (simp [errW_none, errW_some] <;> rfl) | (simp [*, errW_none, errW_some] <;> rfl), by repeat (first | (with_reducible first | exact HB.out | apply below_alloc | apply pw_below_drewN | apply below_drew1) | exact HB.out)⟩
  · replace c5 := Bool.eq_false_iff.mpr c5
    subst c5
    have H1 : (some false) = some r := by rw [if_neg (show ¬ (false = true) by decide)] at H; exact H
    exact absurd (Option.some.inj H1) (by rw [HR_.out]; decide)

/-- THE ONE PURE STATEMENT of thrumlaw14_LinearTurns: yours. -/
def thrumlaw14_LinearTurns.Pure : Prop := ∀ (l0 : List Int) (a1 : Int) (l2 : List (S26)), l0.length ≤ maxLen → l0.length * 8 ≤ 140737488351232 → (∀ x ∈ l0, (Lit.int .i64 x).wf = true) → (Lit.int .i64 a1).wf = true → (l2.length ≤ maxLen ∧ ∀ x__ ∈ l2, ((x__.f0.length ≤ maxLen ∧ ∀ x2__ ∈ x__.f0, (Lit.int .i64 x2__).wf = true) ∧ (Lit.int .i64 x__.f1).wf = true ∧ True)) → ∃ k, thrumlaw14_LinearTurns.f k l0 a1 l2 = some true
theorem thrumlaw14_LinearTurns.walk (P : thrumlaw14_LinearTurns.Pure) (a0 : Option Addr) (len0 cap0 : Nat) (z0 : List Int) (a1 : Int) (A2 : Option Addr) (c2 : Nat) (l2 : List (S26)) (w : World) (w0 : (a0 = none ∧ len0 = 0 ∧ cap0 = 0 ∧ z0 = []) ∨ ∃ x, a0 = some x ∧ len0 ≤ cap0 ∧ cap0 ≤ maxLen ∧ z0.length = cap0 ∧ (∀ i, i < z0.length → w.cell? (x.add i) = some (.int .i64 (z0.getD i 0))) ∧ ∀ n ∈ z0, (Lit.int .i64 n).wf = true) (y0 : len0 * 8 ≤ 140737488351232) (w1 : (Lit.int .i64 a1).wf = true) (hr2 : Kd.C k26 w A2 l2.length l2) (hc2 : l2.length ≤ c2) (hg2 : (l2.length ≤ maxLen ∧ ∀ x__ ∈ l2, ((x__.f0.length ≤ maxLen ∧ ∀ x2__ ∈ x__.f0, (Lit.int .i64 x2__).wf = true) ∧ (Lit.int .i64 x__.f1).wf = true ∧ True))) :
    Calls Try.prog 16 #[.slice a0 len0 cap0, .int .i64 a1, .slice A2 l2.length c2] w fun e w' => e = .returned (.bool true) ∧ Below w.heap.size w w' := by
  obtain ⟨l0, rfl, hr0, hm0, hw0, hc0⟩ := ReadsInt.ofRowC w0
  obtain ⟨k, h⟩ := P l0 a1 l2 hm0 y0 hw0 w1 hg2
  refine (thrumlaw14_LinearTurns.calls k _ _ l0 a1 (fun k_ => k_ < w.heap.size) _ _ l2 true w (Kd.C_of_reads (d := (0 : Int)) (h1 := fun _ => rfl) hr0) hc0 (Kd.V_mk hc2 (Kd.C_F k26_heap hr2)) h rfl).mono ?_
  rintro e w' ⟨rfl, hd⟩
  exact ⟨rfl, hd⟩









































































































































































































































































































































































































































































































































































































































































































end Go.Proofs.Ytfbdalnjijdknaa.HL
