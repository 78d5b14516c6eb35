/- What Go functions do, each as a plain Lean function with the same answers, and the proof of it, in every world: printed by the session's driver over the kit's print, with texts by hand. -/
import Derived.Test.YtfbdalnjijdknaaHLx0
import Derived.Test.YtfbdalnjijdknaaHLx1
import Derived.Test.YtfbdalnjijdknaaHLx5
import Derived.Test.YtfbdalnjijdknaaHLx18
namespace Go.Proofs.Ytfbdalnjijdknaa.HL
open Go.RowKit Go.Proofs.YtfbdalnjijdknaaW.PrintWords Go.Proofs.YtfbdalnjijdknaaW.PrintLast Go.Proofs.YtfbdalnjijdknaaW.PrintMore
attribute [local go_sem] max2_int min2_int max_two min_two max_three min_three max_four min_four   -- for this text's walks alone
open Go.Proofs.Ytfbdalnjijdknaa.Sp
attribute [local go_sem] Go.Proofs.Ytfbdalnjijdknaa.Sp.u64_not
set_option linter.unusedVariables false
set_option linter.unusedSimpArgs false

/-! ### thrumlaw14_LinearGrows: function 13 -/
mutual
def thrumlaw14_LinearGrows.l0 : Nat → List Int → List Int → Int → Bool → List Int → List Int → Int → Int → Option (Bool)
  | 0, _, _, _, _, _, _, _, _ => none
  | k + 1, x0, x1, x2, x7, x8, x30, x31, x32 => if x32 < x31 then (if 0 ≤ x32 then (if x32 < (x30.length : Int) then (if (rd x30 x32) > 1048576 then (some x7) else (if (rd x30 x32) < (-1048576) then (some x7) else (if x8.length < 17592186044416 then (thrumlaw14_LinearGrows.l0 k x0 x1 x2 x7 (x8 ++ [wrap64 (2 * (rd x30 x32))]) x30 x31 (wrap64 (x32 + 1))) else (none)))) else (none)) else (none)) else (thrumlaw14_LinearGrows.l1 k x0 x1 x2 x7 x8 x1 (x1.length : Int) 0)
def thrumlaw14_LinearGrows.l1 : Nat → List Int → List Int → Int → Bool → List Int → List Int → Int → Int → Option (Bool)
  | 0, _, _, _, _, _, _, _, _ => none
  | k + 1, x0, x1, x2, x7, x8, x49, x50, x51 => if x51 < x50 then (if 0 ≤ x51 then (if x51 < (x49.length : Int) then (if (rd x49 x51) > 1048576 then (some x7) else (if (rd x49 x51) < (-1048576) then (some x7) else (thrumlaw14_LinearGrows.l1 k x0 x1 x2 x7 x8 x49 x50 (wrap64 (x51 + 1))))) else (none)) else (none)) else ((linear_Tell.f x0 x1 0).bind fun bt285 => ((linear_Tell.f x8 x1 0).bind fun bt287 => (if bt285.2 = 0 then (if bt287.2 = 0 then (if (x0.length : Int) = (wrap64 ((x1.length : Int) + 1)) then (if ([] : List Int).length + x0.length < 17592186044416 then ((some (([] : List Int) ++ x0 : List Int)).bind fun y289 => (if 0 ≤ (x1.length : Int) then (if (x1.length : Int) < (y289.length : Int) then ((linear_Tell.f (y289.set ((x1.length : Int) : Int).toNat (wrap64 ((rd y289 (x1.length : Int)) + (Int.tmod x2 1099511627776)))) x1 0).bind fun bt294 => (if x7 = true then (if bt287.1 = (wrap64 (2 * bt285.1)) then (if bt294.2 = 0 then (some (bt294.1 == (wrap64 (bt285.1 + (Int.tmod x2 1099511627776))))) else (some false)) else (some false)) else (some false))) else (none)) else (none))) else (none)) else (if x7 = true then (if bt285.2 = bt287.2 then (some (bt285.2 != 0)) else (some false)) else (some false))) else (if x7 = true then (if bt285.2 = bt287.2 then (some (bt285.2 != 0)) else (some false)) else (some false))) else (if x7 = true then (if bt285.2 = bt287.2 then (some (bt285.2 != 0)) else (some false)) else (some false)))))
end
def thrumlaw14_LinearGrows.f (k : Nat) (l0 : List Int) (l1 : List Int) (a2 : Int) : Option (Bool) := (thrumlaw14_live.f).bind fun t275 => (if t275 = true then ((thrumref14_Few.f l0 (([(⟨l1, 0⟩ : S26)] : List (S26)))).bind fun t279 => (if t279 = true then (thrumlaw14_LinearGrows.l0 k l0 l1 a2 t275 ([] : List Int) l0 (l0.length : Int) 0) else (some t275))) else (some false))
theorem thrumlaw14_LinearGrows.mono_l : ∀ k, (∀ y0 y1 y2 y3 y4 y5 y6 y7, LeO (thrumlaw14_LinearGrows.l0 k y0 y1 y2 y3 y4 y5 y6 y7) (thrumlaw14_LinearGrows.l0 (k + 1) y0 y1 y2 y3 y4 y5 y6 y7)) ∧ (∀ y0 y1 y2 y3 y4 y5 y6 y7, LeO (thrumlaw14_LinearGrows.l1 k y0 y1 y2 y3 y4 y5 y6 y7) (thrumlaw14_LinearGrows.l1 (k + 1) y0 y1 y2 y3 y4 y5 y6 y7))
  | 0 => ⟨fun _ _ _ _ _ _ _ _ r h => by simp [thrumlaw14_LinearGrows.l0] at h, fun _ _ _ _ _ _ _ _ r h => by simp [thrumlaw14_LinearGrows.l1] at h⟩
  | k + 1 => by
    obtain ⟨ih0, ih1⟩ := thrumlaw14_LinearGrows.mono_l k
    refine ⟨?_, ?_⟩
    · intro y0 y1 y2 y3 y4 y5 y6 y7
      unfold thrumlaw14_LinearGrows.l0
      repeat' first
      | (with_reducible exact ih0 _ _ _ _ _ _ _ _)
      | (with_reducible exact ih1 _ _ _ _ _ _ _ _)
      | (with_reducible exact LeO.refl _)
      | (with_reducible exact LeO.none _)
      | (with_reducible refine LeO.ite ?_ ?_)
      | (with_reducible refine LeO.bind ?_ (fun _ => ?_))
      | exact ih0 _ _ _ _ _ _ _ _
      | exact ih1 _ _ _ _ _ _ _ _
      | exact LeO.none _
      | refine LeO.ite ?_ ?_
      | refine LeO.bind ?_ (fun _ => ?_)
    · intro y0 y1 y2 y3 y4 y5 y6 y7
      unfold thrumlaw14_LinearGrows.l1
      repeat' first
      | (with_reducible exact ih0 _ _ _ _ _ _ _ _)
      | (with_reducible exact ih1 _ _ _ _ _ _ _ _)
      | (with_reducible exact LeO.refl _)
      | (with_reducible exact LeO.none _)
      | (with_reducible refine LeO.ite ?_ ?_)
      | (with_reducible refine LeO.bind ?_ (fun _ => ?_))
      | exact ih0 _ _ _ _ _ _ _ _
      | exact ih1 _ _ _ _ _ _ _ _
      | exact LeO.none _
      | refine LeO.ite ?_ ?_
      | refine LeO.bind ?_ (fun _ => ?_)
theorem thrumlaw14_LinearGrows.mono : ∀ a0 a1 a2 k, LeO (thrumlaw14_LinearGrows.f k a0 a1 a2) (thrumlaw14_LinearGrows.f (k + 1) a0 a1 a2) := by
  intro a0 a1 a2 k
  obtain ⟨ih0, ih1⟩ := thrumlaw14_LinearGrows.mono_l k
  unfold thrumlaw14_LinearGrows.f
  repeat' first
      | (with_reducible exact ih0 _ _ _ _ _ _ _ _)
      | (with_reducible exact ih1 _ _ _ _ _ _ _ _)
      | (with_reducible exact LeO.refl _)
      | (with_reducible exact LeO.none _)
      | (with_reducible refine LeO.ite ?_ ?_)
      | (with_reducible refine LeO.bind ?_ (fun _ => ?_))
      | exact ih0 _ _ _ _ _ _ _ _
      | exact ih1 _ _ _ _ _ _ _ _
      | exact LeO.none _
      | refine LeO.ite ?_ ?_
      | refine LeO.bind ?_ (fun _ => ?_)
set_option maxHeartbeats 80000000 in
set_option maxRecDepth 100000 in
theorem thrumlaw14_LinearGrows.calls (k : Nat) (A0 : Option Addr) (c0 : Nat) (l0 : List Int) (P1_ : Nat → Prop) (A1 : Option Addr) (c1 : Nat) (l1 : List Int) (a2 : Int) (r : Bool) (w : World) (hr0 : Kd.C (Kd.int .i64) w A0 l0.length l0) (hc0 : l0.length ≤ c0) (hs1 : Kd.V (Kd.int .i64) 2 w w.heap.size (fun k_ => P1_ k_) (.slice A1 l1.length c1) l1) (h : thrumlaw14_LinearGrows.f k l0 l1 a2 = some r) (hr_ : r = true) :
    Calls Try.prog 13 #[.slice A0 l0.length c0, .slice A1 l1.length c1, .int .i64 a2] w fun e w' => e = .returned (.bool r) ∧ Below w.heap.size w w' := by
  have HR_ := Aside0.mk hr_
  clear hr_
  have hu26 := Try.underlying26
  have HR0 := Aside0.mk hr0
  have HC0 := Aside0.mk hc0
  clear hr0 hc0
  have HO1 := Aside0.mk (show Kd.V (Kd.int .i64) 2 w w.heap.size (fun k_ => (P1_ k_ ∨ w.heap.size ≤ k_)) (.slice A1 l1.length c1) l1 from Kd.V_mono hs1 (fun k_ hk => .inl hk))
  have HB := Aside0.mk (Below.refl w.heap.size w)
  have H : ((thrumlaw14_live.f).bind fun t275 => (if t275 = true then ((thrumref14_Few.f l0 (([(⟨l1, 0⟩ : S26)] : List (S26)))).bind fun t279 => (if t279 = true then (thrumlaw14_LinearGrows.l0 k l0 l1 a2 t275 ([] : List Int) l0 (l0.length : Int) 0) else (some t275))) else (some false))) = some r := h
  clear h
  replace H := Option.bind_eq_some_iff.mp H
  obtain ⟨t275, A40, H⟩ := H
  replace H : (if t275 = true then ((thrumref14_Few.f l0 (([(⟨l1, 0⟩ : S26)] : List (S26)))).bind fun t279 => (if t279 = true then (thrumlaw14_LinearGrows.l0 k l0 l1 a2 t275 ([] : List Int) l0 (l0.length : Int) 0) else (some t275))) else (some false)) = some r := H
  have A4 := Aside0.mk A40
  clear A40
  by_cases c5 : t275 = true
  · subst c5
    have H1 : ((thrumref14_Few.f l0 (([(⟨l1, 0⟩ : S26)] : List (S26)))).bind fun t279 => (if t279 = true then (thrumlaw14_LinearGrows.l0 k l0 l1 a2 true ([] : List Int) l0 (l0.length : Int) 0) else (some true))) = some r := by rw [if_pos rfl] at H; exact H
    clear H
    have H := H1
    clear H1
    obtain ⟨y276, hy276⟩ : ∃ y_ : List (S26), y_ = (([(⟨l1, 0⟩ : S26)] : List (S26))) := ⟨_, rfl⟩
    replace H : ((thrumref14_Few.f l0 y276).bind fun t279 => (if t279 = true then (thrumlaw14_LinearGrows.l0 k l0 l1 a2 true ([] : List Int) l0 (l0.length : Int) 0) else (some true))) = some r := by first | (rw [hy276]; with_reducible exact H) | (have H2_ := (Option.bind_some _ _).symm.trans H; rw [hy276]; with_reducible exact H2_) | (have H2_ := (Option.bind_some _ _).symm.trans H; with_reducible exact H2_) | with_reducible exact H | (rw [hy276]; exact H) | exact H
    have Ny276 := Aside0.mk hy276
    clear hy276
    replace H := Option.bind_eq_some_iff.mp H
    obtain ⟨t279, A60, H⟩ := H
    replace H : (if t279 = true then (thrumlaw14_LinearGrows.l0 k l0 l1 a2 true ([] : List Int) l0 (l0.length : Int) 0) else (some true)) = some r := H
    have A6 := Aside0.mk A60
    clear A60
    by_cases c7 : t279 = true
    · subst c7
      have H1 : (thrumlaw14_LinearGrows.l0 k l0 l1 a2 true ([] : List Int) l0 (l0.length : Int) 0) = some r := by rw [if_pos rfl] at H; exact H
      clear H
      have H := H1
      clear H1
      have H' := Aside0.mk H
      clear H
      go_enter Try.func13, Try.ntmps13
      go_wp2_with (first | ((with_reducible refine gate_callee (f := 61) rfl ?_); refine goesL_ (some 20) rfl rfl Try.func61 (by kernel_rfl) rfl #[] rfl (by (try simp only [List.map_toArray, List.map_cons, List.map_nil]); first | done | rfl | (simp only [List.length_drop, List.length_take]; rfl)) ?_; (with_reducible refine (thrumlaw14_live.calls  true _ A4.out).mono ?_); rintro e w8 ⟨rfl, hb⟩; refine ⟨_, rfl, ?_⟩; have n0_ := Aside0.mk (Kd.V_below (by (with_reducible repeat (first | apply Kd.V_alloc | apply Kd.V_drewN | apply Kd.V_drew)); exact HO1.out) hb); have n1_ := Aside0.mk (below_step (by repeat (first | (with_reducible first | exact HB.out | apply below_alloc | apply pw_below_drewN | apply below_drew1) | exact HB.out)) hb); clear HO1; clear HB; have HO1 := n0_; have HB := n1_; clear n0_ n1_; (try clear hb); (try clear hb2); (try clear hk); (try clear hi)) | ((with_reducible refine gate_dst (N := 26) rfl ?_); (try (refine gate_guard (by rfl) ?_; dsimp only)); refine Kd.N_lit k26 _ 26 ?hg (N' := 26) ?hd (xs := ([(⟨l1, 0⟩ : S26)] : List (S26))) (inner := [.slice A1 l1.length c1, .int .i64 0]) (ok := (fun k_ => (P1_ k_ ∨ w.heap.size ≤ k_))) (okp := (fun k_ => (P1_ k_ ∨ w.heap.size ≤ k_))) ?hr ?hp (fun _ hk => hk) ((show ∀ k_, w8.heap.size ≤ k_ → (fun k_ => (P1_ k_ ∨ w.heap.size ≤ k_)) k_ from fun k_ hk => (.inr (Nat.le_trans (below_size (by repeat (first | (with_reducible first | exact HB.out | apply below_alloc | apply pw_below_drewN | apply below_drew1) | exact HB.out))) hk))) _ (Nat.le_refl _)) (Below.refl _ _) (Nat.le_refl _) (by simp) ?_; (case hd => rfl); (case hg => rfl); (case hr => first | (go_simp; done) | (go_simp; rfl)); (case hp => exact (Reps.c2 (show Kd.FK k26 _ _ (⟨l1, 0⟩ : S26) [.slice A1 l1.length c1, .int .i64 0] from (k26_mkF _ _ (⟨l1, 0⟩ : S26) (Kd.V_reads' (Kd.V_mono (ok' := (fun k_ => (P1_ k_ ∨ w.heap.size ≤ k_))) (HO1.out) (fun k_ hk => hk))).2.1 (Kd.V_F (Kd.V_mono (ok' := (fun k_ => (P1_ k_ ∨ w.heap.size ≤ k_))) (HO1.out) (fun k_ hk => hk))))) (Reps.none _ _))); intro v277 w9 ho10 hb hg_ hnew_; clear hg_ hnew_; (first | rw [← Ny276.out] at ho10 | (simp only [Int.reduceToNat] at ho10; rw [← Ny276.out] at ho10)); have n0_ := Aside0.mk (Kd.V_elder' (by (with_reducible repeat (first | apply Kd.V_alloc | apply Kd.V_drewN | apply Kd.V_drew)); exact HO1.out) (Kd.N_base ho10) hb); have n1_ := Aside0.mk (Kd.N_lower ho10 (below_size (by repeat (first | (with_reducible first | exact HB.out | apply below_alloc | apply pw_below_drewN | apply below_drew1) | exact HB.out)))); have n2_ := Aside0.mk (below_step (by repeat (first | (with_reducible first | exact HB.out | apply below_alloc | apply pw_below_drewN | apply below_drew1) | exact HB.out)) hb); clear HO1; clear HB; have HO1 := n0_; have HO278 := n1_; have HB := n2_; clear n0_ n1_ n2_; clear hb ho10; obtain ⟨Ao11, co11, eo11⟩ := Kd.N_slice HO278.out; subst eo11) | ((with_reducible refine gate_callee (f := 30) rfl ?_); refine goesL_ (some 27) rfl rfl Try.func30 (by kernel_rfl) rfl #[.slice A0 l0.length c0, .slice Ao11 y276.length co11] rfl (by (try simp only [List.map_toArray, List.map_cons, List.map_nil]); first | done | rfl | (simp only [List.length_drop, List.length_take]; rfl)) ?_; (with_reducible refine (thrumref14_Few.calls _ _ l0 _ _ y276 true _ ?side1 ?side2 ?side3 ?side4 A6.out).mono ?_); (case side1 => repeat (first | exact (Kd.C_below HR0.out HB.out) | (with_reducible refine Kd.C_alloc ?_ _) | (with_reducible refine Kd.C_drewN ?_ _) | (with_reducible refine Kd.C_drew ?_))); (case side2 => exact HC0.out); (case side3 => repeat (first | exact (Kd.N_reads' HO278.out).2.2 | (with_reducible refine Kd.C_alloc ?_ _) | (with_reducible refine Kd.C_drewN ?_ _) | (with_reducible refine Kd.C_drew ?_))); (case side4 => exact (Kd.N_reads' HO278.out).2.1); rintro e w12 ⟨rfl, hb⟩; refine ⟨_, rfl, ?_⟩; have n0_ := Aside0.mk (Kd.V_below (by (with_reducible repeat (first | apply Kd.V_alloc | apply Kd.V_drewN | apply Kd.V_drew)); exact HO1.out) hb); have n1_ := Aside0.mk (Kd.N_below (by (with_reducible repeat (first | apply Kd.N_alloc | apply Kd.N_drewN | apply Kd.N_drew)); exact HO278.out) hb); have n2_ := Aside0.mk (below_step (by repeat (first | (with_reducible first | exact HB.out | apply below_alloc | apply pw_below_drewN | apply below_drew1) | exact HB.out)) hb); clear HO1; clear HO278; clear HB; have HO1 := n0_; have HO278 := n1_; have HB := n2_; clear n0_ n1_ n2_; (try clear hb); (try clear hb2); (try clear hk); (try clear hi)))
      go_loopg [8, 32] k (fun kq v8 v32 w' => ∃ (x8_1 : List Int) (x32_1 : Int), v32 = .int .i64 x32_1 ∧ Aside0 (thrumlaw14_LinearGrows.l0 kq l0 l1 a2 true x8_1 l0 (l0.length : Int) x32_1 = some r) ∧ Aside0 (kq ≤ k) ∧ Aside0 (Kd.V (Kd.int .i64) 2 w' w.heap.size (fun k_ => (P1_ k_ ∨ w.heap.size ≤ k_) ∧ some k_ ≠ (v8 : Value).ownBlock) (.slice A1 l1.length c1) l1) ∧ Aside0 (Kd.R (Kd.int .i64) 2 w' w.heap.size (fun k_ => (w.heap.size ≤ k_)) v8 x8_1) ∧ Aside0 (Below w.heap.size w w'))
      case atStart => exact ⟨(([] : List Int)), (0), (by first | rfl | (simp; done) | (simp [*]; done)), H', ⟨Nat.le_refl _⟩, ⟨by (with_reducible repeat (first | apply Kd.V_alloc | apply Kd.V_drewN | apply Kd.V_drew)); exact Kd.V_mono HO1.out (fun _ hk => ⟨hk.1, (by simp [Value.ownBlock])⟩)⟩, ⟨by first | exact Kd.R_nil _ _ _ _ _ | exact Kd.N_nil _ _ _ _ _ | exact Kd.V_nil _ _ _ _ _ | exact Kd.Q_nil _ _ _ _ _ | exact Kd.S_nil _ _ _ _ _⟩, ⟨by repeat (first | (with_reducible first | exact HB.out | apply below_alloc | apply pw_below_drewN | apply below_drew1) | exact HB.out)⟩⟩
      case round =>
        clear H'
        try clear c1
        try clear c2
        try clear p2
        try clear c3
        try clear c5
        try clear c6
        try clear c7
        obtain ⟨x8_1, x32_1, rfl, HA, HK1, HO_1, HO_8, HB⟩ := hrel
        cases gk with
        | zero => exact absurd HA.out (by simp [thrumlaw14_LinearGrows.l0])
        | succ k1 =>
          have H := HA.out
          clear HA
          simp only [thrumlaw14_LinearGrows.l0] at H
          by_cases c13 : x32_1 < (l0.length : Int)
          · rw [if_pos c13] at H
            have c13b0 : decide (x32_1 < (l0.length : Int)) = true := decide_eq_true c13
            clear c13
            by_cases c14 : 0 ≤ x32_1
            · rw [if_pos c14] at H
              have c14b0 : decide (0 ≤ x32_1) = true := decide_eq_true c14
              clear c14
              by_cases c15 : x32_1 < (l0.length : Int)
              · rw [if_pos c15] at H
                have c15b0 : decide (x32_1 < (l0.length : Int)) = true := decide_eq_true c15
                clear c15
                by_cases c16 : (rd l0 x32_1) > 1048576
                · rw [if_pos c16] at H
                  have c16b0 : decide (1048576 < (rd l0 x32_1)) = true := decide_eq_true c16
                  clear c16
                  obtain rfl := Option.some.inj H
                  have p280 : 0 ≤ (x32_1 : Int) := of_decide_eq_true (by first | (with_reducible assumption) | assumption)
                  have q280 : x32_1 < (l0.length : Int) := of_decide_eq_true (by first | (with_reducible assumption) | assumption)
                  obtain ⟨ad280, e280, hx280_0⟩ := Kd.at_int HR0.out x32_1 p280 q280
                  cases e280
                  replace hx280_0 := (HB.out.cell (World.block_lt_of_cell? w _ hx280_0)).trans hx280_0
                  replace p280 := eq_true p280
                  replace q280 := eq_true q280
                  go_wp2
                  go_ret
                  exact ⟨by first | rfl | (simp [errW_none, errW_some] <;> rfl) | (simp [*, errW_none, errW_some] <;> rfl), by repeat (first | (with_reducible first | exact HB.out | apply below_alloc | apply pw_below_drewN | apply below_drew1) | exact HB.out)⟩
                · rw [if_neg c16] at H
                  have c16b0 : decide (1048576 < (rd l0 x32_1)) = false := decide_eq_false c16
                  clear c16
                  by_cases c17 : (rd l0 x32_1) < (-1048576)
                  · rw [if_pos c17] at H
                    have c17b0 : decide ((rd l0 x32_1) < (-1048576)) = true := decide_eq_true c17
                    clear c17
                    obtain rfl := Option.some.inj H
                    have p280 : 0 ≤ (x32_1 : Int) := of_decide_eq_true (by first | (with_reducible assumption) | assumption)
                    have q280 : x32_1 < (l0.length : Int) := of_decide_eq_true (by first | (with_reducible assumption) | assumption)
                    obtain ⟨ad280, e280, hx280_0⟩ := Kd.at_int HR0.out x32_1 p280 q280
                    cases e280
                    replace hx280_0 := (HB.out.cell (World.block_lt_of_cell? w _ hx280_0)).trans hx280_0
                    replace p280 := eq_true p280
                    replace q280 := eq_true q280
                    go_wp2
                    go_ret
                    exact ⟨by first | rfl | (simp [errW_none, errW_some] <;> rfl) | (simp [*, errW_none, errW_some] <;> rfl), by repeat (first | (with_reducible first | exact HB.out | apply below_alloc | apply pw_below_drewN | apply below_drew1) | exact HB.out)⟩
                  · rw [if_neg c17] at H
                    have c17b0 : decide ((rd l0 x32_1) < (-1048576)) = false := decide_eq_false c17
                    clear c17
                    by_cases c18 : x8_1.length < 17592186044416
                    · rw [if_pos c18] at H
                      have LMc18 := Aside0.mk c18
                      clear c18
                      obtain ⟨y281, hy281⟩ : ∃ y_ : List Int, y_ = (x8_1 ++ [wrap64 (2 * (rd l0 x32_1))]) := ⟨_, rfl⟩
                      replace H : (thrumlaw14_LinearGrows.l0 k1 l0 l1 a2 true y281 l0 (l0.length : Int) (wrap64 (x32_1 + 1))) = some r := by first | (rw [hy281]; with_reducible exact H) | (have H2_ := (Option.bind_some _ _).symm.trans H; rw [hy281]; with_reducible exact H2_) | (have H2_ := (Option.bind_some _ _).symm.trans H; with_reducible exact H2_) | with_reducible exact H | (rw [hy281]; exact H) | exact H
                      have Ny281 := Aside0.mk hy281
                      clear hy281
                      have H' := Aside0.mk H
                      clear H
                      have p280 : 0 ≤ (x32_1 : Int) := of_decide_eq_true (by first | (with_reducible assumption) | assumption)
                      have q280 : x32_1 < (l0.length : Int) := of_decide_eq_true (by first | (with_reducible assumption) | assumption)
                      obtain ⟨ad280, e280, hx280_0⟩ := Kd.at_int HR0.out x32_1 p280 q280
                      cases e280
                      replace hx280_0 := (HB.out.cell (World.block_lt_of_cell? w _ hx280_0)).trans hx280_0
                      replace p280 := eq_true p280
                      replace q280 := eq_true q280
                      go_wp2_with (first | ((with_reducible refine gate_builtin (b := .append) (xs := #[.tmp 43, .tmp 46]) rfl ?_); (try (refine gate_guard (by rfl) ?_; dsimp only)); at_builtin; refine Kd.R_append (Kd.int .i64) (w0 := w) w.heap.size rfl (.tmp 43) (.tmp 46) 22 2 (.int .i64 0) 8 rfl Try.underlying22 info2 rfl (by decide) (by omega) u8 x8_1 (wrap64 (2 * (rd l0 x32_1))) [.int .i64 (wrap64 (2 * (rd l0 x32_1)))] (fun k_ => (w.heap.size ≤ k_)) (fun _ => False) rfl rfl ?aP (fun _ hk => hk.elim) ?aF ?aO ?aB ?aS ?aL ?_; (case aP => exact rfl); (case aB => exact (by repeat (first | (with_reducible first | exact HB.out | apply below_alloc | apply pw_below_drewN | apply below_drew1) | exact HB.out))); (case aF => exact (fun k_ hk => (Nat.le_trans (below_size (by repeat (first | (with_reducible first | exact HB.out | apply below_alloc | apply pw_below_drewN | apply below_drew1) | exact HB.out))) hk))); (case aO => exact (by (with_reducible repeat (first | apply Kd.R_alloc | apply Kd.R_drewN | apply Kd.R_drew)); exact HO_8.out)); (case aS => exact (below_size (by repeat (first | (with_reducible first | exact HB.out | apply below_alloc | apply pw_below_drewN | apply below_drew1) | exact HB.out)))); (case aL => have := LMc18.out; omega); intro v282 w19 ho hb hg hat; rw [← Ny281.out] at ho; have n0_ := Aside0.mk (Kd.V_afterv (ok := (fun k_ => (P1_ k_ ∨ w.heap.size ≤ k_))) (by (with_reducible repeat (first | apply Kd.V_alloc | apply Kd.V_drewN | apply Kd.V_drew)); exact HO_1.out) hg hat); have n1_ := Aside0.mk (hb); have n2_ := Aside0.mk (ho); clear HO_1; clear HB; clear HO_8; have HO_1 := n0_; have HB := n1_; have HO283 := n2_; clear n0_ n1_ n2_; clear ho hb hg hat))
                      go_roundg k1
                      case measure => have := HK1.out; omega
                      case rel => exact ⟨(y281), (wrap64 (x32_1 + 1)), (by first | rfl | (simp; done) | (simp [*]; done)), H', ⟨by have := HK1.out; omega⟩, ⟨by (with_reducible repeat (first | apply Kd.V_alloc | apply Kd.V_drewN | apply Kd.V_drew)); exact HO_1.out⟩, ⟨by (with_reducible repeat (first | apply Kd.R_alloc | apply Kd.R_drewN | apply Kd.R_drew)); exact HO283.out⟩, ⟨by repeat (first | (with_reducible first | exact HB.out | apply below_alloc | apply pw_below_drewN | apply below_drew1) | exact HB.out)⟩⟩
                    · rw [if_neg c18] at H
                      exact absurd H (by simp)
              · rw [if_neg c15] at H
                exact absurd H (by simp)
            · rw [if_neg c14] at H
              exact absurd H (by simp)
          · rw [if_neg c13] at H
            have c13b0 : decide (x32_1 < (l0.length : Int)) = false := decide_eq_false c13
            clear c13
            have H' := Aside0.mk H
            clear H
            go_wp2
            go_loopg [51] k1 (fun kq v51 w' => ∃ (x51_2 : Int), v51 = .int .i64 x51_2 ∧ Aside0 (thrumlaw14_LinearGrows.l1 kq l0 l1 a2 true x8_1 l1 (l1.length : Int) x51_2 = some r) ∧ Aside0 (kq ≤ k1) ∧ Aside0 (Kd.V (Kd.int .i64) 2 w' w.heap.size (fun k_ => (P1_ k_ ∨ w.heap.size ≤ k_) ∧ some k_ ≠ (u8 : Value).ownBlock) (.slice A1 l1.length c1) l1) ∧ Aside0 (Kd.R (Kd.int .i64) 2 w' w.heap.size (fun k_ => (w.heap.size ≤ k_)) u8 x8_1) ∧ Aside0 (Kd.V (Kd.int .i64) 2 w' w.heap.size (fun k_ => (P1_ k_ ∨ w.heap.size ≤ k_) ∧ some k_ ≠ (u8 : Value).ownBlock) (.slice A1 l1.length c1) l1) ∧ Aside0 (Below w.heap.size w w'))
            case atStart => exact ⟨(0), (by first | rfl | (simp; done) | (simp [*]; done)), H', ⟨Nat.le_refl _⟩, ⟨by (with_reducible repeat (first | apply Kd.V_alloc | apply Kd.V_drewN | apply Kd.V_drew)); exact HO_1.out⟩, ⟨by (with_reducible repeat (first | apply Kd.R_alloc | apply Kd.R_drewN | apply Kd.R_drew)); exact HO_8.out⟩, ⟨by (with_reducible repeat (first | apply Kd.V_alloc | apply Kd.V_drewN | apply Kd.V_drew)); exact HO_1.out⟩, ⟨by repeat (first | (with_reducible first | exact HB.out | apply below_alloc | apply pw_below_drewN | apply below_drew1) | exact HB.out)⟩⟩
            case round =>
              clear H'
              try clear c1
              try clear c2
              try clear p2
              try clear q2
              try clear hx2
              try clear c3
              try clear c5
              try clear c6
              try clear p6
              try clear c7
              try clear c13
              try clear c13b0
              try clear c14
              try clear c14b0
              try clear c15
              try clear c15b0
              try clear c16
              try clear c16b0
              try clear c17
              try clear c17b0
              try clear c18
              try clear hx280_0
              try clear p2
              try clear p280
              try clear q280
              obtain ⟨x51_2, rfl, HA, HK2, HO_1, HO_8, HO_49, HB⟩ := hrel
              cases gk with
              | zero => exact absurd HA.out (by simp [thrumlaw14_LinearGrows.l1])
              | succ k2 =>
                have H := HA.out
                clear HA
                simp only [thrumlaw14_LinearGrows.l1] at H
                by_cases c20 : x51_2 < (l1.length : Int)
                · rw [if_pos c20] at H
                  have c20b0 : decide (x51_2 < (l1.length : Int)) = true := decide_eq_true c20
                  clear c20
                  by_cases c21 : 0 ≤ x51_2
                  · rw [if_pos c21] at H
                    have c21b0 : decide (0 ≤ x51_2) = true := decide_eq_true c21
                    clear c21
                    by_cases c22 : x51_2 < (l1.length : Int)
                    · rw [if_pos c22] at H
                      have c22b0 : decide (x51_2 < (l1.length : Int)) = true := decide_eq_true c22
                      clear c22
                      by_cases c23 : (rd l1 x51_2) > 1048576
                      · rw [if_pos c23] at H
                        have c23b0 : decide (1048576 < (rd l1 x51_2)) = true := decide_eq_true c23
                        clear c23
                        obtain rfl := Option.some.inj H
                        have p284 : 0 ≤ (x51_2 : Int) := of_decide_eq_true (by first | (with_reducible assumption) | assumption)
                        have q284 : x51_2 < (l1.length : Int) := of_decide_eq_true (by first | (with_reducible assumption) | assumption)
                        obtain ⟨ad284, e284, hx284_0⟩ := Kd.at_int (Kd.V_reads' HO_49.out).2.2 x51_2 p284 q284
                        cases e284
                        replace p284 := eq_true p284
                        replace q284 := eq_true q284
                        go_wp2
                        go_ret
                        exact ⟨by first | rfl | (simp [errW_none, errW_some] <;> rfl) | (simp [*, errW_none, errW_some] <;> rfl), by repeat (first | (with_reducible first | exact HB.out | apply below_alloc | apply pw_below_drewN | apply below_drew1) | exact HB.out)⟩
                      · rw [if_neg c23] at H
                        have c23b0 : decide (1048576 < (rd l1 x51_2)) = false := decide_eq_false c23
                        clear c23
                        by_cases c24 : (rd l1 x51_2) < (-1048576)
                        · rw [if_pos c24] at H
                          have c24b0 : decide ((rd l1 x51_2) < (-1048576)) = true := decide_eq_true c24
                          clear c24
                          obtain rfl := Option.some.inj H
                          have p284 : 0 ≤ (x51_2 : Int) := of_decide_eq_true (by first | (with_reducible assumption) | assumption)
                          have q284 : x51_2 < (l1.length : Int) := of_decide_eq_true (by first | (with_reducible assumption) | assumption)
                          obtain ⟨ad284, e284, hx284_0⟩ := Kd.at_int (Kd.V_reads' HO_49.out).2.2 x51_2 p284 q284
                          cases e284
                          replace p284 := eq_true p284
                          replace q284 := eq_true q284
                          go_wp2
                          go_ret
                          exact ⟨by first | rfl | (simp [errW_none, errW_some] <;> rfl) | (simp [*, errW_none, errW_some] <;> rfl), by repeat (first | (with_reducible first | exact HB.out | apply below_alloc | apply pw_below_drewN | apply below_drew1) | exact HB.out)⟩
                        · rw [if_neg c24] at H
                          have c24b0 : decide ((rd l1 x51_2) < (-1048576)) = false := decide_eq_false c24
                          clear c24
                          have H' := Aside0.mk H
                          clear H
                          have p284 : 0 ≤ (x51_2 : Int) := of_decide_eq_true (by first | (with_reducible assumption) | assumption)
                          have q284 : x51_2 < (l1.length : Int) := of_decide_eq_true (by first | (with_reducible assumption) | assumption)
                          obtain ⟨ad284, e284, hx284_0⟩ := Kd.at_int (Kd.V_reads' HO_49.out).2.2 x51_2 p284 q284
                          cases e284
                          replace p284 := eq_true p284
                          replace q284 := eq_true q284
                          go_wp2
                          go_roundg k2
                          case measure => have := HK1.out; have := HK2.out; omega
                          case rel => exact ⟨(wrap64 (x51_2 + 1)), (by first | rfl | (simp; done) | (simp [*]; done)), H', ⟨by have := HK1.out; have := HK2.out; omega⟩, ⟨by (with_reducible repeat (first | apply Kd.V_alloc | apply Kd.V_drewN | apply Kd.V_drew)); exact HO_1.out⟩, ⟨by (with_reducible repeat (first | apply Kd.R_alloc | apply Kd.R_drewN | apply Kd.R_drew)); exact HO_8.out⟩, ⟨by (with_reducible repeat (first | apply Kd.V_alloc | apply Kd.V_drewN | apply Kd.V_drew)); exact HO_49.out⟩, ⟨by repeat (first | (with_reducible first | exact HB.out | apply below_alloc | apply pw_below_drewN | apply below_drew1) | exact HB.out)⟩⟩
                    · rw [if_neg c22] at H
                      exact absurd H (by simp)
                  · rw [if_neg c21] at H
                    exact absurd H (by simp)
                · rw [if_neg c20] at H
                  have c20b0 : decide (x51_2 < (l1.length : Int)) = false := decide_eq_false c20
                  clear c20
                  replace H := Option.bind_eq_some_iff.mp H
                  obtain ⟨⟨t285, t286⟩, A250, H⟩ := H
                  replace H : ((linear_Tell.f x8_1 l1 0).bind fun bt287 => (if t286 = 0 then (if bt287.2 = 0 then (if (l0.length : Int) = (wrap64 ((l1.length : Int) + 1)) then (if ([] : List Int).length + l0.length < 17592186044416 then ((some (([] : List Int) ++ l0 : List Int)).bind fun y289 => (if 0 ≤ (l1.length : Int) then (if (l1.length : Int) < (y289.length : Int) then ((linear_Tell.f (y289.set ((l1.length : Int) : Int).toNat (wrap64 ((rd y289 (l1.length : Int)) + (Int.tmod a2 1099511627776)))) l1 0).bind fun bt294 => (if true = true then (if bt287.1 = (wrap64 (2 * t285)) then (if bt294.2 = 0 then (some (bt294.1 == (wrap64 (t285 + (Int.tmod a2 1099511627776))))) else (some false)) else (some false)) else (some false))) else (none)) else (none))) else (none)) else (if true = true then (if t286 = bt287.2 then (some (t286 != 0)) else (some false)) else (some false))) else (if true = true then (if t286 = bt287.2 then (some (t286 != 0)) else (some false)) else (some false))) else (if true = true then (if t286 = bt287.2 then (some (t286 != 0)) else (some false)) else (some false)))) = some r := H
                  have A25 := Aside0.mk A250
                  clear A250
                  replace H := Option.bind_eq_some_iff.mp H
                  obtain ⟨⟨t287, t288⟩, A260, H⟩ := H
                  replace H : (if t286 = 0 then (if t288 = 0 then (if (l0.length : Int) = (wrap64 ((l1.length : Int) + 1)) then (if ([] : List Int).length + l0.length < 17592186044416 then ((some (([] : List Int) ++ l0 : List Int)).bind fun y289 => (if 0 ≤ (l1.length : Int) then (if (l1.length : Int) < (y289.length : Int) then ((linear_Tell.f (y289.set ((l1.length : Int) : Int).toNat (wrap64 ((rd y289 (l1.length : Int)) + (Int.tmod a2 1099511627776)))) l1 0).bind fun bt294 => (if true = true then (if t287 = (wrap64 (2 * t285)) then (if bt294.2 = 0 then (some (bt294.1 == (wrap64 (t285 + (Int.tmod a2 1099511627776))))) else (some false)) else (some false)) else (some false))) else (none)) else (none))) else (none)) else (if true = true then (if t286 = t288 then (some (t286 != 0)) else (some false)) else (some false))) else (if true = true then (if t286 = t288 then (some (t286 != 0)) else (some false)) else (some false))) else (if true = true then (if t286 = t288 then (some (t286 != 0)) else (some false)) else (some false))) = some r := H
                  have A26 := Aside0.mk A260
                  clear A260
                  by_cases c27 : t286 = 0
                  · rw [if_pos c27] at H
                    have c27b0 : (t286 == 0) = true := beq_iff_eq.mpr c27
                    have c27b1 : (t286 != 0) = false := bne_eq_false_iff_eq.mpr c27
                    clear c27
                    by_cases c28 : t288 = 0
                    · rw [if_pos c28] at H
                      have c28b0 : (t288 == 0) = true := beq_iff_eq.mpr c28
                      have c28b1 : (t288 != 0) = false := bne_eq_false_iff_eq.mpr c28
                      clear c28
                      by_cases c29 : (l0.length : Int) = (wrap64 ((l1.length : Int) + 1))
                      · rw [if_pos c29] at H
                        have c29b0 : ((l0.length : Int) == (wrap64 ((l1.length : Int) + 1))) = true := beq_iff_eq.mpr c29
                        have c29b1 : ((l0.length : Int) != (wrap64 ((l1.length : Int) + 1))) = false := bne_eq_false_iff_eq.mpr c29
                        clear c29
                        by_cases c30 : ([] : List Int).length + l0.length < 17592186044416
                        · rw [if_pos c30] at H
                          have LMc30 := Aside0.mk c30
                          clear c30
                          obtain ⟨y289, hy289⟩ : ∃ y_ : List Int, y_ = (([] : List Int) ++ l0) := ⟨_, rfl⟩
                          replace H : (if 0 ≤ (l1.length : Int) then (if (l1.length : Int) < (y289.length : Int) then ((linear_Tell.f (y289.set ((l1.length : Int) : Int).toNat (wrap64 ((rd y289 (l1.length : Int)) + (Int.tmod a2 1099511627776)))) l1 0).bind fun bt294 => (if true = true then (if t287 = (wrap64 (2 * t285)) then (if bt294.2 = 0 then (some (bt294.1 == (wrap64 (t285 + (Int.tmod a2 1099511627776))))) else (some false)) else (some false)) else (some false))) else (none)) else (none)) = some r := by first | (rw [hy289]; with_reducible exact H) | (have H2_ := (Option.bind_some _ _).symm.trans H; rw [hy289]; with_reducible exact H2_) | (have H2_ := (Option.bind_some _ _).symm.trans H; with_reducible exact H2_) | with_reducible exact H | (rw [hy289]; exact H) | exact H
                          have Ny289 := Aside0.mk hy289
                          clear hy289
                          by_cases c31 : 0 ≤ (l1.length : Int)
                          · rw [if_pos c31] at H
                            have c31b0 : decide (0 ≤ (l1.length : Int)) = true := decide_eq_true c31
                            have c31b1 : decide (0 ≤ l1.length) = true := decide_eq_true (by omega)
                            clear c31
                            by_cases c32 : (l1.length : Int) < (y289.length : Int)
                            · rw [if_pos c32] at H
                              have c32b0 : decide ((l1.length : Int) < (y289.length : Int)) = true := decide_eq_true c32
                              have c32b1 : decide (l1.length < y289.length) = true := decide_eq_true (Int.ofNat_lt.mp c32)
                              clear c32
                              obtain ⟨y293, hy293⟩ : ∃ y_ : List Int, y_ = (y289.set ((l1.length : Int) : Int).toNat (wrap64 ((rd y289 (l1.length : Int)) + (Int.tmod a2 1099511627776)))) := ⟨_, rfl⟩
                              replace H : ((linear_Tell.f y293 l1 0).bind fun bt294 => (if true = true then (if t287 = (wrap64 (2 * t285)) then (if bt294.2 = 0 then (some (bt294.1 == (wrap64 (t285 + (Int.tmod a2 1099511627776))))) else (some false)) else (some false)) else (some false))) = some r := by first | (rw [hy293]; with_reducible exact H) | (have H2_ := (Option.bind_some _ _).symm.trans H; rw [hy293]; with_reducible exact H2_) | (have H2_ := (Option.bind_some _ _).symm.trans H; with_reducible exact H2_) | with_reducible exact H | (rw [hy293]; exact H) | exact H
                              have Ny293 := Aside0.mk hy293
                              clear hy293
                              replace H := Option.bind_eq_some_iff.mp H
                              obtain ⟨⟨t294, t295⟩, A340, H⟩ := H
                              replace H : (if true = true then (if t287 = (wrap64 (2 * t285)) then (if t295 = 0 then (some (t294 == (wrap64 (t285 + (Int.tmod a2 1099511627776))))) else (some false)) else (some false)) else (some false)) = some r := H
                              have A34 := Aside0.mk A340
                              clear A340
                              first | rw [if_pos rfl] at H | rw [if_pos trivial] at H
                              by_cases c35 : t287 = (wrap64 (2 * t285))
                              · rw [if_pos c35] at H
                                have c35b0 : (t287 == (wrap64 (2 * t285))) = true := beq_iff_eq.mpr c35
                                have c35b1 : (t287 != (wrap64 (2 * t285))) = false := bne_eq_false_iff_eq.mpr c35
                                clear c35
                                by_cases c36 : t295 = 0
                                · rw [if_pos c36] at H
                                  have c36b0 : (t295 == 0) = true := beq_iff_eq.mpr c36
                                  have c36b1 : (t295 != 0) = false := bne_eq_false_iff_eq.mpr c36
                                  clear c36
                                  obtain rfl := Option.some.inj H
                                  go_wp2_with (first | ((with_reducible refine gate_callee (f := 33) rfl ?_); refine goesL_ (some 66) rfl rfl Try.func33 (by kernel_rfl) rfl #[.slice A0 l0.length c0, .slice A1 l1.length c1, .int .i64 0] rfl (by (try simp only [List.map_toArray, List.map_cons, List.map_nil]); first | done | rfl | (simp only [List.length_drop, List.length_take]; rfl)) ?_; (with_reducible refine (linear_Tell.calls _ _ l0 (fun k_ => ((P1_ k_ ∨ w.heap.size ≤ k_) ∧ some k_ ≠ (u8 : Value).ownBlock)) _ _ l1 0 t285 t286 _ ?side1 ?side2 ?side3 A25.out).mono ?_); (case side1 => repeat (first | exact (Kd.C_below HR0.out HB.out) | (with_reducible refine Kd.C_alloc ?_ _) | (with_reducible refine Kd.C_drewN ?_ _) | (with_reducible refine Kd.C_drew ?_))); (case side2 => exact HC0.out); (case side3 => exact HO_1.out); rintro e w37 ⟨rfl, hb⟩; refine ⟨_, rfl, ?_⟩; have n0_ := Aside0.mk (Kd.V_below (by (with_reducible repeat (first | apply Kd.V_alloc | apply Kd.V_drewN | apply Kd.V_drew)); exact HO_1.out) hb); have n1_ := Aside0.mk (Kd.R_below (by (with_reducible repeat (first | apply Kd.R_alloc | apply Kd.R_drewN | apply Kd.R_drew)); exact HO_8.out) hb); have n2_ := Aside0.mk (Kd.V_below (by (with_reducible repeat (first | apply Kd.V_alloc | apply Kd.V_drewN | apply Kd.V_drew)); exact HO_49.out) hb); have n3_ := Aside0.mk (below_step (by repeat (first | (with_reducible first | exact HB.out | apply below_alloc | apply pw_below_drewN | apply below_drew1) | exact HB.out)) hb); clear HO_1; clear HO_8; clear HO_49; clear HB; have HO_1 := n0_; have HO_8 := n1_; have HO_49 := n2_; have HB := n3_; clear n0_ n1_ n2_ n3_; (try clear hb); (try clear hb2); (try clear hk); (try clear hi); obtain ⟨Ao38, co38, eo38⟩ := Kd.R_slice HO_8.out; subst eo38) | ((with_reducible refine gate_callee (f := 33) rfl ?_); refine goesL_ (some 72) rfl rfl Try.func33 (by kernel_rfl) rfl #[.slice Ao38 x8_1.length co38, .slice A1 l1.length c1, .int .i64 0] rfl (by (try simp only [List.map_toArray, List.map_cons, List.map_nil]); first | done | rfl | (simp only [List.length_drop, List.length_take]; rfl)) ?_; (with_reducible refine (linear_Tell.calls _ _ x8_1 (fun k_ => ((P1_ k_ ∨ w.heap.size ≤ k_) ∧ some k_ ≠ (.slice Ao38 x8_1.length co38 : Value).ownBlock)) _ _ l1 0 t287 t288 _ ?side1 ?side2 ?side3 A26.out).mono ?_); (case side1 => repeat (first | exact (Kd.R_reads' HO_8.out).2.2 | (with_reducible refine Kd.C_alloc ?_ _) | (with_reducible refine Kd.C_drewN ?_ _) | (with_reducible refine Kd.C_drew ?_))); (case side2 => exact (Kd.R_reads' HO_8.out).2.1); (case side3 => exact HO_1.out); rintro e w39 ⟨rfl, hb⟩; refine ⟨_, rfl, ?_⟩; have n0_ := Aside0.mk (Kd.V_below (by (with_reducible repeat (first | apply Kd.V_alloc | apply Kd.V_drewN | apply Kd.V_drew)); exact HO_1.out) hb); have n1_ := Aside0.mk (Kd.R_below (by (with_reducible repeat (first | apply Kd.R_alloc | apply Kd.R_drewN | apply Kd.R_drew)); exact HO_8.out) hb); have n2_ := Aside0.mk (Kd.V_below (by (with_reducible repeat (first | apply Kd.V_alloc | apply Kd.V_drewN | apply Kd.V_drew)); exact HO_49.out) hb); have n3_ := Aside0.mk (below_step (by repeat (first | (with_reducible first | exact HB.out | apply below_alloc | apply pw_below_drewN | apply below_drew1) | exact HB.out)) hb); clear HO_1; clear HO_8; clear HO_49; clear HB; have HO_1 := n0_; have HO_8 := n1_; have HO_49 := n2_; have HB := n3_; clear n0_ n1_ n2_ n3_; (try clear hb); (try clear hb2); (try clear hk); (try clear hi)) | ((with_reducible refine gate_builtin (b := .append) (xs := #[.const (.slice none 0 0), .tmp 101]) rfl ?_); (try (refine gate_guard (by rfl) ?_; dsimp only)); at_builtin; refine Kd.R_append_rows (Kd.int .i64) (w0 := w) w.heap.size rfl (.const (.slice none 0 0)) (.tmp 101) 22 2 (.int .i64 0) 8 rfl Try.underlying22 info2 rfl (by decide) (by omega) (.slice none 0 0) ([] : List Int) l0 _ _ _ (fun k_ => (w.heap.size ≤ k_) ∧ some k_ ≠ (.slice Ao38 x8_1.length co38 : Value).ownBlock) (fun _ => False) rfl rfl ?aO ?aR (fun _ _ h => h) (fun _ h => h.elim) ?aF ?aB ?aS ?aL ?_; (case aR => repeat (first | exact (Kd.C_below HR0.out HB.out) | (with_reducible refine Kd.C_alloc ?_ _) | (with_reducible refine Kd.C_drewN ?_ _) | (with_reducible refine Kd.C_drew ?_))); (case aB => exact (by repeat (first | (with_reducible first | exact HB.out | apply below_alloc | apply pw_below_drewN | apply below_drew1) | exact HB.out))); (case aF => exact (fun k_ hk => ⟨(Nat.le_trans (below_size (by repeat (first | (with_reducible first | exact HB.out | apply below_alloc | apply pw_below_drewN | apply below_drew1) | exact HB.out))) hk), Kd.fresh' (Kd.R_lt (by (with_reducible repeat (first | apply Kd.R_alloc | apply Kd.R_drewN | apply Kd.R_drew)); exact HO_8.out)) k_ hk⟩)); (case aO => exact ((Kd.R_nil _ _ _ _ (fun k_ => (w.heap.size ≤ k_) ∧ some k_ ≠ (.slice Ao38 x8_1.length co38 : Value).ownBlock)))); (case aS => exact (below_size (by repeat (first | (with_reducible first | exact HB.out | apply below_alloc | apply pw_below_drewN | apply below_drew1) | exact HB.out)))); (case aL => have := LMc30.out; omega); intro v290 w40 ho hb hg hat; rw [← Ny289.out] at ho; have n0_ := Aside0.mk (Kd.V_afterv (Kd.V_apart_nil (by (with_reducible repeat (first | apply Kd.V_alloc | apply Kd.V_drewN | apply Kd.V_drew)); exact HO_1.out)) hg hat); have n1_ := Aside0.mk (Kd.R_after (Kd.R_apart_nil (by (with_reducible repeat (first | apply Kd.R_alloc | apply Kd.R_drewN | apply Kd.R_drew)); exact HO_8.out)) hg hat); have n2_ := Aside0.mk (Kd.V_afterv (Kd.V_apart_nil (by (with_reducible repeat (first | apply Kd.V_alloc | apply Kd.V_drewN | apply Kd.V_drew)); exact HO_49.out)) hg hat); have n3_ := Aside0.mk (hb); have n4_ := Aside0.mk (ho); clear HO_1; clear HO_8; clear HO_49; clear HB; have HO_1 := n0_; have HO_8 := n1_; have HO_49 := n2_; have HB := n3_; have HO291 := n4_; clear n0_ n1_ n2_ n3_ n4_; clear ho hb hg hat; obtain ⟨Ao41, co41, eo41⟩ := Kd.R_slice HO291.out; subst eo41; have p292 : 0 ≤ ((l1.length : Int) : Int) := of_decide_eq_true (by first | (with_reducible assumption) | assumption); have q292 : (l1.length : Int) < (y289.length : Int) := of_decide_eq_true (by first | (with_reducible assumption) | assumption); obtain ⟨ad292, e292, hx292_0⟩ := Kd.at_int (Kd.R_reads' HO291.out).2.2 (l1.length : Int) p292 q292; cases e292; (try simp only [Go.IntWalk.toNatUp] at hx292_0); replace p292 := eq_true p292; replace q292 := eq_true q292; have p33 : 0 ≤ ((l1.length : Int) : Int) := of_decide_eq_true (by first | (with_reducible assumption) | assumption); have q33 : ((l1.length : Int) : Int) < ((y289.length : Int) : Int) := of_decide_eq_true (by first | (with_reducible assumption) | assumption); obtain ⟨go33, co33, eo33, gb33, gl33, cl33, HG33⟩ := Kd.R_form HO291.out (by omega); (first | cases eo33 | (injection eo33 with ea_ en_ ec_; (first | subst ea_ | (injection ea_ with ea_; subst ea_)); subst ec_; clear en_)); have GB33 := Aside0.mk gb33; have GG33 := Aside0.mk HG33; clear gb33 gl33 HG33; (first | simp only [add_plain] at hx292_0 | skip); obtain ⟨hx33_0, hf33_0⟩ := Kd.R_celln 0 HO291.out ((l1.length : Int) : Int) p33 q33; replace p33 := eq_true p33; replace q33 := eq_true q33; obtain ⟨hy42_, hz42_⟩ := Kd.R_celln 0 HO291.out ((l1.length : Int) : Int) (of_decide_eq_true (by first | (with_reducible assumption) | assumption)) (of_decide_eq_true (by first | (with_reducible assumption) | assumption)); (try simp only [Go.IntWalk.toNatUp] at hy42_ hz42_); have HP42 := Kd.R_putg HO291.out ((l1.length : Int) : Int) (wrap64 ((rd y289 (l1.length : Int)) + (Int.tmod a2 1099511627776)))) | ((with_reducible refine gate_store (t := 2) (p := 110) rfl ?_); refine store_event (t := 2) (p := 110) (v := ?vo_w43) (w1 := (w40.setCell ⟨go33, ((l1.length : Int) : Int).toNat, none⟩ (.int .i64 (wrap64 ((rd y289 (l1.length : Int)) + (Int.tmod a2 1099511627776)))))) ?hg ?ho ?hn ?hr ?_; (case ho => rfl); (case hg => rfl); (case hn => rfl); (case hr => first | (go_simp; done) | (go_simp; rfl)); intro w43 hw; have hg : w40.grownBy w43 (some go33) := (by rw [hw]; exact HP42.2); have hp_ : Kd.R (Kd.int .i64) 2 w43 w.heap.size (fun k_ => (w.heap.size ≤ k_) ∧ some k_ ≠ (.slice Ao38 x8_1.length co38 : Value).ownBlock) (.slice (some ⟨go33, 0, none⟩) y289.length co41) y293 := (by rw [hw, Ny293.out]; exact HP42.1); clear HP42; have n0_ := Aside0.mk (Kd.V_afterv (v := (.slice (some ⟨go33, 0, none⟩) y289.length co41)) (v1 := (.slice (some ⟨go33, 0, none⟩) y289.length co41)) (ok := (fun k_ => (P1_ k_ ∨ w.heap.size ≤ k_) ∧ some k_ ≠ (.slice Ao38 x8_1.length co38 : Value).ownBlock)) (by (with_reducible repeat (first | apply Kd.V_alloc | apply Kd.V_drewN | apply Kd.V_drew)); exact HO_1.out) hg (.inl rfl)); have n1_ := Aside0.mk (Kd.R_after (v := (.slice (some ⟨go33, 0, none⟩) y289.length co41)) (v1 := (.slice (some ⟨go33, 0, none⟩) y289.length co41)) (ok := (fun k_ => (w.heap.size ≤ k_))) (by (with_reducible repeat (first | apply Kd.R_alloc | apply Kd.R_drewN | apply Kd.R_drew)); exact HO_8.out) hg (.inl rfl)); have n2_ := Aside0.mk (Kd.V_afterv (v := (.slice (some ⟨go33, 0, none⟩) y289.length co41)) (v1 := (.slice (some ⟨go33, 0, none⟩) y289.length co41)) (ok := (fun k_ => (P1_ k_ ∨ w.heap.size ≤ k_) ∧ some k_ ≠ (.slice Ao38 x8_1.length co38 : Value).ownBlock)) (by (with_reducible repeat (first | apply Kd.V_alloc | apply Kd.V_drewN | apply Kd.V_drew)); exact HO_49.out) hg (.inl rfl)); have n3_ := Aside0.mk (hp_); have n4_ := Aside0.mk ((by rw [hw]; exact below_set (HB.out) GB33.out : Below w.heap.size w w43)); clear HO_1; clear HO_8; clear HO_49; clear HO291; clear HB; have HO_1 := n0_; have HO_8 := n1_; have HO_49 := n2_; have HO291 := n3_; have HB := n4_; clear n0_ n1_ n2_ n3_ n4_; clear hg hw hp_) | ((with_reducible refine gate_callee (f := 33) rfl ?_); refine goesL_ (some 114) rfl rfl Try.func33 (by kernel_rfl) rfl #[.slice (some ⟨go33, 0, none⟩) y293.length co41, .slice A1 l1.length c1, .int .i64 0] rfl (by (try simp only [List.map_toArray, List.map_cons, List.map_nil]); first | done | (rw [show y293.length = y289.length from (Kd.R_reads' HO291.out).1.symm] <;> rfl) | rfl | (simp only [List.length_drop, List.length_take]; rfl)) ?_; (with_reducible refine (linear_Tell.calls _ _ y293 (fun k_ => (((P1_ k_ ∨ w.heap.size ≤ k_) ∧ some k_ ≠ (.slice Ao38 x8_1.length co38 : Value).ownBlock) ∧ some k_ ≠ (.slice (some ⟨go33, 0, none⟩) y289.length co41 : Value).ownBlock)) _ _ l1 0 t294 t295 _ ?side1 ?side2 ?side3 A34.out).mono ?_); (case side1 => repeat (first | exact (Kd.R_reads' HO291.out).2.2 | (with_reducible refine Kd.C_alloc ?_ _) | (with_reducible refine Kd.C_drewN ?_ _) | (with_reducible refine Kd.C_drew ?_))); (case side2 => rw [show y293.length = y289.length from (Kd.R_reads' HO291.out).1.symm]; exact (Kd.R_reads' HO291.out).2.1); (case side3 => exact HO_1.out); rintro e w44 ⟨rfl, hb⟩; refine ⟨_, rfl, ?_⟩; have n0_ := Aside0.mk (Kd.V_below (by (with_reducible repeat (first | apply Kd.V_alloc | apply Kd.V_drewN | apply Kd.V_drew)); exact HO_1.out) hb); have n1_ := Aside0.mk (Kd.R_below (by (with_reducible repeat (first | apply Kd.R_alloc | apply Kd.R_drewN | apply Kd.R_drew)); exact HO_8.out) hb); have n2_ := Aside0.mk (Kd.V_below (by (with_reducible repeat (first | apply Kd.V_alloc | apply Kd.V_drewN | apply Kd.V_drew)); exact HO_49.out) hb); have n3_ := Aside0.mk (Kd.R_below (by (with_reducible repeat (first | apply Kd.R_alloc | apply Kd.R_drewN | apply Kd.R_drew)); exact HO291.out) hb); have n4_ := Aside0.mk (below_step (by repeat (first | (with_reducible first | exact HB.out | apply below_alloc | apply pw_below_drewN | apply below_drew1) | exact HB.out)) hb); clear HO_1; clear HO_8; clear HO_49; clear HO291; clear HB; have HO_1 := n0_; have HO_8 := n1_; have HO_49 := n2_; have HO291 := n3_; have HB := n4_; clear n0_ n1_ n2_ n3_ n4_; (try clear hb); (try clear hb2); (try clear hk); (try clear hi)))
                                  go_ret
                                  exact ⟨by first | rfl | (simp [errW_none, errW_some] <;> rfl) | (simp [*, errW_none, errW_some] <;> rfl), by repeat (first | (with_reducible first | exact HB.out | apply below_alloc | apply pw_below_drewN | apply below_drew1) | exact HB.out)⟩
                                · rw [if_neg c36] at H
                                  exact absurd (Option.some.inj H) (by rw [HR_.out]; decide)
                              · rw [if_neg c35] at H
                                exact absurd (Option.some.inj H) (by rw [HR_.out]; decide)
                            · rw [if_neg c32] at H
                              exact absurd H (by simp)
                          · rw [if_neg c31] at H
                            exact absurd H (by simp)
                        · rw [if_neg c30] at H
                          exact absurd H (by simp)
                      · rw [if_neg c29] at H
                        have c29b0 : ((l0.length : Int) == (wrap64 ((l1.length : Int) + 1))) = false := beq_eq_false_iff_ne.mpr c29
                        have c29b1 : ((l0.length : Int) != (wrap64 ((l1.length : Int) + 1))) = true := bne_iff_ne.mpr c29
                        first | rw [if_pos rfl] at H | rw [if_pos trivial] at H
                        by_cases c61 : t286 = t288
                        · rw [if_pos c61] at H
                          have c61b0 : (t286 == t288) = true := beq_iff_eq.mpr c61
                          have c61b1 : (t286 != t288) = false := bne_eq_false_iff_eq.mpr c61
                          clear c61
                          obtain rfl := Option.some.inj H
                          go_wp2_with (first | ((with_reducible refine gate_callee (f := 33) rfl ?_); refine goesL_ (some 66) rfl rfl Try.func33 (by kernel_rfl) rfl #[.slice A0 l0.length c0, .slice A1 l1.length c1, .int .i64 0] rfl (by (try simp only [List.map_toArray, List.map_cons, List.map_nil]); first | done | rfl | (simp only [List.length_drop, List.length_take]; rfl)) ?_; (with_reducible refine (linear_Tell.calls _ _ l0 (fun k_ => ((P1_ k_ ∨ w.heap.size ≤ k_) ∧ some k_ ≠ (u8 : Value).ownBlock)) _ _ l1 0 t285 t286 _ ?side1 ?side2 ?side3 A25.out).mono ?_); (case side1 => repeat (first | exact (Kd.C_below HR0.out HB.out) | (with_reducible refine Kd.C_alloc ?_ _) | (with_reducible refine Kd.C_drewN ?_ _) | (with_reducible refine Kd.C_drew ?_))); (case side2 => exact HC0.out); (case side3 => exact HO_1.out); rintro e w62 ⟨rfl, hb⟩; refine ⟨_, rfl, ?_⟩; have n0_ := Aside0.mk (Kd.V_below (by (with_reducible repeat (first | apply Kd.V_alloc | apply Kd.V_drewN | apply Kd.V_drew)); exact HO_1.out) hb); have n1_ := Aside0.mk (Kd.R_below (by (with_reducible repeat (first | apply Kd.R_alloc | apply Kd.R_drewN | apply Kd.R_drew)); exact HO_8.out) hb); have n2_ := Aside0.mk (Kd.V_below (by (with_reducible repeat (first | apply Kd.V_alloc | apply Kd.V_drewN | apply Kd.V_drew)); exact HO_49.out) hb); have n3_ := Aside0.mk (below_step (by repeat (first | (with_reducible first | exact HB.out | apply below_alloc | apply pw_below_drewN | apply below_drew1) | exact HB.out)) hb); clear HO_1; clear HO_8; clear HO_49; clear HB; have HO_1 := n0_; have HO_8 := n1_; have HO_49 := n2_; have HB := n3_; clear n0_ n1_ n2_ n3_; (try clear hb); (try clear hb2); (try clear hk); (try clear hi); obtain ⟨Ao63, co63, eo63⟩ := Kd.R_slice HO_8.out; subst eo63) | ((with_reducible refine gate_callee (f := 33) rfl ?_); refine goesL_ (some 72) rfl rfl Try.func33 (by kernel_rfl) rfl #[.slice Ao63 x8_1.length co63, .slice A1 l1.length c1, .int .i64 0] rfl (by (try simp only [List.map_toArray, List.map_cons, List.map_nil]); first | done | rfl | (simp only [List.length_drop, List.length_take]; rfl)) ?_; (with_reducible refine (linear_Tell.calls _ _ x8_1 (fun k_ => ((P1_ k_ ∨ w.heap.size ≤ k_) ∧ some k_ ≠ (.slice Ao63 x8_1.length co63 : Value).ownBlock)) _ _ l1 0 t287 t288 _ ?side1 ?side2 ?side3 A26.out).mono ?_); (case side1 => repeat (first | exact (Kd.R_reads' HO_8.out).2.2 | (with_reducible refine Kd.C_alloc ?_ _) | (with_reducible refine Kd.C_drewN ?_ _) | (with_reducible refine Kd.C_drew ?_))); (case side2 => exact (Kd.R_reads' HO_8.out).2.1); (case side3 => exact HO_1.out); rintro e w64 ⟨rfl, hb⟩; refine ⟨_, rfl, ?_⟩; have n0_ := Aside0.mk (Kd.V_below (by (with_reducible repeat (first | apply Kd.V_alloc | apply Kd.V_drewN | apply Kd.V_drew)); exact HO_1.out) hb); have n1_ := Aside0.mk (Kd.R_below (by (with_reducible repeat (first | apply Kd.R_alloc | apply Kd.R_drewN | apply Kd.R_drew)); exact HO_8.out) hb); have n2_ := Aside0.mk (Kd.V_below (by (with_reducible repeat (first | apply Kd.V_alloc | apply Kd.V_drewN | apply Kd.V_drew)); exact HO_49.out) hb); have n3_ := Aside0.mk (below_step (by repeat (first | (with_reducible first | exact HB.out | apply below_alloc | apply pw_below_drewN | apply below_drew1) | exact HB.out)) hb); clear HO_1; clear HO_8; clear HO_49; clear HB; have HO_1 := n0_; have HO_8 := n1_; have HO_49 := n2_; have HB := n3_; clear n0_ n1_ n2_ n3_; (try clear hb); (try clear hb2); (try clear hk); (try clear hi)))
                          go_ret
                          exact ⟨by first | rfl | (simp [errW_none, errW_some] <;> rfl) | (simp [*, errW_none, errW_some] <;> rfl), by repeat (first | (with_reducible first | exact HB.out | apply below_alloc | apply pw_below_drewN | apply below_drew1) | exact HB.out)⟩
                        · rw [if_neg c61] at H
                          exact absurd (Option.some.inj H) (by rw [HR_.out]; decide)
                    · rw [if_neg c28] at H
                      have c28b0 : (t288 == 0) = false := beq_eq_false_iff_ne.mpr c28
                      have c28b1 : (t288 != 0) = true := bne_iff_ne.mpr c28
                      first | rw [if_pos rfl] at H | rw [if_pos trivial] at H
                      by_cases c68 : t286 = t288
                      · rw [if_pos c68] at H
                        have c68b0 : (t286 == t288) = true := beq_iff_eq.mpr c68
                        have c68b1 : (t286 != t288) = false := bne_eq_false_iff_eq.mpr c68
                        clear c68
                        obtain rfl := Option.some.inj H
                        go_wp2_with (first | ((with_reducible refine gate_callee (f := 33) rfl ?_); refine goesL_ (some 66) rfl rfl Try.func33 (by kernel_rfl) rfl #[.slice A0 l0.length c0, .slice A1 l1.length c1, .int .i64 0] rfl (by (try simp only [List.map_toArray, List.map_cons, List.map_nil]); first | done | rfl | (simp only [List.length_drop, List.length_take]; rfl)) ?_; (with_reducible refine (linear_Tell.calls _ _ l0 (fun k_ => ((P1_ k_ ∨ w.heap.size ≤ k_) ∧ some k_ ≠ (u8 : Value).ownBlock)) _ _ l1 0 t285 t286 _ ?side1 ?side2 ?side3 A25.out).mono ?_); (case side1 => repeat (first | exact (Kd.C_below HR0.out HB.out) | (with_reducible refine Kd.C_alloc ?_ _) | (with_reducible refine Kd.C_drewN ?_ _) | (with_reducible refine Kd.C_drew ?_))); (case side2 => exact HC0.out); (case side3 => exact HO_1.out); rintro e w69 ⟨rfl, hb⟩; refine ⟨_, rfl, ?_⟩; have n0_ := Aside0.mk (Kd.V_below (by (with_reducible repeat (first | apply Kd.V_alloc | apply Kd.V_drewN | apply Kd.V_drew)); exact HO_1.out) hb); have n1_ := Aside0.mk (Kd.R_below (by (with_reducible repeat (first | apply Kd.R_alloc | apply Kd.R_drewN | apply Kd.R_drew)); exact HO_8.out) hb); have n2_ := Aside0.mk (Kd.V_below (by (with_reducible repeat (first | apply Kd.V_alloc | apply Kd.V_drewN | apply Kd.V_drew)); exact HO_49.out) hb); have n3_ := Aside0.mk (below_step (by repeat (first | (with_reducible first | exact HB.out | apply below_alloc | apply pw_below_drewN | apply below_drew1) | exact HB.out)) hb); clear HO_1; clear HO_8; clear HO_49; clear HB; have HO_1 := n0_; have HO_8 := n1_; have HO_49 := n2_; have HB := n3_; clear n0_ n1_ n2_ n3_; (try clear hb); (try clear hb2); (try clear hk); (try clear hi); obtain ⟨Ao70, co70, eo70⟩ := Kd.R_slice HO_8.out; subst eo70) | ((with_reducible refine gate_callee (f := 33) rfl ?_); refine goesL_ (some 72) rfl rfl Try.func33 (by kernel_rfl) rfl #[.slice Ao70 x8_1.length co70, .slice A1 l1.length c1, .int .i64 0] rfl (by (try simp only [List.map_toArray, List.map_cons, List.map_nil]); first | done | rfl | (simp only [List.length_drop, List.length_take]; rfl)) ?_; (with_reducible refine (linear_Tell.calls _ _ x8_1 (fun k_ => ((P1_ k_ ∨ w.heap.size ≤ k_) ∧ some k_ ≠ (.slice Ao70 x8_1.length co70 : Value).ownBlock)) _ _ l1 0 t287 t288 _ ?side1 ?side2 ?side3 A26.out).mono ?_); (case side1 => repeat (first | exact (Kd.R_reads' HO_8.out).2.2 | (with_reducible refine Kd.C_alloc ?_ _) | (with_reducible refine Kd.C_drewN ?_ _) | (with_reducible refine Kd.C_drew ?_))); (case side2 => exact (Kd.R_reads' HO_8.out).2.1); (case side3 => exact HO_1.out); rintro e w71 ⟨rfl, hb⟩; refine ⟨_, rfl, ?_⟩; have n0_ := Aside0.mk (Kd.V_below (by (with_reducible repeat (first | apply Kd.V_alloc | apply Kd.V_drewN | apply Kd.V_drew)); exact HO_1.out) hb); have n1_ := Aside0.mk (Kd.R_below (by (with_reducible repeat (first | apply Kd.R_alloc | apply Kd.R_drewN | apply Kd.R_drew)); exact HO_8.out) hb); have n2_ := Aside0.mk (Kd.V_below (by (with_reducible repeat (first | apply Kd.V_alloc | apply Kd.V_drewN | apply Kd.V_drew)); exact HO_49.out) hb); have n3_ := Aside0.mk (below_step (by repeat (first | (with_reducible first | exact HB.out | apply below_alloc | apply pw_below_drewN | apply below_drew1) | exact HB.out)) hb); clear HO_1; clear HO_8; clear HO_49; clear HB; have HO_1 := n0_; have HO_8 := n1_; have HO_49 := n2_; have HB := n3_; clear n0_ n1_ n2_ n3_; (try clear hb); (try clear hb2); (try clear hk); (try clear hi)))
                        go_ret
                        exact ⟨by first | rfl | (simp [errW_none, errW_some] <;> rfl) | (simp [*, errW_none, errW_some] <;> rfl), by repeat (first | (with_reducible first | exact HB.out | apply below_alloc | apply pw_below_drewN | apply below_drew1) | exact HB.out)⟩
                      · rw [if_neg c68] at H
                        exact absurd (Option.some.inj H) (by rw [HR_.out]; decide)
                  · rw [if_neg c27] at H
                    have c27b0 : (t286 == 0) = false := beq_eq_false_iff_ne.mpr c27
                    have c27b1 : (t286 != 0) = true := bne_iff_ne.mpr c27
                    first | rw [if_pos rfl] at H | rw [if_pos trivial] at H
                    by_cases c75 : t286 = t288
                    · rw [if_pos c75] at H
                      have c75b0 : (t286 == t288) = true := beq_iff_eq.mpr c75
                      have c75b1 : (t286 != t288) = false := bne_eq_false_iff_eq.mpr c75
                      clear c75
                      obtain rfl := Option.some.inj H
                      go_wp2_with (first | ((with_reducible refine gate_callee (f := 33) rfl ?_); refine goesL_ (some 66) rfl rfl Try.func33 (by kernel_rfl) rfl #[.slice A0 l0.length c0, .slice A1 l1.length c1, .int .i64 0] rfl (by (try simp only [List.map_toArray, List.map_cons, List.map_nil]); first | done | rfl | (simp only [List.length_drop, List.length_take]; rfl)) ?_; (with_reducible refine (linear_Tell.calls _ _ l0 (fun k_ => ((P1_ k_ ∨ w.heap.size ≤ k_) ∧ some k_ ≠ (u8 : Value).ownBlock)) _ _ l1 0 t285 t286 _ ?side1 ?side2 ?side3 A25.out).mono ?_); (case side1 => repeat (first | exact (Kd.C_below HR0.out HB.out) | (with_reducible refine Kd.C_alloc ?_ _) | (with_reducible refine Kd.C_drewN ?_ _) | (with_reducible refine Kd.C_drew ?_))); (case side2 => exact HC0.out); (case side3 => exact HO_1.out); rintro e w76 ⟨rfl, hb⟩; refine ⟨_, rfl, ?_⟩; have n0_ := Aside0.mk (Kd.V_below (by (with_reducible repeat (first | apply Kd.V_alloc | apply Kd.V_drewN | apply Kd.V_drew)); exact HO_1.out) hb); have n1_ := Aside0.mk (Kd.R_below (by (with_reducible repeat (first | apply Kd.R_alloc | apply Kd.R_drewN | apply Kd.R_drew)); exact HO_8.out) hb); have n2_ := Aside0.mk (Kd.V_below (by (with_reducible repeat (first | apply Kd.V_alloc | apply Kd.V_drewN | apply Kd.V_drew)); exact HO_49.out) hb); have n3_ := Aside0.mk (below_step (by repeat (first | (with_reducible first | exact HB.out | apply below_alloc | apply pw_below_drewN | apply below_drew1) | exact HB.out)) hb); clear HO_1; clear HO_8; clear HO_49; clear HB; have HO_1 := n0_; have HO_8 := n1_; have HO_49 := n2_; have HB := n3_; clear n0_ n1_ n2_ n3_; (try clear hb); (try clear hb2); (try clear hk); (try clear hi); obtain ⟨Ao77, co77, eo77⟩ := Kd.R_slice HO_8.out; subst eo77) | ((with_reducible refine gate_callee (f := 33) rfl ?_); refine goesL_ (some 72) rfl rfl Try.func33 (by kernel_rfl) rfl #[.slice Ao77 x8_1.length co77, .slice A1 l1.length c1, .int .i64 0] rfl (by (try simp only [List.map_toArray, List.map_cons, List.map_nil]); first | done | rfl | (simp only [List.length_drop, List.length_take]; rfl)) ?_; (with_reducible refine (linear_Tell.calls _ _ x8_1 (fun k_ => ((P1_ k_ ∨ w.heap.size ≤ k_) ∧ some k_ ≠ (.slice Ao77 x8_1.length co77 : Value).ownBlock)) _ _ l1 0 t287 t288 _ ?side1 ?side2 ?side3 A26.out).mono ?_); (case side1 => repeat (first | exact (Kd.R_reads' HO_8.out).2.2 | (with_reducible refine Kd.C_alloc ?_ _) | (with_reducible refine Kd.C_drewN ?_ _) | (with_reducible refine Kd.C_drew ?_))); (case side2 => exact (Kd.R_reads' HO_8.out).2.1); (case side3 => exact HO_1.out); rintro e w78 ⟨rfl, hb⟩; refine ⟨_, rfl, ?_⟩; have n0_ := Aside0.mk (Kd.V_below (by (with_reducible repeat (first | apply Kd.V_alloc | apply Kd.V_drewN | apply Kd.V_drew)); exact HO_1.out) hb); have n1_ := Aside0.mk (Kd.R_below (by (with_reducible repeat (first | apply Kd.R_alloc | apply Kd.R_drewN | apply Kd.R_drew)); exact HO_8.out) hb); have n2_ := Aside0.mk (Kd.V_below (by (with_reducible repeat (first | apply Kd.V_alloc | apply Kd.V_drewN | apply Kd.V_drew)); exact HO_49.out) hb); have n3_ := Aside0.mk (below_step (by repeat (first | (with_reducible first | exact HB.out | apply below_alloc | apply pw_below_drewN | apply below_drew1) | exact HB.out)) hb); clear HO_1; clear HO_8; clear HO_49; clear HB; have HO_1 := n0_; have HO_8 := n1_; have HO_49 := n2_; have HB := n3_; clear n0_ n1_ n2_ n3_; (try clear hb); (try clear hb2); (try clear hk); (try clear hi)))
                      go_ret
                      exact ⟨by first | rfl | (simp [errW_none, errW_some] <;> rfl) | (simp [*, errW_none, errW_some] <;> rfl), by repeat (first | (with_reducible first | exact HB.out | apply below_alloc | apply pw_below_drewN | apply below_drew1) | exact HB.out)⟩
                    · rw [if_neg c75] at H
                      exact absurd (Option.some.inj H) (by rw [HR_.out]; decide)
    · replace c7 := Bool.eq_false_iff.mpr c7
      subst c7
      have H1 : (some true) = some r := by rw [if_neg (show ¬ (false = true) by decide)] at H; exact H
      clear H
      have H := H1
      clear H1
      obtain rfl := Option.some.inj H
      go_enter Try.func13, Try.ntmps13
      go_wp2_with (first | ((with_reducible refine gate_callee (f := 61) rfl ?_); refine goesL_ (some 20) rfl rfl Try.func61 (by kernel_rfl) rfl #[] rfl (by (try simp only [List.map_toArray, List.map_cons, List.map_nil]); first | done | rfl | (simp only [List.length_drop, List.length_take]; rfl)) ?_; (with_reducible refine (thrumlaw14_live.calls  true _ A4.out).mono ?_); rintro e w82 ⟨rfl, hb⟩; refine ⟨_, rfl, ?_⟩; have n0_ := Aside0.mk (Kd.V_below (by (with_reducible repeat (first | apply Kd.V_alloc | apply Kd.V_drewN | apply Kd.V_drew)); exact HO1.out) hb); have n1_ := Aside0.mk (below_step (by repeat (first | (with_reducible first | exact HB.out | apply below_alloc | apply pw_below_drewN | apply below_drew1) | exact HB.out)) hb); clear HO1; clear HB; have HO1 := n0_; have HB := n1_; clear n0_ n1_; (try clear hb); (try clear hb2); (try clear hk); (try clear hi)) | ((with_reducible refine gate_dst (N := 26) rfl ?_); (try (refine gate_guard (by rfl) ?_; dsimp only)); refine Kd.N_lit k26 _ 26 ?hg (N' := 26) ?hd (xs := ([(⟨l1, 0⟩ : S26)] : List (S26))) (inner := [.slice A1 l1.length c1, .int .i64 0]) (ok := (fun k_ => (P1_ k_ ∨ w.heap.size ≤ k_))) (okp := (fun k_ => (P1_ k_ ∨ w.heap.size ≤ k_))) ?hr ?hp (fun _ hk => hk) ((show ∀ k_, w82.heap.size ≤ k_ → (fun k_ => (P1_ k_ ∨ w.heap.size ≤ k_)) k_ from fun k_ hk => (.inr (Nat.le_trans (below_size (by repeat (first | (with_reducible first | exact HB.out | apply below_alloc | apply pw_below_drewN | apply below_drew1) | exact HB.out))) hk))) _ (Nat.le_refl _)) (Below.refl _ _) (Nat.le_refl _) (by simp) ?_; (case hd => rfl); (case hg => rfl); (case hr => first | (go_simp; done) | (go_simp; rfl)); (case hp => exact (Reps.c2 (show Kd.FK k26 _ _ (⟨l1, 0⟩ : S26) [.slice A1 l1.length c1, .int .i64 0] from (k26_mkF _ _ (⟨l1, 0⟩ : S26) (Kd.V_reads' (Kd.V_mono (ok' := (fun k_ => (P1_ k_ ∨ w.heap.size ≤ k_))) (HO1.out) (fun k_ hk => hk))).2.1 (Kd.V_F (Kd.V_mono (ok' := (fun k_ => (P1_ k_ ∨ w.heap.size ≤ k_))) (HO1.out) (fun k_ hk => hk))))) (Reps.none _ _))); intro v277 w83 ho84 hb hg_ hnew_; clear hg_ hnew_; (first | rw [← Ny276.out] at ho84 | (simp only [Int.reduceToNat] at ho84; rw [← Ny276.out] at ho84)); have n0_ := Aside0.mk (Kd.V_elder' (by (with_reducible repeat (first | apply Kd.V_alloc | apply Kd.V_drewN | apply Kd.V_drew)); exact HO1.out) (Kd.N_base ho84) hb); have n1_ := Aside0.mk (Kd.N_lower ho84 (below_size (by repeat (first | (with_reducible first | exact HB.out | apply below_alloc | apply pw_below_drewN | apply below_drew1) | exact HB.out)))); have n2_ := Aside0.mk (below_step (by repeat (first | (with_reducible first | exact HB.out | apply below_alloc | apply pw_below_drewN | apply below_drew1) | exact HB.out)) hb); clear HO1; clear HB; have HO1 := n0_; have HO278 := n1_; have HB := n2_; clear n0_ n1_ n2_; clear hb ho84; obtain ⟨Ao85, co85, eo85⟩ := Kd.N_slice HO278.out; subst eo85) | ((with_reducible refine gate_callee (f := 30) rfl ?_); refine goesL_ (some 27) rfl rfl Try.func30 (by kernel_rfl) rfl #[.slice A0 l0.length c0, .slice Ao85 y276.length co85] rfl (by (try simp only [List.map_toArray, List.map_cons, List.map_nil]); first | done | rfl | (simp only [List.length_drop, List.length_take]; rfl)) ?_; (with_reducible refine (thrumref14_Few.calls _ _ l0 _ _ y276 false _ ?side1 ?side2 ?side3 ?side4 A6.out).mono ?_); (case side1 => repeat (first | exact (Kd.C_below HR0.out HB.out) | (with_reducible refine Kd.C_alloc ?_ _) | (with_reducible refine Kd.C_drewN ?_ _) | (with_reducible refine Kd.C_drew ?_))); (case side2 => exact HC0.out); (case side3 => repeat (first | exact (Kd.N_reads' HO278.out).2.2 | (with_reducible refine Kd.C_alloc ?_ _) | (with_reducible refine Kd.C_drewN ?_ _) | (with_reducible refine Kd.C_drew ?_))); (case side4 => exact (Kd.N_reads' HO278.out).2.1); rintro e w86 ⟨rfl, hb⟩; refine ⟨_, rfl, ?_⟩; have n0_ := Aside0.mk (Kd.V_below (by (with_reducible repeat (first | apply Kd.V_alloc | apply Kd.V_drewN | apply Kd.V_drew)); exact HO1.out) hb); have n1_ := Aside0.mk (Kd.N_below (by (with_reducible repeat (first | apply Kd.N_alloc | apply Kd.N_drewN | apply Kd.N_drew)); exact HO278.out) hb); have n2_ := Aside0.mk (below_step (by repeat (first | (with_reducible first | exact HB.out | apply below_alloc | apply pw_below_drewN | apply below_drew1) | exact HB.out)) hb); clear HO1; clear HO278; clear HB; have HO1 := n0_; have HO278 := n1_; have HB := n2_; clear n0_ n1_ n2_; (try clear hb); (try clear hb2); (try clear hk); (try clear hi)))
      go_ret
      exact ⟨by first | rfl | (simp [errW_none, errW_some] <;> rfl) | (simp [*, errW_none, errW_some] <;> rfl), by repeat (first | (with_reducible first | exact HB.out | apply below_alloc | apply pw_below_drewN | apply below_drew1) | exact HB.out)⟩
  · replace c5 := Bool.eq_false_iff.mpr c5
    subst c5
    have H1 : (some false) = some r := by rw [if_neg (show ¬ (false = true) by decide)] at H; exact H
    exact absurd (Option.some.inj H1) (by rw [HR_.out]; decide)

/-- THE ONE PURE STATEMENT of thrumlaw14_LinearGrows: yours. -/
def thrumlaw14_LinearGrows.Pure : Prop := ∀ (l0 : List Int) (l1 : List Int) (a2 : Int), l0.length ≤ maxLen → l0.length * 8 ≤ 140737488351232 → (∀ x ∈ l0, (Lit.int .i64 x).wf = true) → l1.length ≤ maxLen → l1.length * 8 ≤ 140737488351232 → (∀ x ∈ l1, (Lit.int .i64 x).wf = true) → (Lit.int .i64 a2).wf = true → ∃ k, thrumlaw14_LinearGrows.f k l0 l1 a2 = some true
theorem thrumlaw14_LinearGrows.walk (P : thrumlaw14_LinearGrows.Pure) (a0 : Option Addr) (len0 cap0 : Nat) (z0 : List Int) (a1 : Option Addr) (len1 cap1 : Nat) (z1 : List Int) (a2 : Int) (w : World) (w0 : (a0 = none ∧ len0 = 0 ∧ cap0 = 0 ∧ z0 = []) ∨ ∃ x, a0 = some x ∧ len0 ≤ cap0 ∧ cap0 ≤ maxLen ∧ z0.length = cap0 ∧ (∀ i, i < z0.length → w.cell? (x.add i) = some (.int .i64 (z0.getD i 0))) ∧ ∀ n ∈ z0, (Lit.int .i64 n).wf = true) (y0 : len0 * 8 ≤ 140737488351232) (w1 : (a1 = none ∧ len1 = 0 ∧ cap1 = 0 ∧ z1 = []) ∨ ∃ x, a1 = some x ∧ len1 ≤ cap1 ∧ cap1 ≤ maxLen ∧ z1.length = cap1 ∧ (∀ i, i < z1.length → w.cell? (x.add i) = some (.int .i64 (z1.getD i 0))) ∧ ∀ n ∈ z1, (Lit.int .i64 n).wf = true) (y1 : len1 * 8 ≤ 140737488351232) (w2 : (Lit.int .i64 a2).wf = true) :
    Calls Try.prog 13 #[.slice a0 len0 cap0, .slice a1 len1 cap1, .int .i64 a2] w fun e w' => e = .returned (.bool true) ∧ Below w.heap.size w w' := by
  obtain ⟨l0, rfl, hr0, hm0, hw0, hc0⟩ := ReadsInt.ofRowC w0
  obtain ⟨l1, rfl, hr1, hm1, hw1, hc1⟩ := ReadsInt.ofRowC w1
  obtain ⟨k, h⟩ := P l0 l1 a2 hm0 y0 hw0 hm1 y1 hw1 w2
  refine (thrumlaw14_LinearGrows.calls k _ _ l0 (fun k_ => k_ < w.heap.size) _ _ l1 a2 true w (Kd.C_of_reads (d := (0 : Int)) (h1 := fun _ => rfl) hr0) hc0 (Kd.V_mk hc1 (Kd.C_F (Kd.heap_int _) (Kd.C_of_reads (d := (0 : Int)) (h1 := fun _ => rfl) hr1))) h rfl).mono ?_
  rintro e w' ⟨rfl, hd⟩
  exact ⟨rfl, hd⟩















































































































































































































































































































































































































































end Go.Proofs.Ytfbdalnjijdknaa.HL
