/- What Go functions do, each as a plain Lean function with the same answers, and the proof of it, in every world: printed by the session's driver over the kit's print, with texts by hand. -/
import Derived.Test.YtbnfejaeekljcaaHDx0
import Derived.Test.YtbnfejaeekljcaaHDx1
import Derived.Test.YtbnfejaeekljcaaHDx2
namespace Go.Proofs.Ytbnfejaeekljcaa.HD
open Go.RowKit Go.Proofs.YtbnfejaeekljcaaW.PrintWords Go.Proofs.YtbnfejaeekljcaaW.PrintLast Go.Proofs.YtbnfejaeekljcaaW.PrintMore
attribute [local go_sem] max2_int min2_int max_two min_two max_three min_three max_four min_four   -- for this text's walks alone
open Go.Proofs.Ytbnfejaeekljcaa.Sp
attribute [local go_sem] Go.Proofs.Ytbnfejaeekljcaa.Sp.u64_not
set_option linter.unusedVariables false
set_option linter.unusedSimpArgs false

/-! ### linear_CheckP: function 42 -/
def linear_CheckP.l0 : Nat → Int → List (S37) → Bool → List (S37) → Int → Int → Option (Int)
  | 0, _, _, _, _, _, _ => none
  | k + 1, x0, x2, x9, x24, x25, x26 => if x26 < x25 then (if 0 ≤ x26 then (if x26 < (x24.length : Int) then (if x9 = true then (linear_CheckP.l0 k x0 x2 ((((rd_T37 x24 x26).f0).length : Int) == x0) x24 x25 (wrap64 (x26 + 1))) else (linear_CheckP.l0 k x0 x2 false x24 x25 (wrap64 (x26 + 1)))) else (none)) else (none)) else (if x9 = true then (if (x2.length : Int) = 0 then (some 1) else (if (x2.length : Int) > 64 then (some 1) else (some 0))) else (some 4))
def linear_CheckP.f (k : Nat) (a0 : Int) (l1 : List Int) (l2 : List (S37)) : Option (Int) := (linear_Dim.f a0).bind fun bt155 => (if bt155.2 = 0 then (linear_CheckP.l0 k a0 l2 ((l1.length : Int) == bt155.1) l2 (l2.length : Int) 0) else (some bt155.2))
theorem linear_CheckP.mono_l : ∀ k, (∀ y0 y1 y2 y3 y4 y5, LeO (linear_CheckP.l0 k y0 y1 y2 y3 y4 y5) (linear_CheckP.l0 (k + 1) y0 y1 y2 y3 y4 y5))
  | 0 => fun _ _ _ _ _ _ r h => by simp [linear_CheckP.l0] at h
  | k + 1 => by
    have ih0 := linear_CheckP.mono_l k
    · intro y0 y1 y2 y3 y4 y5
      unfold linear_CheckP.l0
      repeat' first
      | (with_reducible exact ih0 _ _ _ _ _ _)
      | (with_reducible exact LeO.refl _)
      | (with_reducible exact LeO.none _)
      | (with_reducible refine LeO.ite ?_ ?_)
      | (with_reducible refine LeO.bind ?_ (fun _ => ?_))
      | exact ih0 _ _ _ _ _ _
      | exact LeO.none _
      | refine LeO.ite ?_ ?_
      | refine LeO.bind ?_ (fun _ => ?_)
theorem linear_CheckP.mono : ∀ a0 a1 a2 k, LeO (linear_CheckP.f k a0 a1 a2) (linear_CheckP.f (k + 1) a0 a1 a2) := by
  intro a0 a1 a2 k
  have ih0 := linear_CheckP.mono_l k
  unfold linear_CheckP.f
  repeat' first
      | (with_reducible exact ih0 _ _ _ _ _ _)
      | (with_reducible exact LeO.refl _)
      | (with_reducible exact LeO.none _)
      | (with_reducible refine LeO.ite ?_ ?_)
      | (with_reducible refine LeO.bind ?_ (fun _ => ?_))
      | exact ih0 _ _ _ _ _ _
      | exact LeO.none _
      | refine LeO.ite ?_ ?_
      | refine LeO.bind ?_ (fun _ => ?_)
set_option maxHeartbeats 8000000 in
set_option maxRecDepth 100000 in
theorem linear_CheckP.calls (k : Nat) (a0 : Int) (A1 : Option Addr) (c1 : Nat) (l1 : List Int) (A2 : Option Addr) (c2 : Nat) (l2 : List (S37)) (r : Int) (w : World) (hr1 : Kd.C (Kd.int .i64) w A1 l1.length l1) (hc1 : l1.length ≤ c1) (hr2 : Kd.C k37 w A2 l2.length l2) (hc2 : l2.length ≤ c2) (h : linear_CheckP.f k a0 l1 l2 = some r) :
    Calls Try.prog 42 #[.int .i64 a0, .slice A1 l1.length c1, .slice A2 l2.length c2] w fun e w' => e = .returned (.int .i64 r) ∧ Below w.heap.size w w' := by
  have hu37 := Try.underlying37
  have HR1 := Aside0.mk hr1
  have HC1 := Aside0.mk hc1
  clear hr1 hc1
  have HR2 := Aside0.mk hr2
  have HC2 := Aside0.mk hc2
  clear hr2 hc2
  have HB := Aside0.mk (Below.refl w.heap.size w)
  have H : ((linear_Dim.f a0).bind fun bt155 => (if bt155.2 = 0 then (linear_CheckP.l0 k a0 l2 ((l1.length : Int) == bt155.1) l2 (l2.length : Int) 0) else (some bt155.2))) = some r := h
  clear h
  replace H := Option.bind_eq_some_iff.mp H
  obtain ⟨⟨t155, t156⟩, A40, H⟩ := H
  replace H : (if t156 = 0 then (linear_CheckP.l0 k a0 l2 ((l1.length : Int) == t155) l2 (l2.length : Int) 0) else (some t156)) = some r := H
  have A4 := Aside0.mk A40
  clear A40
  by_cases c5 : t156 = 0
  · rw [if_pos c5] at H
    have c5b0 : (t156 == 0) = true := beq_iff_eq.mpr c5
    have c5b1 : (t156 != 0) = false := bne_eq_false_iff_eq.mpr c5
    clear c5
    have H' := Aside0.mk H
    clear H
    go_enter Try.func42, Try.ntmps42
    go_wp2_with (first | ((with_reducible refine gate_callee (f := 69) rfl ?_); refine goesL_ (some 14) rfl rfl Try.func69 (by kernel_rfl) rfl #[.int .i64 a0] rfl (by (try simp only [List.map_toArray, List.map_cons, List.map_nil]); first | done | rfl | (simp only [List.length_drop, List.length_take]; rfl)) ?_; (with_reducible refine (linear_Dim.calls a0 t155 t156 _ A4.out).mono ?_); rintro e w' ⟨rfl, ⟨nd, rfl⟩⟩; refine ⟨_, rfl, ?_⟩))
    go_loopg [9, 26] k (fun kq v9 v26 w' => ∃ (x9_1 : Bool) (x26_1 : Int), v9 = .bool x9_1 ∧ v26 = .int .i64 x26_1 ∧ Aside0 (linear_CheckP.l0 kq a0 l2 x9_1 l2 (l2.length : Int) x26_1 = some r) ∧ Aside0 (kq ≤ k) ∧ Aside0 (Below w.heap.size w w'))
    case atStart => exact ⟨(((l1.length : Int) == t155)), (0), (by first | rfl | (simp; done) | (simp [*]; done)), (by first | rfl | (simp; done) | (simp [*]; done)), H', ⟨Nat.le_refl _⟩, ⟨by repeat (first | (with_reducible first | exact HB.out | apply below_alloc | apply pw_below_drewN | apply below_drew1) | exact HB.out)⟩⟩
    case round =>
      clear H'
      try clear c1
      try clear c2
      try clear p2
      try clear c4
      try clear c5
      try clear c5b0
      try clear c5b1
      obtain ⟨x9_1, x26_1, rfl, rfl, HA, HK1, HB⟩ := hrel
      cases gk with
      | zero => exact absurd HA.out (by simp [linear_CheckP.l0])
      | succ k1 =>
        have H := HA.out
        clear HA
        simp only [linear_CheckP.l0] at H
        by_cases c6 : x26_1 < (l2.length : Int)
        · rw [if_pos c6] at H
          have c6b0 : decide (x26_1 < (l2.length : Int)) = true := decide_eq_true c6
          clear c6
          by_cases c7 : 0 ≤ x26_1
          · rw [if_pos c7] at H
            have c7b0 : decide (0 ≤ x26_1) = true := decide_eq_true c7
            clear c7
            by_cases c8 : x26_1 < (l2.length : Int)
            · rw [if_pos c8] at H
              have c8b0 : decide (x26_1 < (l2.length : Int)) = true := decide_eq_true c8
              clear c8
              by_cases c9 : x9_1 = true
              · subst c9
                have H1 : (linear_CheckP.l0 k1 a0 l2 ((((rd_T37 l2 x26_1).f0).length : Int) == a0) l2 (l2.length : Int) (wrap64 (x26_1 + 1))) = some r := by rw [if_pos rfl] at H; exact H
                clear H
                have H := H1
                clear H1
                have H' := Aside0.mk H
                clear H
                have p157 : 0 ≤ (x26_1 : Int) := of_decide_eq_true (by first | (with_reducible assumption) | assumption)
                have q157 : x26_1 < (l2.length : Int) := of_decide_eq_true (by first | (with_reducible assumption) | assumption)
                obtain ⟨ad157, A157_0, c157_0, e157, hx157_0, hx157_1, hl157_0, hi157_0⟩ := at_T37 HR2.out x26_1 p157 q157
                cases e157
                replace hx157_0 := (HB.out.cell (World.block_lt_of_cell? w _ hx157_0)).trans hx157_0
                replace hx157_1 := (HB.out.cell (World.block_lt_of_cell? w _ hx157_1)).trans hx157_1
                have HR157_0 := Aside0.mk hi157_0
                have HC157_0 := Aside0.mk hl157_0
                clear hi157_0 hl157_0
                replace p157 := eq_true p157
                replace q157 := eq_true q157
                go_wp2_with (first | ((with_reducible refine gate_dst (N := 11) rfl ?_); (try (refine gate_guard (by rfl) ?_; dsimp only)); refine box_event ?hg (N := 11) ?hd (cs := #[.slice none 0 0, .int .i64 0]) (t := 37) ?hr ?_; (case hd => rfl); (case hg => rfl); (case hr => first | (go_simp; done) | (go_simp; rfl)); intro gb158 hg w10 hbox hb; have n0_ := Aside0.mk (below_step (by repeat (first | (with_reducible first | exact HB.out | apply below_alloc | apply pw_below_drewN | apply below_drew1) | exact HB.out)) hb); have n1_ := Aside0.mk (hbox); have n2_ := Aside0.mk ((by rw [hg]; exact (below_size (by repeat (first | (with_reducible first | exact HB.out | apply below_alloc | apply pw_below_drewN | apply below_drew1) | exact HB.out))) : w.heap.size ≤ gb158)); have n3_ := Aside0.mk ((by rw [hg]; exact (below_size (by repeat (first | (with_reducible first | exact HB.out | apply below_alloc | apply pw_below_drewN | apply below_drew1) | exact HB.out))) : w.heap.size ≤ gb158)); clear HB; have HB := n0_; have BK158 := n1_; have GW158 := n2_; have GE158 := n3_; clear n0_ n1_ n2_ n3_; clear hb hbox hg; have hcz11_0 : w10.cell? ⟨gb158, 0, none⟩ = some (.slice none 0 0) := (blk_cell BK158.out 0).trans rfl; have hcz11_1 : w10.cell? ⟨gb158, 1, none⟩ = some (.int .i64 0) := (blk_cell BK158.out 1).trans rfl; have hfz11_0 := blk_frozen BK158.out 0; have hfz11_1 := blk_frozen BK158.out 1))
                go_roundg k1
                case measure => have := HK1.out; omega
                case rel => exact ⟨(((((rd_T37 l2 x26_1).f0).length : Int) == a0)), (wrap64 (x26_1 + 1)), (by first | rfl | (simp; done) | (simp [*]; done)), (by first | rfl | (simp; done) | (simp [*]; done)), H', ⟨by have := HK1.out; omega⟩, ⟨by repeat (first | (with_reducible first | exact HB.out | apply below_alloc | apply pw_below_drewN | apply below_drew1 | refine below_set ?_ GE158.out) | exact HB.out)⟩⟩
              · replace c9 := Bool.eq_false_iff.mpr c9
                subst c9
                have H1 : (linear_CheckP.l0 k1 a0 l2 false l2 (l2.length : Int) (wrap64 (x26_1 + 1))) = some r := by rw [if_neg (show ¬ (false = true) by decide)] at H; exact H
                clear H
                have H := H1
                clear H1
                have H' := Aside0.mk H
                clear H
                have p157 : 0 ≤ (x26_1 : Int) := of_decide_eq_true (by first | (with_reducible assumption) | assumption)
                have q157 : x26_1 < (l2.length : Int) := of_decide_eq_true (by first | (with_reducible assumption) | assumption)
                obtain ⟨ad157, A157_0, c157_0, e157, hx157_0, hx157_1, hl157_0, hi157_0⟩ := at_T37 HR2.out x26_1 p157 q157
                cases e157
                replace hx157_0 := (HB.out.cell (World.block_lt_of_cell? w _ hx157_0)).trans hx157_0
                replace hx157_1 := (HB.out.cell (World.block_lt_of_cell? w _ hx157_1)).trans hx157_1
                have HR157_0 := Aside0.mk hi157_0
                have HC157_0 := Aside0.mk hl157_0
                clear hi157_0 hl157_0
                replace p157 := eq_true p157
                replace q157 := eq_true q157
                go_wp2_with (first | ((with_reducible refine gate_dst (N := 11) rfl ?_); (try (refine gate_guard (by rfl) ?_; dsimp only)); refine box_event ?hg (N := 11) ?hd (cs := #[.slice none 0 0, .int .i64 0]) (t := 37) ?hr ?_; (case hd => rfl); (case hg => rfl); (case hr => first | (go_simp; done) | (go_simp; rfl)); intro gb158 hg w12 hbox hb; have n0_ := Aside0.mk (below_step (by repeat (first | (with_reducible first | exact HB.out | apply below_alloc | apply pw_below_drewN | apply below_drew1) | exact HB.out)) hb); have n1_ := Aside0.mk (hbox); have n2_ := Aside0.mk ((by rw [hg]; exact (below_size (by repeat (first | (with_reducible first | exact HB.out | apply below_alloc | apply pw_below_drewN | apply below_drew1) | exact HB.out))) : w.heap.size ≤ gb158)); have n3_ := Aside0.mk ((by rw [hg]; exact (below_size (by repeat (first | (with_reducible first | exact HB.out | apply below_alloc | apply pw_below_drewN | apply below_drew1) | exact HB.out))) : w.heap.size ≤ gb158)); clear HB; have HB := n0_; have BK158 := n1_; have GW158 := n2_; have GE158 := n3_; clear n0_ n1_ n2_ n3_; clear hb hbox hg; have hcz13_0 : w12.cell? ⟨gb158, 0, none⟩ = some (.slice none 0 0) := (blk_cell BK158.out 0).trans rfl; have hcz13_1 : w12.cell? ⟨gb158, 1, none⟩ = some (.int .i64 0) := (blk_cell BK158.out 1).trans rfl; have hfz13_0 := blk_frozen BK158.out 0; have hfz13_1 := blk_frozen BK158.out 1))
                go_roundg k1
                case measure => have := HK1.out; omega
                case rel => exact ⟨(false), (wrap64 (x26_1 + 1)), (by first | rfl | (simp; done) | (simp [*]; done)), (by first | rfl | (simp; done) | (simp [*]; done)), H', ⟨by have := HK1.out; omega⟩, ⟨by repeat (first | (with_reducible first | exact HB.out | apply below_alloc | apply pw_below_drewN | apply below_drew1 | refine below_set ?_ GE158.out) | exact HB.out)⟩⟩
            · rw [if_neg c8] at H
              exact absurd H (by simp)
          · rw [if_neg c7] at H
            exact absurd H (by simp)
        · rw [if_neg c6] at H
          have c6b0 : decide (x26_1 < (l2.length : Int)) = false := decide_eq_false c6
          clear c6
          by_cases c14 : x9_1 = true
          · subst c14
            have H1 : (if (l2.length : Int) = 0 then (some 1) else (if (l2.length : Int) > 64 then (some 1) else (some 0))) = some r := by rw [if_pos rfl] at H; exact H
            clear H
            have H := H1
            clear H1
            by_cases c15 : (l2.length : Int) = 0
            · rw [if_pos c15] at H
              have c15b0 : ((l2.length : Int) == 0) = true := beq_iff_eq.mpr c15
              have c15b1 : ((l2.length : Int) != 0) = false := bne_eq_false_iff_eq.mpr c15
              clear c15
              obtain rfl := Option.some.inj H
              go_wp2
              go_ret
              exact ⟨by first | rfl | (simp [errW_none, errW_some] <;> rfl) | (simp [*, errW_none, errW_some] <;> rfl), by repeat (first | (with_reducible first | exact HB.out | apply below_alloc | apply pw_below_drewN | apply below_drew1) | exact HB.out)⟩
            · rw [if_neg c15] at H
              have c15b0 : ((l2.length : Int) == 0) = false := beq_eq_false_iff_ne.mpr c15
              have c15b1 : ((l2.length : Int) != 0) = true := bne_iff_ne.mpr c15
              have c15b2 : ¬ (l2 = []) := fun h_ => c15 (by rw [h_]; rfl)
              by_cases c16 : (l2.length : Int) > 64
              · rw [if_pos c16] at H
                have c16b0 : decide (64 < (l2.length : Int)) = true := decide_eq_true c16
                have c16b1 : decide (64 < l2.length) = true := decide_eq_true (by omega)
                clear c16
                obtain rfl := Option.some.inj H
                go_wp2
                go_ret
                exact ⟨by first | rfl | (simp [errW_none, errW_some] <;> rfl) | (simp [*, errW_none, errW_some] <;> rfl), by repeat (first | (with_reducible first | exact HB.out | apply below_alloc | apply pw_below_drewN | apply below_drew1) | exact HB.out)⟩
              · rw [if_neg c16] at H
                have c16b0 : decide (64 < (l2.length : Int)) = false := decide_eq_false c16
                have c16b1 : decide (64 < l2.length) = false := decide_eq_false (by omega)
                clear c16
                obtain rfl := Option.some.inj H
                go_wp2
                go_ret
                exact ⟨by first | rfl | (simp [errW_none, errW_some] <;> rfl) | (simp [*, errW_none, errW_some] <;> rfl), by repeat (first | (with_reducible first | exact HB.out | apply below_alloc | apply pw_below_drewN | apply below_drew1) | exact HB.out)⟩
          · replace c14 := Bool.eq_false_iff.mpr c14
            subst c14
            have H1 : (some 4) = some r := by rw [if_neg (show ¬ (false = true) by decide)] at H; exact H
            clear H
            have H := H1
            clear H1
            obtain rfl := Option.some.inj H
            go_wp2
            go_ret
            exact ⟨by first | rfl | (simp [errW_none, errW_some] <;> rfl) | (simp [*, errW_none, errW_some] <;> rfl), by repeat (first | (with_reducible first | exact HB.out | apply below_alloc | apply pw_below_drewN | apply below_drew1) | exact HB.out)⟩
  · rw [if_neg c5] at H
    have c5b0 : (t156 == 0) = false := beq_eq_false_iff_ne.mpr c5
    have c5b1 : (t156 != 0) = true := bne_iff_ne.mpr c5
    obtain rfl := Option.some.inj H
    go_enter Try.func42, Try.ntmps42
    go_wp2_with (first | ((with_reducible refine gate_callee (f := 69) rfl ?_); refine goesL_ (some 14) rfl rfl Try.func69 (by kernel_rfl) rfl #[.int .i64 a0] rfl (by (try simp only [List.map_toArray, List.map_cons, List.map_nil]); first | done | rfl | (simp only [List.length_drop, List.length_take]; rfl)) ?_; (with_reducible refine (linear_Dim.calls a0 t155 t156 _ A4.out).mono ?_); rintro e w' ⟨rfl, ⟨nd, rfl⟩⟩; refine ⟨_, rfl, ?_⟩))
    go_ret
    exact ⟨by first | rfl | (simp [errW_none, errW_some] <;> rfl) | (simp [*, errW_none, errW_some] <;> rfl), by repeat (first | (with_reducible first | exact HB.out | apply below_alloc | apply pw_below_drewN | apply below_drew1) | exact HB.out)⟩

theorem linear_CheckP.loop (x0 : Int) (x2 : List S37) (hb : x2.length ≤ 9223372036854775807) : ∀ (d i : Nat) (b : Bool), d + i = x2.length →
    linear_CheckP.l0 (d + 1) x0 x2 b x2 (x2.length : Int) (i : Int) = some (fitsGo x0 (x2.drop i) x2.length b) := by
  intro d
  induction d with
  | zero =>
    intro i b hd
    rw [linear_CheckP.l0, if_neg (by omega), List.drop_eq_nil_of_le (by omega)]
    by_cases c : b = true
    · rw [if_pos c, c, fitsGo_nil]
      by_cases c2 : (x2.length : Int) = 0
      · rw [if_pos c2, if_pos (by omega)]
      · rw [if_neg c2]
        by_cases c3 : (x2.length : Int) > 64
        · rw [if_pos c3, if_pos (by omega)]
        · rw [if_neg c3, if_neg (by omega)]
    · rw [if_neg c, Bool.eq_false_iff.2 c, fitsGo_false]
  | succ d ih =>
    intro i b hd
    have hi : i < x2.length := by omega
    rw [linear_CheckP.l0, if_pos (by omega), if_pos (by omega), if_pos (by omega), rd_sm hi, List.drop_eq_getElem_cons hi, wrap64_of (by unfold I64; omega), show (i : Int) + 1 = ((i + 1 : Nat) : Int) by omega, ih (i + 1) _ (by omega), ih (i + 1) _ (by omega)]
    by_cases c : b = true
    · rw [if_pos c, c, fitsGo_cons]
    · rw [if_neg c, Bool.eq_false_iff.2 c, fitsGo_false, fitsGo_false]
def linear_Check.f (a0 : Int) (l1 : List Int) (l2 : List S37) : Option Int := some (checkL a0 l1 (l2.map sm))
theorem linear_Check.calls (a0 : Int) (A1 : Option Addr) (c1 : Nat) (l1 : List Int) (A2 : Option Addr) (c2 : Nat) (l2 : List (S37)) (r : Int) (w : World) (hr1 : Kd.C (Kd.int .i64) w A1 l1.length l1) (hc1 : l1.length ≤ c1) (hr2 : Kd.C k37 w A2 l2.length l2) (hc2 : l2.length ≤ c2) (h : linear_Check.f a0 l1 l2 = some r) :
    Calls Try.prog 42 #[.int .i64 a0, .slice A1 l1.length c1, .slice A2 l2.length c2] w fun e w' => e = .returned (.int .i64 r) ∧ Below w.heap.size w w' := by
  have hm := Kd.C_max hr2
  refine linear_CheckP.calls (l2.length + 1) a0 A1 c1 l1 A2 c2 l2 r w hr1 hc1 hr2 hc2 (Eq.trans ?_ h)
  unfold linear_CheckP.f linear_Check.f
  rw [linear_Dim.of, checkL_sm]
  unfold dimL
  simp only [Option.bind_some]
  by_cases c : a0 < 1 ∨ a0 > 16
  · rw [if_pos c, if_pos c]; rfl
  · rw [if_neg c, if_neg c]
    simp only [if_true]
    exact linear_CheckP.loop a0 l2 hm l2.length 0 _ (by omega)


/-! ### model_straight_fits: function 117 -/
def model_straight_fits.f (a0_0 : Int) (a0_1 : Int) (a0_2 : Int) (a0_3 : Int) (a0_4 : Int) (l1 : List Int) (l2 : List (S37)) : Option (Int) := (linear_Check.f a0_1 l1 l2).bind fun t160 => (some t160)
set_option maxHeartbeats 8000000 in
set_option maxRecDepth 100000 in
theorem model_straight_fits.calls (a0_0 : Int) (a0_1 : Int) (a0_2 : Int) (a0_3 : Int) (a0_4 : Int) (A1 : Option Addr) (c1 : Nat) (l1 : List Int) (A2 : Option Addr) (c2 : Nat) (l2 : List (S37)) (r : Int) (w : World) (hr1 : Kd.C (Kd.int .i64) w A1 l1.length l1) (hc1 : l1.length ≤ c1) (hr2 : Kd.C k37 w A2 l2.length l2) (hc2 : l2.length ≤ c2) (h : model_straight_fits.f a0_0 a0_1 a0_2 a0_3 a0_4 l1 l2 = some r) :
    Calls Try.prog 117 #[.agg #[.int .i64 a0_0, .int .i64 a0_1, .int .i64 a0_2, .int .i64 a0_3, .int .i64 a0_4], .slice A1 l1.length c1, .slice A2 l2.length c2] w fun e w' => e = .returned (.int .i64 r) ∧ Below w.heap.size w w' := by
  have hu86 := Try.underlying86
  have HR1 := Aside0.mk hr1
  have HC1 := Aside0.mk hc1
  clear hr1 hc1
  have HR2 := Aside0.mk hr2
  have HC2 := Aside0.mk hc2
  clear hr2 hc2
  have HB := Aside0.mk (Below.refl w.heap.size w)
  have H : ((linear_Check.f a0_1 l1 l2).bind fun t160 => (some t160)) = some r := h
  clear h
  replace H := Option.bind_eq_some_iff.mp H
  obtain ⟨t160, A40, H⟩ := H
  replace H : (some t160) = some r := H
  have A4 := Aside0.mk A40
  clear A40
  obtain rfl := Option.some.inj H
  go_enter Try.func117, Try.ntmps117
  go_wp2_with (first | ((with_reducible refine gate_dst (N := 3) rfl ?_); refine box_event ?hg (N := 3) ?hd (cs := #[.int .i64 a0_0, .int .i64 a0_1, .int .i64 a0_2, .int .i64 a0_3, .int .i64 a0_4]) (t := 86) ?hr ?_; (case hd => rfl); (case hg => rfl); (case hr => first | (go_simp; done) | (go_simp; rfl)); intro gb159 hg w5 hbox hb; have n0_ := Aside0.mk (below_step (by repeat (first | (with_reducible first | exact HB.out | apply below_alloc | apply pw_below_drewN | apply below_drew1) | exact HB.out)) hb); have n1_ := Aside0.mk (hbox); have n2_ := Aside0.mk ((by rw [hg]; exact (below_size (by repeat (first | (with_reducible first | exact HB.out | apply below_alloc | apply pw_below_drewN | apply below_drew1) | exact HB.out))) : w.heap.size ≤ gb159)); have n3_ := Aside0.mk ((by rw [hg]; exact (below_size (by repeat (first | (with_reducible first | exact HB.out | apply below_alloc | apply pw_below_drewN | apply below_drew1) | exact HB.out))) : w.heap.size ≤ gb159)); clear HB; have HB := n0_; have BK159 := n1_; have GW159 := n2_; have GE159 := n3_; clear n0_ n1_ n2_ n3_; clear hb hbox hg; have hcz6_0 : w5.cell? ⟨gb159, 0, none⟩ = some (.int .i64 a0_0) := (blk_cell BK159.out 0).trans rfl; have hcz6_1 : w5.cell? ⟨gb159, 1, none⟩ = some (.int .i64 a0_1) := (blk_cell BK159.out 1).trans rfl; have hcz6_2 : w5.cell? ⟨gb159, 2, none⟩ = some (.int .i64 a0_2) := (blk_cell BK159.out 2).trans rfl; have hcz6_3 : w5.cell? ⟨gb159, 3, none⟩ = some (.int .i64 a0_3) := (blk_cell BK159.out 3).trans rfl; have hcz6_4 : w5.cell? ⟨gb159, 4, none⟩ = some (.int .i64 a0_4) := (blk_cell BK159.out 4).trans rfl; have hfz6_0 := blk_frozen BK159.out 0; have hfz6_1 := blk_frozen BK159.out 1; have hfz6_2 := blk_frozen BK159.out 2; have hfz6_3 := blk_frozen BK159.out 3; have hfz6_4 := blk_frozen BK159.out 4) | ((with_reducible refine gate_callee (f := 42) rfl ?_); refine goesL_ (some 12) rfl rfl Try.func42 (by kernel_rfl) rfl #[.int .i64 a0_1, .slice A1 l1.length c1, .slice A2 l2.length c2] rfl (by (try simp only [List.map_toArray, List.map_cons, List.map_nil]); first | done | rfl | (simp only [List.length_drop, List.length_take]; rfl)) ?_; (with_reducible refine (linear_Check.calls a0_1 _ _ l1 _ _ l2 t160 _ ?side1 ?side2 ?side3 ?side4 A4.out).mono ?_); (case side1 => repeat (first | exact (Kd.C_below HR1.out HB.out) | (with_reducible refine Kd.C_alloc ?_ _) | (with_reducible refine Kd.C_drewN ?_ _) | (with_reducible refine Kd.C_drew ?_))); (case side2 => exact HC1.out); (case side3 => repeat (first | exact (Kd.C_below HR2.out HB.out) | (with_reducible refine Kd.C_alloc ?_ _) | (with_reducible refine Kd.C_drewN ?_ _) | (with_reducible refine Kd.C_drew ?_))); (case side4 => exact HC2.out); rintro e w7 ⟨rfl, hb⟩; refine ⟨_, rfl, ?_⟩; have n0_ := Aside0.mk (blk_below (g := gb159) (o := .cells #[.int .i64 a0_0, .int .i64 a0_1, .int .i64 a0_2, .int .i64 a0_3, .int .i64 a0_4] 86 (0, 0)) (by (with_reducible repeat (first | refine blk_drewN ?_ _ | refine blk_drew ?_ | refine blk_alloc ?_ _)); exact BK159.out) hb); have n1_ := Aside0.mk (below_step (by repeat (first | (with_reducible first | exact HB.out | apply below_alloc | apply pw_below_drewN | apply below_drew1 | refine below_set ?_ GE159.out) | exact HB.out)) hb); clear BK159; clear HB; have BK159 := n0_; have HB := n1_; clear n0_ n1_; (try clear hb); (try clear hb2); (try clear hk); (try clear hi)))
  go_ret
  exact ⟨by first | rfl | (simp [errW_none, errW_some] <;> rfl) | (simp [*, errW_none, errW_some] <;> rfl), by repeat (first | (with_reducible first | exact HB.out | apply below_alloc | apply pw_below_drewN | apply below_drew1 | refine below_set ?_ GE159.out) | exact HB.out)⟩

/-! ### model_classes_fits: function 122 -/
def model_classes_fits.f (a0_0 : Int) (a0_1 : Int) (a0_2 : Int) (a0_3 : Int) (a0_4 : Int) (l1 : List Int) (l2 : List (S37)) : Option (Int) := (soft_Check.f a0_1 a0_2 l1 l2).bind fun t162 => (some t162)
set_option maxHeartbeats 8000000 in
set_option maxRecDepth 100000 in
theorem model_classes_fits.calls (a0_0 : Int) (a0_1 : Int) (a0_2 : Int) (a0_3 : Int) (a0_4 : Int) (A1 : Option Addr) (c1 : Nat) (l1 : List Int) (A2 : Option Addr) (c2 : Nat) (l2 : List (S37)) (r : Int) (w : World) (hr1 : Kd.C (Kd.int .i64) w A1 l1.length l1) (hc1 : l1.length ≤ c1) (hr2 : Kd.C k37 w A2 l2.length l2) (hc2 : l2.length ≤ c2) (h : model_classes_fits.f a0_0 a0_1 a0_2 a0_3 a0_4 l1 l2 = some r) :
    Calls Try.prog 122 #[.agg #[.int .i64 a0_0, .int .i64 a0_1, .int .i64 a0_2, .int .i64 a0_3, .int .i64 a0_4], .slice A1 l1.length c1, .slice A2 l2.length c2] w fun e w' => e = .returned (.int .i64 r) ∧ Below w.heap.size w w' := by
  have hu87 := Try.underlying87
  have HR1 := Aside0.mk hr1
  have HC1 := Aside0.mk hc1
  clear hr1 hc1
  have HR2 := Aside0.mk hr2
  have HC2 := Aside0.mk hc2
  clear hr2 hc2
  have HB := Aside0.mk (Below.refl w.heap.size w)
  have H : ((soft_Check.f a0_1 a0_2 l1 l2).bind fun t162 => (some t162)) = some r := h
  clear h
  replace H := Option.bind_eq_some_iff.mp H
  obtain ⟨t162, A40, H⟩ := H
  replace H : (some t162) = some r := H
  have A4 := Aside0.mk A40
  clear A40
  obtain rfl := Option.some.inj H
  go_enter Try.func122, Try.ntmps122
  go_wp2_with (first | ((with_reducible refine gate_dst (N := 3) rfl ?_); refine box_event ?hg (N := 3) ?hd (cs := #[.int .i64 a0_0, .int .i64 a0_1, .int .i64 a0_2, .int .i64 a0_3, .int .i64 a0_4]) (t := 87) ?hr ?_; (case hd => rfl); (case hg => rfl); (case hr => first | (go_simp; done) | (go_simp; rfl)); intro gb161 hg w5 hbox hb; have n0_ := Aside0.mk (below_step (by repeat (first | (with_reducible first | exact HB.out | apply below_alloc | apply pw_below_drewN | apply below_drew1) | exact HB.out)) hb); have n1_ := Aside0.mk (hbox); have n2_ := Aside0.mk ((by rw [hg]; exact (below_size (by repeat (first | (with_reducible first | exact HB.out | apply below_alloc | apply pw_below_drewN | apply below_drew1) | exact HB.out))) : w.heap.size ≤ gb161)); have n3_ := Aside0.mk ((by rw [hg]; exact (below_size (by repeat (first | (with_reducible first | exact HB.out | apply below_alloc | apply pw_below_drewN | apply below_drew1) | exact HB.out))) : w.heap.size ≤ gb161)); clear HB; have HB := n0_; have BK161 := n1_; have GW161 := n2_; have GE161 := n3_; clear n0_ n1_ n2_ n3_; clear hb hbox hg; have hcz6_0 : w5.cell? ⟨gb161, 0, none⟩ = some (.int .i64 a0_0) := (blk_cell BK161.out 0).trans rfl; have hcz6_1 : w5.cell? ⟨gb161, 1, none⟩ = some (.int .i64 a0_1) := (blk_cell BK161.out 1).trans rfl; have hcz6_2 : w5.cell? ⟨gb161, 2, none⟩ = some (.int .i64 a0_2) := (blk_cell BK161.out 2).trans rfl; have hcz6_3 : w5.cell? ⟨gb161, 3, none⟩ = some (.int .i64 a0_3) := (blk_cell BK161.out 3).trans rfl; have hcz6_4 : w5.cell? ⟨gb161, 4, none⟩ = some (.int .i64 a0_4) := (blk_cell BK161.out 4).trans rfl; have hfz6_0 := blk_frozen BK161.out 0; have hfz6_1 := blk_frozen BK161.out 1; have hfz6_2 := blk_frozen BK161.out 2; have hfz6_3 := blk_frozen BK161.out 3; have hfz6_4 := blk_frozen BK161.out 4) | ((with_reducible refine gate_callee (f := 57) rfl ?_); refine goesL_ (some 15) rfl rfl Try.func57 (by kernel_rfl) rfl #[.int .i64 a0_1, .int .i64 a0_2, .slice A1 l1.length c1, .slice A2 l2.length c2] rfl (by (try simp only [List.map_toArray, List.map_cons, List.map_nil]); first | done | rfl | (simp only [List.length_drop, List.length_take]; rfl)) ?_; (with_reducible refine (soft_Check.calls a0_1 a0_2 _ _ l1 _ _ l2 t162 _ ?side1 ?side2 ?side3 ?side4 A4.out).mono ?_); (case side1 => repeat (first | exact (Kd.C_below HR1.out HB.out) | (with_reducible refine Kd.C_alloc ?_ _) | (with_reducible refine Kd.C_drewN ?_ _) | (with_reducible refine Kd.C_drew ?_))); (case side2 => exact HC1.out); (case side3 => repeat (first | exact (Kd.C_below HR2.out HB.out) | (with_reducible refine Kd.C_alloc ?_ _) | (with_reducible refine Kd.C_drewN ?_ _) | (with_reducible refine Kd.C_drew ?_))); (case side4 => exact HC2.out); rintro e w7 ⟨rfl, hb⟩; refine ⟨_, rfl, ?_⟩; have n0_ := Aside0.mk (blk_below (g := gb161) (o := .cells #[.int .i64 a0_0, .int .i64 a0_1, .int .i64 a0_2, .int .i64 a0_3, .int .i64 a0_4] 87 (0, 0)) (by (with_reducible repeat (first | refine blk_drewN ?_ _ | refine blk_drew ?_ | refine blk_alloc ?_ _)); exact BK161.out) hb); have n1_ := Aside0.mk (below_step (by repeat (first | (with_reducible first | exact HB.out | apply below_alloc | apply pw_below_drewN | apply below_drew1 | refine below_set ?_ GE161.out) | exact HB.out)) hb); clear BK161; clear HB; have BK161 := n0_; have HB := n1_; clear n0_ n1_; (try clear hb); (try clear hb2); (try clear hk); (try clear hi)))
  go_ret
  exact ⟨by first | rfl | (simp [errW_none, errW_some] <;> rfl) | (simp [*, errW_none, errW_some] <;> rfl), by repeat (first | (with_reducible first | exact HB.out | apply below_alloc | apply pw_below_drewN | apply below_drew1 | refine below_set ?_ GE161.out) | exact HB.out)⟩

-- NOT PRINTED: function 66 (mlp_Check_1)

/-! ### mlp_Check: function 39 -/
set_option maxHeartbeats 4000000 in
set_option maxRecDepth 100000 in
theorem mlp_Check_1.calls (b1 : Nat) (A : Option Addr) (c : Nat) (x : List Int) (y n : Int) (W : World) (hb : W.heap[b1]? = some (.cells #[.int .i64 n] 3 (0, 0))) :
    Calls Try.prog 66 (#[.agg #[.slice A x.length c, .int .i64 y]] ++ #[.pointer (some ⟨b1, 0, none⟩)]) W fun ed W' => ed = .returned (.bool ((x.length : Int) != n)) ∧ Below W.heap.size W W' := by
  have hu := Try.underlying37
  have hlt := blk_lt hb
  have hc : W.cell? ⟨b1, 0, none⟩ = some (.int .i64 n) := (blk_cell hb 0).trans rfl
  go_enter Try.func66, Try.ntmps66
  go_wp2
  go_ret
  exact ⟨rfl, below_alloc (Below.refl _ _) _⟩
def mlp_Check.f (a0 a1 : Int) (l2 : List Int) (l3 : List S37) : Option Int := some (checkM a0 a1 l2 (l3.map sm))
theorem checkM_any (a0 a1 : Int) (l2 : List Int) (l3 : List S37) : checkM a0 a1 l2 (l3.map sm) =
    if (dimM a0 a1).2 ≠ 0 then 1 else if (l2.length : Int) ≠ (dimM a0 a1).1 ∨ (l3.any fun s => (s.f0.length : Int) != a0) = true then 4 else
    if l3.length = 0 ∨ l3.length > 64 then 1 else 0 := by
  unfold checkM
  have h1 : (¬ ∀ s ∈ l3.map sm, (s.1.length : Int) = a0) ↔ (l3.any fun s => (s.f0.length : Int) != a0) = true := by
    simp [List.any_eq_true, sm]
  rw [List.length_map]
  simp only [h1]
set_option maxHeartbeats 8000000 in
set_option maxRecDepth 100000 in
theorem mlp_Check.calls (a0 : Int) (a1 : Int) (A2 : Option Addr) (c2 : Nat) (l2 : List Int) (A3 : Option Addr) (c3 : Nat) (l3 : List (S37)) (r : Int) (w : World) (hr2 : Kd.C (Kd.int .i64) w A2 l2.length l2) (hc2 : l2.length ≤ c2) (hr3 : Kd.C k37 w A3 l3.length l3) (hc3 : l3.length ≤ c3) (h : mlp_Check.f a0 a1 l2 l3 = some r) :
    Calls Try.prog 39 #[.int .i64 a0, .int .i64 a1, .slice A2 l2.length c2, .slice A3 l3.length c3] w fun e w' => e = .returned (.int .i64 r) ∧ Below w.heap.size w w' := by
  have hu := Try.underlying26
  have h := Option.some.inj h
  rw [checkM_any] at h
  have A0 := mlp_Dim.is a0 a1
  have hd1 := @dimM_bad a0 a1
  generalize dimM a0 a1 = p at A0 h hd1
  obtain ⟨d, e⟩ := p
  simp only [] at h hd1
  have A0 := Aside0.mk A0
  have HR3 := Aside0.mk hr3
  have HC3 := Aside0.mk hc3
  have hB2 : Below w.heap.size w (w.alloc (.cells #[.int .i64 a0] 3)) := below_alloc (Below.refl _ _) _
  have HB := Aside0.mk hB2
  have bI := Aside0.mk (Boxed.new w 3 (.int .i64 a0))
  clear hr3 hc3 hB2
  have hci := bI.out.cell
  by_cases he : e = 0
  · rw [if_neg (not_not_intro he)] at h
    subst he
    clear hd1
    obtain ⟨q1, hq1⟩ : ∃ b, (l3.any fun s : S37 => (s.f0.length : Int) != a0) = b := ⟨_, rfl⟩
    rw [hq1] at h
    have Q1 := Aside0.mk hq1
    clear hq1
    by_cases hl : (l2.length : Int) = d
    · have hl0 : ((l2.length : Int) != d) = false := bne_eq_false_iff_eq.2 hl
      cases q1 with
      | true =>
        rw [if_pos (.inr rfl)] at h
        subst h
        clear hl
        go_enter Try.func39, Try.ntmps39
        go_wp2_with (first | (go_at_call 63; (with_reducible refine (mlp_Dim.calls a0 a1 _ _ _ A0.out).mono ?_); rintro ed W1 ⟨rfl, hdr⟩; have HB1 := Aside0.mk (below_then HB.out HB.out.size hdr.below); have bI1 := Aside0.mk (blk_below bI.out hdr.below); clear hdr) | (go_at_call 65; refine (slices_ContainsFuncS.calls 66 #[.pointer (some ⟨w.heap.size, 0, none⟩)] (fun s => (s.f0.length : Int) != a0) A3 c3 l3 W1 (enters_of Try.func66 (by kernel_rfl) rfl) (Kd.C_below HR3.out HB1.out) HC3.out (fun W x A c hb h0 h1 => mlp_Check_1.calls w.heap.size A c x.f0 x.f1 a0 W (blk_below bI1.out hb))).mono ?_; rintro ed W2 ⟨rfl, hb⟩; rw [Q1.out]; have HB2 := Aside0.mk (below_then HB1.out HB1.out.size hb); clear hb))
        go_ret
        exact ⟨rfl, HB2.out⟩
      | false =>
        rw [if_neg (show ¬ ((l2.length : Int) ≠ d ∨ false = true) from fun h => h.elim (fun h => h hl) (fun h => by cases h))] at h
        clear hl
        by_cases z : l3.length = 0
        · rw [if_pos (.inl z)] at h
          subst h
          have z0 : ((l3.length : Int) == 0) = true := by rw [z]; rfl
          clear z
          go_enter Try.func39, Try.ntmps39
          go_wp2_with (first | (go_at_call 63; (with_reducible refine (mlp_Dim.calls a0 a1 _ _ _ A0.out).mono ?_); rintro ed W1 ⟨rfl, hdr⟩; have HB1 := Aside0.mk (below_then HB.out HB.out.size hdr.below); have bI1 := Aside0.mk (blk_below bI.out hdr.below); clear hdr) | (go_at_call 65; refine (slices_ContainsFuncS.calls 66 #[.pointer (some ⟨w.heap.size, 0, none⟩)] (fun s => (s.f0.length : Int) != a0) A3 c3 l3 W1 (enters_of Try.func66 (by kernel_rfl) rfl) (Kd.C_below HR3.out HB1.out) HC3.out (fun W x A c hb h0 h1 => mlp_Check_1.calls w.heap.size A c x.f0 x.f1 a0 W (blk_below bI1.out hb))).mono ?_; rintro ed W2 ⟨rfl, hb⟩; rw [Q1.out]; have HB2 := Aside0.mk (below_then HB1.out HB1.out.size hb); clear hb))
          go_ret
          exact ⟨rfl, HB2.out⟩
        · have z0 : ((l3.length : Int) == 0) = false := beq_eq_false_iff_ne.2 (by omega)
          by_cases z1 : l3.length > 64
          · rw [if_pos (.inr z1)] at h
            subst h
            have z2 : ((l3.length : Int) > 64) := by omega
            clear z z1
            go_enter Try.func39, Try.ntmps39
            go_wp2_with (first | (go_at_call 63; (with_reducible refine (mlp_Dim.calls a0 a1 _ _ _ A0.out).mono ?_); rintro ed W1 ⟨rfl, hdr⟩; have HB1 := Aside0.mk (below_then HB.out HB.out.size hdr.below); have bI1 := Aside0.mk (blk_below bI.out hdr.below); clear hdr) | (go_at_call 65; refine (slices_ContainsFuncS.calls 66 #[.pointer (some ⟨w.heap.size, 0, none⟩)] (fun s => (s.f0.length : Int) != a0) A3 c3 l3 W1 (enters_of Try.func66 (by kernel_rfl) rfl) (Kd.C_below HR3.out HB1.out) HC3.out (fun W x A c hb h0 h1 => mlp_Check_1.calls w.heap.size A c x.f0 x.f1 a0 W (blk_below bI1.out hb))).mono ?_; rintro ed W2 ⟨rfl, hb⟩; rw [Q1.out]; have HB2 := Aside0.mk (below_then HB1.out HB1.out.size hb); clear hb))
            go_ret
            exact ⟨rfl, HB2.out⟩
          · have z2 : ¬ ((l3.length : Int) > 64) := by omega
            rw [if_neg (show ¬ (l3.length = 0 ∨ l3.length > 64) from fun h => h.elim z z1)] at h
            subst h
            clear z z1
            go_enter Try.func39, Try.ntmps39
            go_wp2_with (first | (go_at_call 63; (with_reducible refine (mlp_Dim.calls a0 a1 _ _ _ A0.out).mono ?_); rintro ed W1 ⟨rfl, hdr⟩; have HB1 := Aside0.mk (below_then HB.out HB.out.size hdr.below); have bI1 := Aside0.mk (blk_below bI.out hdr.below); clear hdr) | (go_at_call 65; refine (slices_ContainsFuncS.calls 66 #[.pointer (some ⟨w.heap.size, 0, none⟩)] (fun s => (s.f0.length : Int) != a0) A3 c3 l3 W1 (enters_of Try.func66 (by kernel_rfl) rfl) (Kd.C_below HR3.out HB1.out) HC3.out (fun W x A c hb h0 h1 => mlp_Check_1.calls w.heap.size A c x.f0 x.f1 a0 W (blk_below bI1.out hb))).mono ?_; rintro ed W2 ⟨rfl, hb⟩; rw [Q1.out]; have HB2 := Aside0.mk (below_then HB1.out HB1.out.size hb); clear hb))
            go_ret
            exact ⟨rfl, HB2.out⟩
    · rw [if_pos (.inl hl)] at h
      subst h
      have hl0 : ((l2.length : Int) != d) = true := bne_iff_ne.2 hl
      clear hl
      go_enter Try.func39, Try.ntmps39
      go_wp2_with (first | (go_at_call 63; (with_reducible refine (mlp_Dim.calls a0 a1 _ _ _ A0.out).mono ?_); rintro ed W1 ⟨rfl, hdr⟩; have HB1 := Aside0.mk (below_then HB.out HB.out.size hdr.below); have bI1 := Aside0.mk (blk_below bI.out hdr.below); clear hdr))
      go_ret
      exact ⟨rfl, HB1.out⟩
  · rw [if_pos he] at h
    have he1 := hd1 he
    subst he1
    subst h
    clear hd1 he
    go_enter Try.func39, Try.ntmps39
    go_wp2_with (first | (go_at_call 63; (with_reducible refine (mlp_Dim.calls a0 a1 _ _ _ A0.out).mono ?_); rintro ed W1 ⟨rfl, hdr⟩; have HB1 := Aside0.mk (below_then HB.out HB.out.size hdr.below); have bI1 := Aside0.mk (blk_below bI.out hdr.below); clear hdr))
    go_ret
    exact ⟨rfl, HB1.out⟩


/-! ### model_layers_fits: function 126 -/
def model_layers_fits.f (a0_0 : Int) (a0_1 : Int) (a0_2 : Int) (a0_3 : Int) (a0_4 : Int) (l1 : List Int) (l2 : List (S37)) : Option (Int) := (mlp_Check.f a0_1 a0_3 l1 l2).bind fun t164 => (some t164)
set_option maxHeartbeats 8000000 in
set_option maxRecDepth 100000 in
theorem model_layers_fits.calls (a0_0 : Int) (a0_1 : Int) (a0_2 : Int) (a0_3 : Int) (a0_4 : Int) (A1 : Option Addr) (c1 : Nat) (l1 : List Int) (A2 : Option Addr) (c2 : Nat) (l2 : List (S37)) (r : Int) (w : World) (hr1 : Kd.C (Kd.int .i64) w A1 l1.length l1) (hc1 : l1.length ≤ c1) (hr2 : Kd.C k37 w A2 l2.length l2) (hc2 : l2.length ≤ c2) (h : model_layers_fits.f a0_0 a0_1 a0_2 a0_3 a0_4 l1 l2 = some r) :
    Calls Try.prog 126 #[.agg #[.int .i64 a0_0, .int .i64 a0_1, .int .i64 a0_2, .int .i64 a0_3, .int .i64 a0_4], .slice A1 l1.length c1, .slice A2 l2.length c2] w fun e w' => e = .returned (.int .i64 r) ∧ Below w.heap.size w w' := by
  have hu88 := Try.underlying88
  have HR1 := Aside0.mk hr1
  have HC1 := Aside0.mk hc1
  clear hr1 hc1
  have HR2 := Aside0.mk hr2
  have HC2 := Aside0.mk hc2
  clear hr2 hc2
  have HB := Aside0.mk (Below.refl w.heap.size w)
  have H : ((mlp_Check.f a0_1 a0_3 l1 l2).bind fun t164 => (some t164)) = some r := h
  clear h
  replace H := Option.bind_eq_some_iff.mp H
  obtain ⟨t164, A40, H⟩ := H
  replace H : (some t164) = some r := H
  have A4 := Aside0.mk A40
  clear A40
  obtain rfl := Option.some.inj H
  go_enter Try.func126, Try.ntmps126
  go_wp2_with (first | ((with_reducible refine gate_dst (N := 3) rfl ?_); refine box_event ?hg (N := 3) ?hd (cs := #[.int .i64 a0_0, .int .i64 a0_1, .int .i64 a0_2, .int .i64 a0_3, .int .i64 a0_4]) (t := 88) ?hr ?_; (case hd => rfl); (case hg => rfl); (case hr => first | (go_simp; done) | (go_simp; rfl)); intro gb163 hg w5 hbox hb; have n0_ := Aside0.mk (below_step (by repeat (first | (with_reducible first | exact HB.out | apply below_alloc | apply pw_below_drewN | apply below_drew1) | exact HB.out)) hb); have n1_ := Aside0.mk (hbox); have n2_ := Aside0.mk ((by rw [hg]; exact (below_size (by repeat (first | (with_reducible first | exact HB.out | apply below_alloc | apply pw_below_drewN | apply below_drew1) | exact HB.out))) : w.heap.size ≤ gb163)); have n3_ := Aside0.mk ((by rw [hg]; exact (below_size (by repeat (first | (with_reducible first | exact HB.out | apply below_alloc | apply pw_below_drewN | apply below_drew1) | exact HB.out))) : w.heap.size ≤ gb163)); clear HB; have HB := n0_; have BK163 := n1_; have GW163 := n2_; have GE163 := n3_; clear n0_ n1_ n2_ n3_; clear hb hbox hg; have hcz6_0 : w5.cell? ⟨gb163, 0, none⟩ = some (.int .i64 a0_0) := (blk_cell BK163.out 0).trans rfl; have hcz6_1 : w5.cell? ⟨gb163, 1, none⟩ = some (.int .i64 a0_1) := (blk_cell BK163.out 1).trans rfl; have hcz6_2 : w5.cell? ⟨gb163, 2, none⟩ = some (.int .i64 a0_2) := (blk_cell BK163.out 2).trans rfl; have hcz6_3 : w5.cell? ⟨gb163, 3, none⟩ = some (.int .i64 a0_3) := (blk_cell BK163.out 3).trans rfl; have hcz6_4 : w5.cell? ⟨gb163, 4, none⟩ = some (.int .i64 a0_4) := (blk_cell BK163.out 4).trans rfl; have hfz6_0 := blk_frozen BK163.out 0; have hfz6_1 := blk_frozen BK163.out 1; have hfz6_2 := blk_frozen BK163.out 2; have hfz6_3 := blk_frozen BK163.out 3; have hfz6_4 := blk_frozen BK163.out 4) | ((with_reducible refine gate_callee (f := 39) rfl ?_); refine goesL_ (some 15) rfl rfl Try.func39 (by kernel_rfl) rfl #[.int .i64 a0_1, .int .i64 a0_3, .slice A1 l1.length c1, .slice A2 l2.length c2] rfl (by (try simp only [List.map_toArray, List.map_cons, List.map_nil]); first | done | rfl | (simp only [List.length_drop, List.length_take]; rfl)) ?_; (with_reducible refine (mlp_Check.calls a0_1 a0_3 _ _ l1 _ _ l2 t164 _ ?side1 ?side2 ?side3 ?side4 A4.out).mono ?_); (case side1 => repeat (first | exact (Kd.C_below HR1.out HB.out) | (with_reducible refine Kd.C_alloc ?_ _) | (with_reducible refine Kd.C_drewN ?_ _) | (with_reducible refine Kd.C_drew ?_))); (case side2 => exact HC1.out); (case side3 => repeat (first | exact (Kd.C_below HR2.out HB.out) | (with_reducible refine Kd.C_alloc ?_ _) | (with_reducible refine Kd.C_drewN ?_ _) | (with_reducible refine Kd.C_drew ?_))); (case side4 => exact HC2.out); rintro e w7 ⟨rfl, hb⟩; refine ⟨_, rfl, ?_⟩; have n0_ := Aside0.mk (blk_below (g := gb163) (o := .cells #[.int .i64 a0_0, .int .i64 a0_1, .int .i64 a0_2, .int .i64 a0_3, .int .i64 a0_4] 88 (0, 0)) (by (with_reducible repeat (first | refine blk_drewN ?_ _ | refine blk_drew ?_ | refine blk_alloc ?_ _)); exact BK163.out) hb); have n1_ := Aside0.mk (below_step (by repeat (first | (with_reducible first | exact HB.out | apply below_alloc | apply pw_below_drewN | apply below_drew1 | refine below_set ?_ GE163.out) | exact HB.out)) hb); clear BK163; clear HB; have BK163 := n0_; have HB := n1_; clear n0_ n1_; (try clear hb); (try clear hb2); (try clear hk); (try clear hi)))
  go_ret
  exact ⟨by first | rfl | (simp [errW_none, errW_some] <;> rfl) | (simp [*, errW_none, errW_some] <;> rfl), by repeat (first | (with_reducible first | exact HB.out | apply below_alloc | apply pw_below_drewN | apply below_drew1 | refine below_set ?_ GE163.out) | exact HB.out)⟩

end Go.Proofs.Ytbnfejaeekljcaa.HD
