/- What Go functions do, each as a plain Lean function with the same answers, and the proof of it, in every world: printed by the session's driver over the kit's print, with texts by hand. -/
import Derived.Test.YtfbdalnjijdknaaHTx0
import Derived.Test.YtfbdalnjijdknaaHTx6
import Derived.Test.YtfbdalnjijdknaaHTx12
import Derived.Test.YtfbdalnjijdknaaHTx17
namespace Go.Proofs.Ytfbdalnjijdknaa.HT
open Go.RowKit Go.Proofs.YtfbdalnjijdknaaW.PrintWords Go.Proofs.YtfbdalnjijdknaaW.PrintLast Go.Proofs.YtfbdalnjijdknaaW.PrintMore
attribute [local go_sem] max2_int min2_int max_two min_two max_three min_three max_four min_four   -- for this text's walks alone
open Go.Proofs.Ytfbdalnjijdknaa.Sp
attribute [local go_sem] Go.Proofs.Ytfbdalnjijdknaa.Sp.u64_not
set_option linter.unusedVariables false
set_option linter.unusedSimpArgs false

/-! ### thrumlaw13_TableFalls: function 11 -/
mutual
def thrumlaw13_TableFalls.j0 : Nat → Int → Int → Int → Bool → List Int → Bool → Option (Bool)
  | 0, _, _, _, _, _, _ => none
  | k + 1, x0, x1, x2, x7, x8, x35 => if x35 = true then (some false) else (thrumlaw13_TableFalls.l0 k x0 x1 x2 x7 x8 1)
def thrumlaw13_TableFalls.l0 : Nat → Int → Int → Int → Bool → List Int → Int → Option (Bool)
  | 0, _, _, _, _, _, _ => none
  | k + 1, x0, x1, x2, x7, x8, x9 => if x9 < 17 then (if 0 ≤ x9 then (if x9 < (x8.length : Int) then (if 0 ≤ (wrap64 (x9 - 1)) then (if (wrap64 (x9 - 1)) < (x8.length : Int) then (if (rd x8 x9) ≥ (rd x8 (wrap64 (x9 - 1))) then (some false) else (thrumlaw13_TableFalls.l0 k x0 x1 x2 x7 x8 (wrap64 (x9 + 1)))) else (none)) else (none)) else (none)) else (none)) else (if x1 < x0 then (thrumlaw13_TableFalls.j2 k x1 x0 x2 x7) else (thrumlaw13_TableFalls.j2 k x0 x1 x2 x7))
def thrumlaw13_TableFalls.j2 : Nat → Int → Int → Int → Bool → Option (Bool)
  | 0, _, _, _, _ => none
  | k + 1, x0, x1, x2, x7 => (table_Exp.f x0 x2).bind fun bt214 => ((table_Exp.f x1 x2).bind fun bt216 => (if bt214.2 = 0 then (thrumlaw13_TableFalls.j3 k x0 x2 x7 bt214.1 bt216.1 (bt216.2 != 0)) else (thrumlaw13_TableFalls.j3 k x0 x2 x7 bt214.1 bt216.1 true)))
def thrumlaw13_TableFalls.j3 : Nat → Int → Int → Bool → Int → Int → Bool → Option (Bool)
  | 0, _, _, _, _, _, _ => none
  | k + 1, x0, x2, x7, x10, x12, x72 => if x72 = true then (some x7) else (if 0 ≤ x2 then (if x10 > x12 then (thrumlaw13_TableFalls.j4 k x0 x2 x7 x10 (shl .i64 1 x2) true) else (if x10 < 0 then (thrumlaw13_TableFalls.j4 k x0 x2 x7 x10 (shl .i64 1 x2) true) else (if x12 > (shl .i64 1 x2) then (thrumlaw13_TableFalls.j4 k x0 x2 x7 x10 (shl .i64 1 x2) true) else (if x0 = 0 then (thrumlaw13_TableFalls.j4 k x0 x2 x7 x10 (shl .i64 1 x2) (x10 != (shl .i64 1 x2))) else (thrumlaw13_TableFalls.j4 k x0 x2 x7 x10 (shl .i64 1 x2) false))))) else (none))
def thrumlaw13_TableFalls.j4 : Nat → Int → Int → Bool → Int → Int → Bool → Option (Bool)
  | 0, _, _, _, _, _, _ => none
  | k + 1, x0, x2, x7, x10, x14, x96 => if x96 = true then (some false) else (if x0 < (-4611686018427387904) then (some x7) else ((table_Exp.f (wrap64 (x0 - x14)) x2).bind fun bt218 => (if x7 = true then (if bt218.2 = 0 then (some (bt218.1 == (wrap64 (Int.tdiv x10 2)))) else (some false)) else (some false))))
end
def thrumlaw13_TableFalls.f (k : Nat) (a0 : Int) (a1 : Int) (a2 : Int) : Option (Bool) := (thrumlaw13_live.f).bind fun t206 => (if t206 = true then ((table_Rows.f).bind fun t207 => (if (t207.length : Int) = 17 then (if 0 < (t207.length : Int) then (if (rd t207 0) = 1073741824 then (if 16 < (t207.length : Int) then (thrumlaw13_TableFalls.j0 k a0 a1 a2 t206 t207 ((rd t207 16) != 536870912)) else (none)) else (thrumlaw13_TableFalls.j0 k a0 a1 a2 t206 t207 true)) else (none)) else (thrumlaw13_TableFalls.j0 k a0 a1 a2 t206 t207 true))) else (some false))
theorem thrumlaw13_TableFalls.mono_l : ∀ k, (∀ y0 y1 y2 y3 y4 y5, LeO (thrumlaw13_TableFalls.j0 k y0 y1 y2 y3 y4 y5) (thrumlaw13_TableFalls.j0 (k + 1) y0 y1 y2 y3 y4 y5)) ∧ (∀ y0 y1 y2 y3 y4 y5, LeO (thrumlaw13_TableFalls.l0 k y0 y1 y2 y3 y4 y5) (thrumlaw13_TableFalls.l0 (k + 1) y0 y1 y2 y3 y4 y5)) ∧ (∀ y0 y1 y2 y3, LeO (thrumlaw13_TableFalls.j2 k y0 y1 y2 y3) (thrumlaw13_TableFalls.j2 (k + 1) y0 y1 y2 y3)) ∧ (∀ y0 y1 y2 y3 y4 y5, LeO (thrumlaw13_TableFalls.j3 k y0 y1 y2 y3 y4 y5) (thrumlaw13_TableFalls.j3 (k + 1) y0 y1 y2 y3 y4 y5)) ∧ (∀ y0 y1 y2 y3 y4 y5, LeO (thrumlaw13_TableFalls.j4 k y0 y1 y2 y3 y4 y5) (thrumlaw13_TableFalls.j4 (k + 1) y0 y1 y2 y3 y4 y5))
  | 0 => ⟨fun _ _ _ _ _ _ r h => by simp [thrumlaw13_TableFalls.j0] at h, fun _ _ _ _ _ _ r h => by simp [thrumlaw13_TableFalls.l0] at h, fun _ _ _ _ r h => by simp [thrumlaw13_TableFalls.j2] at h, fun _ _ _ _ _ _ r h => by simp [thrumlaw13_TableFalls.j3] at h, fun _ _ _ _ _ _ r h => by simp [thrumlaw13_TableFalls.j4] at h⟩
  | k + 1 => by
    obtain ⟨ih0, ih1, ih2, ih3, ih4⟩ := thrumlaw13_TableFalls.mono_l k
    refine ⟨?_, ?_, ?_, ?_, ?_⟩
    · intro y0 y1 y2 y3 y4 y5
      unfold thrumlaw13_TableFalls.j0
      repeat' first
      | (with_reducible exact ih0 _ _ _ _ _ _)
      | (with_reducible exact ih1 _ _ _ _ _ _)
      | (with_reducible exact ih2 _ _ _ _)
      | (with_reducible exact ih3 _ _ _ _ _ _)
      | (with_reducible exact ih4 _ _ _ _ _ _)
      | (with_reducible exact LeO.refl _)
      | (with_reducible exact LeO.none _)
      | (with_reducible refine LeO.ite ?_ ?_)
      | (with_reducible refine LeO.bind ?_ (fun _ => ?_))
      | exact ih0 _ _ _ _ _ _
      | exact ih1 _ _ _ _ _ _
      | exact ih2 _ _ _ _
      | exact ih3 _ _ _ _ _ _
      | exact ih4 _ _ _ _ _ _
      | exact LeO.none _
      | refine LeO.ite ?_ ?_
      | refine LeO.bind ?_ (fun _ => ?_)
    · intro y0 y1 y2 y3 y4 y5
      unfold thrumlaw13_TableFalls.l0
      repeat' first
      | (with_reducible exact ih0 _ _ _ _ _ _)
      | (with_reducible exact ih1 _ _ _ _ _ _)
      | (with_reducible exact ih2 _ _ _ _)
      | (with_reducible exact ih3 _ _ _ _ _ _)
      | (with_reducible exact ih4 _ _ _ _ _ _)
      | (with_reducible exact LeO.refl _)
      | (with_reducible exact LeO.none _)
      | (with_reducible refine LeO.ite ?_ ?_)
      | (with_reducible refine LeO.bind ?_ (fun _ => ?_))
      | exact ih0 _ _ _ _ _ _
      | exact ih1 _ _ _ _ _ _
      | exact ih2 _ _ _ _
      | exact ih3 _ _ _ _ _ _
      | exact ih4 _ _ _ _ _ _
      | exact LeO.none _
      | refine LeO.ite ?_ ?_
      | refine LeO.bind ?_ (fun _ => ?_)
    · intro y0 y1 y2 y3
      unfold thrumlaw13_TableFalls.j2
      repeat' first
      | (with_reducible exact ih0 _ _ _ _ _ _)
      | (with_reducible exact ih1 _ _ _ _ _ _)
      | (with_reducible exact ih2 _ _ _ _)
      | (with_reducible exact ih3 _ _ _ _ _ _)
      | (with_reducible exact ih4 _ _ _ _ _ _)
      | (with_reducible exact LeO.refl _)
      | (with_reducible exact LeO.none _)
      | (with_reducible refine LeO.ite ?_ ?_)
      | (with_reducible refine LeO.bind ?_ (fun _ => ?_))
      | exact ih0 _ _ _ _ _ _
      | exact ih1 _ _ _ _ _ _
      | exact ih2 _ _ _ _
      | exact ih3 _ _ _ _ _ _
      | exact ih4 _ _ _ _ _ _
      | exact LeO.none _
      | refine LeO.ite ?_ ?_
      | refine LeO.bind ?_ (fun _ => ?_)
    · intro y0 y1 y2 y3 y4 y5
      unfold thrumlaw13_TableFalls.j3
      repeat' first
      | (with_reducible exact ih0 _ _ _ _ _ _)
      | (with_reducible exact ih1 _ _ _ _ _ _)
      | (with_reducible exact ih2 _ _ _ _)
      | (with_reducible exact ih3 _ _ _ _ _ _)
      | (with_reducible exact ih4 _ _ _ _ _ _)
      | (with_reducible exact LeO.refl _)
      | (with_reducible exact LeO.none _)
      | (with_reducible refine LeO.ite ?_ ?_)
      | (with_reducible refine LeO.bind ?_ (fun _ => ?_))
      | exact ih0 _ _ _ _ _ _
      | exact ih1 _ _ _ _ _ _
      | exact ih2 _ _ _ _
      | exact ih3 _ _ _ _ _ _
      | exact ih4 _ _ _ _ _ _
      | exact LeO.none _
      | refine LeO.ite ?_ ?_
      | refine LeO.bind ?_ (fun _ => ?_)
    · intro y0 y1 y2 y3 y4 y5
      unfold thrumlaw13_TableFalls.j4
      repeat' first
      | (with_reducible exact ih0 _ _ _ _ _ _)
      | (with_reducible exact ih1 _ _ _ _ _ _)
      | (with_reducible exact ih2 _ _ _ _)
      | (with_reducible exact ih3 _ _ _ _ _ _)
      | (with_reducible exact ih4 _ _ _ _ _ _)
      | (with_reducible exact LeO.refl _)
      | (with_reducible exact LeO.none _)
      | (with_reducible refine LeO.ite ?_ ?_)
      | (with_reducible refine LeO.bind ?_ (fun _ => ?_))
      | exact ih0 _ _ _ _ _ _
      | exact ih1 _ _ _ _ _ _
      | exact ih2 _ _ _ _
      | exact ih3 _ _ _ _ _ _
      | exact ih4 _ _ _ _ _ _
      | exact LeO.none _
      | refine LeO.ite ?_ ?_
      | refine LeO.bind ?_ (fun _ => ?_)
theorem thrumlaw13_TableFalls.mono : ∀ a0 a1 a2 k, LeO (thrumlaw13_TableFalls.f k a0 a1 a2) (thrumlaw13_TableFalls.f (k + 1) a0 a1 a2) := by
  intro a0 a1 a2 k
  obtain ⟨ih0, ih1, ih2, ih3, ih4⟩ := thrumlaw13_TableFalls.mono_l k
  unfold thrumlaw13_TableFalls.f
  repeat' first
      | (with_reducible exact ih0 _ _ _ _ _ _)
      | (with_reducible exact ih1 _ _ _ _ _ _)
      | (with_reducible exact ih2 _ _ _ _)
      | (with_reducible exact ih3 _ _ _ _ _ _)
      | (with_reducible exact ih4 _ _ _ _ _ _)
      | (with_reducible exact LeO.refl _)
      | (with_reducible exact LeO.none _)
      | (with_reducible refine LeO.ite ?_ ?_)
      | (with_reducible refine LeO.bind ?_ (fun _ => ?_))
      | exact ih0 _ _ _ _ _ _
      | exact ih1 _ _ _ _ _ _
      | exact ih2 _ _ _ _
      | exact ih3 _ _ _ _ _ _
      | exact ih4 _ _ _ _ _ _
      | exact LeO.none _
      | refine LeO.ite ?_ ?_
      | refine LeO.bind ?_ (fun _ => ?_)
set_option maxHeartbeats 8000000 in
set_option maxRecDepth 100000 in
theorem thrumlaw13_TableFalls.calls (k : Nat) (a0 : Int) (a1 : Int) (a2 : Int) (r : Bool) (w : World) (h : thrumlaw13_TableFalls.f k a0 a1 a2 = some r) :
    Calls Try.prog 11 #[.int .i64 a0, .int .i64 a1, .int .i64 a2] w fun e w' => e = .returned (.bool r) ∧ Below w.heap.size w w' := by
  have HB := Aside0.mk (Below.refl w.heap.size w)
  have H : ((thrumlaw13_live.f).bind fun t206 => (if t206 = true then ((table_Rows.f).bind fun t207 => (if (t207.length : Int) = 17 then (if 0 < (t207.length : Int) then (if (rd t207 0) = 1073741824 then (if 16 < (t207.length : Int) then (thrumlaw13_TableFalls.j0 k a0 a1 a2 t206 t207 ((rd t207 16) != 536870912)) else (none)) else (thrumlaw13_TableFalls.j0 k a0 a1 a2 t206 t207 true)) else (none)) else (thrumlaw13_TableFalls.j0 k a0 a1 a2 t206 t207 true))) else (some false))) = some r := h
  clear h
  replace H := Option.bind_eq_some_iff.mp H
  obtain ⟨t206, A40, H⟩ := H
  replace H : (if t206 = true then ((table_Rows.f).bind fun t207 => (if (t207.length : Int) = 17 then (if 0 < (t207.length : Int) then (if (rd t207 0) = 1073741824 then (if 16 < (t207.length : Int) then (thrumlaw13_TableFalls.j0 k a0 a1 a2 t206 t207 ((rd t207 16) != 536870912)) else (none)) else (thrumlaw13_TableFalls.j0 k a0 a1 a2 t206 t207 true)) else (none)) else (thrumlaw13_TableFalls.j0 k a0 a1 a2 t206 t207 true))) else (some false)) = some r := H
  have A4 := Aside0.mk A40
  clear A40
  by_cases c5 : t206 = true
  · subst c5
    have H1 : ((table_Rows.f).bind fun t207 => (if (t207.length : Int) = 17 then (if 0 < (t207.length : Int) then (if (rd t207 0) = 1073741824 then (if 16 < (t207.length : Int) then (thrumlaw13_TableFalls.j0 k a0 a1 a2 true t207 ((rd t207 16) != 536870912)) else (none)) else (thrumlaw13_TableFalls.j0 k a0 a1 a2 true t207 true)) else (none)) else (thrumlaw13_TableFalls.j0 k a0 a1 a2 true t207 true))) = some r := by rw [if_pos rfl] at H; exact H
    clear H
    have H := H1
    clear H1
    replace H := Option.bind_eq_some_iff.mp H
    obtain ⟨t207, A60, H⟩ := H
    replace H : (if (t207.length : Int) = 17 then (if 0 < (t207.length : Int) then (if (rd t207 0) = 1073741824 then (if 16 < (t207.length : Int) then (thrumlaw13_TableFalls.j0 k a0 a1 a2 true t207 ((rd t207 16) != 536870912)) else (none)) else (thrumlaw13_TableFalls.j0 k a0 a1 a2 true t207 true)) else (none)) else (thrumlaw13_TableFalls.j0 k a0 a1 a2 true t207 true)) = some r := H
    have A6 := Aside0.mk A60
    clear A60
    have HC7 := Aside0.mk H
    clear H
    go_enter Try.func11, Try.ntmps11
    go_upto_region 5 with (first | (go_at_call 48; (with_reducible refine (thrumlaw13_live.calls  true _ A4.out).mono ?_); rintro e w8 ⟨rfl, hb⟩; have n0_ := Aside0.mk (below_step (by repeat (first | (with_reducible first | exact HB.out | apply below_alloc | apply pw_below_drewN | apply below_drew1) | exact HB.out)) hb); clear HB; have HB := n0_; clear n0_; (try clear hb); (try clear hb2); (try clear hk); (try clear hi)) | (go_at_call 59; (with_reducible refine (table_Rows.calls  t207 _ A6.out).mono ?_); rintro e w9 ⟨v208, rfl, ho0, hb⟩; have n0_ := Aside0.mk (Kd.R_lower ho0 (below_size (by repeat (first | (with_reducible first | exact HB.out | apply below_alloc | apply pw_below_drewN | apply below_drew1) | exact HB.out)))); have n1_ := Aside0.mk (below_step (by repeat (first | (with_reducible first | exact HB.out | apply below_alloc | apply pw_below_drewN | apply below_drew1) | exact HB.out)) hb); clear HB; have HO209 := n0_; have HB := n1_; clear n0_ n1_; (try clear hb); (try clear hb2); (try clear hk); (try clear hi); (try clear ho0)))
    repeat (go_quiet (first | (go_at_call 48; (with_reducible refine (thrumlaw13_live.calls  true _ A4.out).mono ?_); rintro e w8 ⟨rfl, hb⟩; have n0_ := Aside0.mk (below_step (by repeat (first | (with_reducible first | exact HB.out | apply below_alloc | apply pw_below_drewN | apply below_drew1) | exact HB.out)) hb); clear HB; have HB := n0_; clear n0_; (try clear hb); (try clear hb2); (try clear hk); (try clear hi)) | (go_at_call 59; (with_reducible refine (table_Rows.calls  t207 _ A6.out).mono ?_); rintro e w9 ⟨v208, rfl, ho0, hb⟩; have n0_ := Aside0.mk (Kd.R_lower ho0 (below_size (by repeat (first | (with_reducible first | exact HB.out | apply below_alloc | apply pw_below_drewN | apply below_drew1) | exact HB.out)))); have n1_ := Aside0.mk (below_step (by repeat (first | (with_reducible first | exact HB.out | apply below_alloc | apply pw_below_drewN | apply below_drew1) | exact HB.out)) hb); clear HB; have HO209 := n0_; have HB := n1_; clear n0_ n1_; (try clear hb); (try clear hb2); (try clear hk); (try clear hi); (try clear ho0))); go_upto_region 5 with (first | (go_at_call 48; (with_reducible refine (thrumlaw13_live.calls  true _ A4.out).mono ?_); rintro e w8 ⟨rfl, hb⟩; have n0_ := Aside0.mk (below_step (by repeat (first | (with_reducible first | exact HB.out | apply below_alloc | apply pw_below_drewN | apply below_drew1) | exact HB.out)) hb); clear HB; have HB := n0_; clear n0_; (try clear hb); (try clear hb2); (try clear hk); (try clear hi)) | (go_at_call 59; (with_reducible refine (table_Rows.calls  t207 _ A6.out).mono ?_); rintro e w9 ⟨v208, rfl, ho0, hb⟩; have n0_ := Aside0.mk (Kd.R_lower ho0 (below_size (by repeat (first | (with_reducible first | exact HB.out | apply below_alloc | apply pw_below_drewN | apply below_drew1) | exact HB.out)))); have n1_ := Aside0.mk (below_step (by repeat (first | (with_reducible first | exact HB.out | apply below_alloc | apply pw_below_drewN | apply below_drew1) | exact HB.out)) hb); clear HB; have HO209 := n0_; have HB := n1_; clear n0_ n1_; (try clear hb); (try clear hb2); (try clear hk); (try clear hi); (try clear ho0))))
    (try simp only [Act.put, List.setIfInBounds_toArray, List.set_cons_zero, List.set_cons_succ])
    go_cut [35] (fun v35 wc => ∃ (kq : Nat) (x35_6 : Bool), v35 = .bool x35_6 ∧ Aside0 (thrumlaw13_TableFalls.j0 kq a0 a1 a2 true t207 x35_6 = some r) ∧ Aside0 (kq ≤ k) ∧ Aside0 (Kd.R (Kd.int .u64) 114 wc w.heap.size (fun _ => True) v208 t207) ∧ Aside0 (Below w.heap.size w wc))
    case first =>
      have H := HC7.out
      clear HC7
      by_cases c10 : (t207.length : Int) = 17
      · rw [if_pos c10] at H
        have c10b0 : ((t207.length : Int) == 17) = true := beq_iff_eq.mpr c10
        have c10b1 : ((t207.length : Int) != 17) = false := bne_eq_false_iff_eq.mpr c10
        clear c10
        (first | rw [c10b0] | (simp only [i64_w, i32_w]; rw [c10b0]) | skip)
        by_cases c11 : 0 < (t207.length : Int)
        · rw [if_pos c11] at H
          have c11b0 : decide (0 < (t207.length : Int)) = true := decide_eq_true c11
          have c11b1 : decide (0 < t207.length) = true := decide_eq_true (by omega)
          clear c11
          by_cases c12 : (rd t207 0) = 1073741824
          · rw [if_pos c12] at H
            have c12b0 : ((rd t207 0) == 1073741824) = true := beq_iff_eq.mpr c12
            have c12b1 : ((rd t207 0) != 1073741824) = false := bne_eq_false_iff_eq.mpr c12
            clear c12
            by_cases c13 : 16 < (t207.length : Int)
            · rw [if_pos c13] at H
              have c13b0 : decide (16 < (t207.length : Int)) = true := decide_eq_true c13
              have c13b1 : decide (16 < t207.length) = true := decide_eq_true (by omega)
              clear c13
              have H' := Aside0.mk H
              clear H
              obtain ⟨Ao14, co14, eo14⟩ := Kd.R_slice HO209.out
              subst eo14
              have p210 : 0 ≤ (0 : Int) := (by omega)
              have q210 : 0 < (t207.length : Int) := of_decide_eq_true (by first | (with_reducible assumption) | assumption)
              obtain ⟨ad210, e210, hx210_0⟩ := Kd.at_int (Kd.R_reads' HO209.out).2.2 0 p210 q210
              cases e210
              have qi210 : (0 < t207.length) = True := eq_true (by omega)
              (try rw [show ((0 : Int)).toNat = 0 from rfl] at hx210_0)
              (try rw [Addr.add_zero'] at hx210_0)
              replace p210 := eq_true p210
              replace q210 := eq_true q210
              have p211 : 0 ≤ (16 : Int) := (by omega)
              have q211 : 16 < (t207.length : Int) := of_decide_eq_true (by first | (with_reducible assumption) | assumption)
              obtain ⟨ad211, e211, hx211_0⟩ := Kd.at_int (Kd.R_reads' HO209.out).2.2 16 p211 q211
              obtain rfl : ad210 = ad211 := (by injection e211)
              (try simp only [show (16 : Int).toNat = 16 from rfl, Nat.reduceMul, Nat.reduceEqDiff, Go.Addr.add, ↓reduceIte] at hx211_0)
              have qi211 : (16 < t207.length) = True := eq_true (by omega)
              (try rw [show ((16 : Int)).toNat = 16 from rfl] at hx211_0)
              replace p211 := eq_true p211
              replace q211 := eq_true q211
              go_wp2
              repeat (go_quiet (fail); try go_wp2)
              go_meet
              case rel => exact ⟨_, (((rd t207 16) != 536870912)), (by first | rfl | (simp; done) | (simp [*]; done)), H', ⟨by first | omega | exact Nat.le_refl _⟩, ⟨by (with_reducible repeat (first | apply Kd.R_alloc | apply Kd.R_drewN | apply Kd.R_drew)); exact HO209.out⟩, ⟨by repeat (first | (with_reducible first | exact HB.out | apply below_alloc | apply pw_below_drewN | apply below_drew1) | exact HB.out)⟩⟩
            · rw [if_neg c13] at H
              exact absurd H (by simp)
          · rw [if_neg c12] at H
            have c12b0 : ((rd t207 0) == 1073741824) = false := beq_eq_false_iff_ne.mpr c12
            have c12b1 : ((rd t207 0) != 1073741824) = true := bne_iff_ne.mpr c12
            have H' := Aside0.mk H
            clear H
            obtain ⟨Ao15, co15, eo15⟩ := Kd.R_slice HO209.out
            subst eo15
            have p210 : 0 ≤ (0 : Int) := (by omega)
            have q210 : 0 < (t207.length : Int) := of_decide_eq_true (by first | (with_reducible assumption) | assumption)
            obtain ⟨ad210, e210, hx210_0⟩ := Kd.at_int (Kd.R_reads' HO209.out).2.2 0 p210 q210
            cases e210
            have qi210 : (0 < t207.length) = True := eq_true (by omega)
            (try rw [show ((0 : Int)).toNat = 0 from rfl] at hx210_0)
            (try rw [Addr.add_zero'] at hx210_0)
            replace p210 := eq_true p210
            replace q210 := eq_true q210
            go_wp2
            repeat (go_quiet (fail); try go_wp2)
            go_meet
            case rel => exact ⟨_, (true), (by first | rfl | (simp; done) | (simp [*]; done)), H', ⟨by first | omega | exact Nat.le_refl _⟩, ⟨by (with_reducible repeat (first | apply Kd.R_alloc | apply Kd.R_drewN | apply Kd.R_drew)); exact HO209.out⟩, ⟨by repeat (first | (with_reducible first | exact HB.out | apply below_alloc | apply pw_below_drewN | apply below_drew1) | exact HB.out)⟩⟩
        · rw [if_neg c11] at H
          exact absurd H (by simp)
      · rw [if_neg c10] at H
        have c10b0 : ((t207.length : Int) == 17) = false := beq_eq_false_iff_ne.mpr c10
        have c10b1 : ((t207.length : Int) != 17) = true := bne_iff_ne.mpr c10
        (first | rw [c10b0] | (simp only [i64_w, i32_w]; rw [c10b0]) | skip)
        have H' := Aside0.mk H
        clear H
        obtain ⟨Ao16, co16, eo16⟩ := Kd.R_slice HO209.out
        subst eo16
        go_wp2
        repeat (go_quiet (fail); try go_wp2)
        go_meet
        case rel => exact ⟨_, (true), (by first | rfl | (simp; done) | (simp [*]; done)), H', ⟨by first | omega | exact Nat.le_refl _⟩, ⟨by (with_reducible repeat (first | apply Kd.R_alloc | apply Kd.R_drewN | apply Kd.R_drew)); exact HO209.out⟩, ⟨by repeat (first | (with_reducible first | exact HB.out | apply below_alloc | apply pw_below_drewN | apply below_drew1) | exact HB.out)⟩⟩
    case rest =>
      clear HC7
      try clear c1
      try clear p2
      try clear q2
      try clear hx2
      try clear qi2
      try clear c5
      try clear c10
      try clear c10b0
      try clear c10b1
      try clear c11
      try clear c11b0
      try clear c11b1
      try clear c12
      try clear c12b0
      try clear c12b1
      try clear c13
      try clear c13b0
      try clear c13b1
      try clear hx210_0
      try clear hx211_0
      try clear p210
      try clear p211
      try clear q210
      try clear q211
      obtain ⟨kq, x35_6, rfl, HA, HJ6, HO_8, HB⟩ := hcut
      cases kq with
      | zero => exact absurd HA.out (by simp [thrumlaw13_TableFalls.j0])
      | succ kj6 =>
        have H := HA.out
        clear HA
        simp only [thrumlaw13_TableFalls.j0] at H
        by_cases c17 : x35_6 = true
        · subst c17
          have H1 : (some false) = some r := by rw [if_pos rfl] at H; exact H
          clear H
          have H := H1
          clear H1
          obtain rfl := Option.some.inj H
          go_wp2
          repeat (go_quiet (fail); try go_wp2)
          go_ret
          exact ⟨by first | rfl | (simp [errW_none, errW_some] <;> rfl) | (simp [*, errW_none, errW_some] <;> rfl), by repeat (first | (with_reducible first | exact HB.out | apply below_alloc | apply pw_below_drewN | apply below_drew1) | exact HB.out)⟩
        · replace c17 := Bool.eq_false_iff.mpr c17
          subst c17
          have H1 : (thrumlaw13_TableFalls.l0 kj6 a0 a1 a2 true t207 1) = some r := by rw [if_neg (show ¬ (false = true) by decide)] at H; exact H
          clear H
          have H := H1
          clear H1
          have H' := Aside0.mk H
          clear H
          go_wp2
          repeat (go_quiet (fail); try go_wp2)
          go_loopg [9] kj6 (fun kq v9 w' => ∃ (x9_2 : Int), v9 = .int .i64 x9_2 ∧ Aside0 (thrumlaw13_TableFalls.l0 kq a0 a1 a2 true t207 x9_2 = some r) ∧ Aside0 (kq ≤ kj6) ∧ Aside0 (Kd.R (Kd.int .u64) 114 w' w.heap.size (fun _ => True) v208 t207) ∧ Aside0 (Below w.heap.size w w'))
          case atStart => exact ⟨(1), (by first | rfl | (simp; done) | (simp [*]; done)), H', ⟨Nat.le_refl _⟩, ⟨by (with_reducible repeat (first | apply Kd.R_alloc | apply Kd.R_drewN | apply Kd.R_drew)); exact HO_8.out⟩, ⟨by repeat (first | (with_reducible first | exact HB.out | apply below_alloc | apply pw_below_drewN | apply below_drew1) | exact HB.out)⟩⟩
          case round =>
            clear H'
            try clear c1
            try clear p2
            try clear q2
            try clear hx2
            try clear qi2
            try clear c5
            try clear c10
            try clear c10b0
            try clear c10b1
            try clear c11
            try clear c11b0
            try clear c11b1
            try clear c12
            try clear c12b0
            try clear c12b1
            try clear c13
            try clear c13b0
            try clear c13b1
            try clear c17
            try clear hx210_0
            try clear hx211_0
            try clear p2
            try clear p210
            try clear p211
            try clear q2
            try clear q210
            try clear q211
            obtain ⟨x9_2, rfl, HA, HK2, HO_8, HB⟩ := hrel
            cases gk with
            | zero => exact absurd HA.out (by simp [thrumlaw13_TableFalls.l0])
            | succ k2 =>
              have H := HA.out
              clear HA
              simp only [thrumlaw13_TableFalls.l0] at H
              by_cases c18 : x9_2 < 17
              · rw [if_pos c18] at H
                have c18b0 : decide (x9_2 < 17) = true := decide_eq_true c18
                clear c18
                by_cases c19 : 0 ≤ x9_2
                · rw [if_pos c19] at H
                  have c19b0 : decide (0 ≤ x9_2) = true := decide_eq_true c19
                  clear c19
                  by_cases c20 : x9_2 < (t207.length : Int)
                  · rw [if_pos c20] at H
                    have c20b0 : decide (x9_2 < (t207.length : Int)) = true := decide_eq_true c20
                    clear c20
                    obtain ⟨ji21, hji21⟩ : ∃ j_ : Int, (wrap64 (x9_2 - 1)) = j_ := ⟨_, rfl⟩
                    replace H : (if 0 ≤ (ji21) then (if (ji21) < (t207.length : Int) then (if (rd t207 x9_2) ≥ (rd t207 (ji21)) then (some false) else (thrumlaw13_TableFalls.l0 k2 a0 a1 a2 true t207 (wrap64 (x9_2 + 1)))) else (none)) else (none)) = some r := by first | (rw [hji21] at H; exact H) | (simp only [hji21] at H ⊢; exact H)
                    have hji21w : (IntKind.i64.wrap (x9_2 - 1)) = ji21 := (i64_w _).trans hji21
                    by_cases c22 : 0 ≤ (ji21)
                    · rw [if_pos c22] at H
                      have c22b0 : decide (0 ≤ (ji21)) = true := decide_eq_true c22
                      clear c22
                      by_cases c23 : (ji21) < (t207.length : Int)
                      · rw [if_pos c23] at H
                        have c23b0 : decide ((ji21) < (t207.length : Int)) = true := decide_eq_true c23
                        clear c23
                        by_cases c24 : (rd t207 x9_2) ≥ (rd t207 (ji21))
                        · rw [if_pos c24] at H
                          have c24b0 : decide ((rd t207 (ji21)) ≤ (rd t207 x9_2)) = true := decide_eq_true c24
                          clear c24
                          obtain rfl := Option.some.inj H
                          obtain ⟨Ao25, co25, eo25⟩ := Kd.R_slice HO_8.out
                          subst eo25
                          have p212 : 0 ≤ (x9_2 : Int) := of_decide_eq_true (by first | (with_reducible assumption) | assumption)
                          have q212 : x9_2 < (t207.length : Int) := of_decide_eq_true (by first | (with_reducible assumption) | assumption)
                          obtain ⟨ad212, e212, hx212_0⟩ := Kd.at_int (Kd.R_reads' HO_8.out).2.2 x9_2 p212 q212
                          cases e212
                          replace p212 := eq_true p212
                          replace q212 := eq_true q212
                          have p213 : 0 ≤ ((ji21) : Int) := of_decide_eq_true (by first | (with_reducible assumption) | assumption)
                          have q213 : (ji21) < (t207.length : Int) := of_decide_eq_true (by first | (with_reducible assumption) | assumption)
                          obtain ⟨ad213, e213, hx213_0⟩ := Kd.at_int (Kd.R_reads' HO_8.out).2.2 (ji21) p213 q213
                          obtain rfl : ad212 = ad213 := (by injection e213)
                          replace p213 := eq_true p213
                          replace q213 := eq_true q213
                          go_wp2
                          repeat (go_quiet (fail); try go_wp2)
                          go_ret
                          exact ⟨by first | rfl | (simp [errW_none, errW_some] <;> rfl) | (simp only [← hji21]; first | rfl | (simp [errW_none, errW_some] <;> rfl)) | (simp [*, errW_none, errW_some] <;> rfl), by repeat (first | (with_reducible first | exact HB.out | apply below_alloc | apply pw_below_drewN | apply below_drew1) | exact HB.out)⟩
                        · rw [if_neg c24] at H
                          have c24b0 : decide ((rd t207 (ji21)) ≤ (rd t207 x9_2)) = false := decide_eq_false c24
                          clear c24
                          have H' := Aside0.mk H
                          clear H
                          obtain ⟨Ao26, co26, eo26⟩ := Kd.R_slice HO_8.out
                          subst eo26
                          have p212 : 0 ≤ (x9_2 : Int) := of_decide_eq_true (by first | (with_reducible assumption) | assumption)
                          have q212 : x9_2 < (t207.length : Int) := of_decide_eq_true (by first | (with_reducible assumption) | assumption)
                          obtain ⟨ad212, e212, hx212_0⟩ := Kd.at_int (Kd.R_reads' HO_8.out).2.2 x9_2 p212 q212
                          cases e212
                          replace p212 := eq_true p212
                          replace q212 := eq_true q212
                          have p213 : 0 ≤ ((ji21) : Int) := of_decide_eq_true (by first | (with_reducible assumption) | assumption)
                          have q213 : (ji21) < (t207.length : Int) := of_decide_eq_true (by first | (with_reducible assumption) | assumption)
                          obtain ⟨ad213, e213, hx213_0⟩ := Kd.at_int (Kd.R_reads' HO_8.out).2.2 (ji21) p213 q213
                          obtain rfl : ad212 = ad213 := (by injection e213)
                          replace p213 := eq_true p213
                          replace q213 := eq_true q213
                          go_wp2
                          repeat (go_quiet (fail); try go_wp2)
                          go_roundg k2
                          case measure => have := HJ6.out; have := HK2.out; omega
                          case rel => exact ⟨(wrap64 (x9_2 + 1)), (by first | rfl | (simp; done) | (simp [*]; done)), H', ⟨by have := HJ6.out; have := HK2.out; omega⟩, ⟨by (with_reducible repeat (first | apply Kd.R_alloc | apply Kd.R_drewN | apply Kd.R_drew)); exact HO_8.out⟩, ⟨by repeat (first | (with_reducible first | exact HB.out | apply below_alloc | apply pw_below_drewN | apply below_drew1) | exact HB.out)⟩⟩
                      · rw [if_neg c23] at H
                        exact absurd H (by simp)
                    · rw [if_neg c22] at H
                      exact absurd H (by simp)
                  · rw [if_neg c20] at H
                    exact absurd H (by simp)
                · rw [if_neg c19] at H
                  exact absurd H (by simp)
              · rw [if_neg c18] at H
                have c18b0 : decide (x9_2 < 17) = false := decide_eq_false c18
                clear c18
                have HC27 := Aside0.mk H
                clear H
                go_upto_if 52 with (fail)
                repeat (go_quiet (fail); go_upto_if 52 with (fail))
                go_cut [0, 1] (fun v0 v1 wc => ∃ (kq : Nat) (x0_26 : Int) (x1_26 : Int), v0 = .int .i64 x0_26 ∧ v1 = .int .i64 x1_26 ∧ Aside0 (thrumlaw13_TableFalls.j2 kq x0_26 x1_26 a2 true = some r) ∧ Aside0 (kq ≤ k2) ∧ Aside0 (Below w.heap.size w wc))
                case first =>
                  have H := HC27.out
                  clear HC27
                  by_cases c28 : a1 < a0
                  · rw [if_pos c28] at H
                    have c28b0 : decide (a1 < a0) = true := decide_eq_true c28
                    clear c28
                    (first | rw [c28b0] | (simp only [i64_w, i32_w]; rw [c28b0]) | skip)
                    have H' := Aside0.mk H
                    clear H
                    go_wp2
                    repeat (go_quiet (fail); try go_wp2)
                    go_meet
                    case rel => exact ⟨_, (a1), (a0), (by first | rfl | (simp; done) | (simp [*]; done)), (by first | rfl | (simp; done) | (simp [*]; done)), H', ⟨by have := HJ6.out; have := HK2.out; first | omega | exact Nat.le_refl _⟩, ⟨by repeat (first | (with_reducible first | exact HB.out | apply below_alloc | apply pw_below_drewN | apply below_drew1) | exact HB.out)⟩⟩
                  · rw [if_neg c28] at H
                    have c28b0 : decide (a1 < a0) = false := decide_eq_false c28
                    clear c28
                    (first | rw [c28b0] | (simp only [i64_w, i32_w]; rw [c28b0]) | skip)
                    have H' := Aside0.mk H
                    clear H
                    go_wp2
                    repeat (go_quiet (fail); try go_wp2)
                    go_meet
                    case rel => exact ⟨_, (a0), (a1), (by first | rfl | (simp; done) | (simp [*]; done)), (by first | rfl | (simp; done) | (simp [*]; done)), H', ⟨by have := HJ6.out; have := HK2.out; first | omega | exact Nat.le_refl _⟩, ⟨by repeat (first | (with_reducible first | exact HB.out | apply below_alloc | apply pw_below_drewN | apply below_drew1) | exact HB.out)⟩⟩
                case rest =>
                  clear HC27
                  try clear c1
                  try clear c2
                  try clear p2
                  try clear q2
                  try clear hx2
                  try clear qi2
                  try clear c5
                  try clear p6
                  try clear c10
                  try clear c10b0
                  try clear c10b1
                  try clear c11
                  try clear c11b0
                  try clear c11b1
                  try clear c12
                  try clear c12b0
                  try clear c12b1
                  try clear c13
                  try clear c13b0
                  try clear c13b1
                  try clear c17
                  try clear c18
                  try clear c18b0
                  try clear c19
                  try clear c19b0
                  try clear c20
                  try clear c20b0
                  try clear p21
                  try clear q21
                  try clear hx21
                  try clear qi21
                  try clear c22
                  try clear c22b0
                  try clear c23
                  try clear c23b0
                  try clear c24
                  try clear c24b0
                  try clear c28
                  try clear c28b0
                  try clear hx210_0
                  try clear hx211_0
                  try clear hx212_0
                  try clear hx213_0
                  try clear p2
                  try clear p210
                  try clear p211
                  try clear p212
                  try clear p213
                  try clear q2
                  try clear q210
                  try clear q211
                  try clear q212
                  try clear q213
                  obtain ⟨kq, x0_26, x1_26, rfl, rfl, HA, HJ26, HB⟩ := hcut
                  cases kq with
                  | zero => exact absurd HA.out (by simp [thrumlaw13_TableFalls.j2])
                  | succ kj26 =>
                    have H := HA.out
                    clear HA
                    simp only [thrumlaw13_TableFalls.j2] at H
                    replace H := Option.bind_eq_some_iff.mp H
                    obtain ⟨⟨t214, t215⟩, A290, H⟩ := H
                    replace H : ((table_Exp.f x1_26 a2).bind fun bt216 => (if t215 = 0 then (thrumlaw13_TableFalls.j3 kj26 x0_26 a2 true t214 bt216.1 (bt216.2 != 0)) else (thrumlaw13_TableFalls.j3 kj26 x0_26 a2 true t214 bt216.1 true))) = some r := H
                    have A29 := Aside0.mk A290
                    clear A290
                    replace H := Option.bind_eq_some_iff.mp H
                    obtain ⟨⟨t216, t217⟩, A300, H⟩ := H
                    replace H : (if t215 = 0 then (thrumlaw13_TableFalls.j3 kj26 x0_26 a2 true t214 t216 (t217 != 0)) else (thrumlaw13_TableFalls.j3 kj26 x0_26 a2 true t214 t216 true)) = some r := H
                    have A30 := Aside0.mk A300
                    clear A300
                    have HC31 := Aside0.mk H
                    clear H
                    go_upto_region 16 with (first | (go_at_call 55; (with_reducible refine (table_Exp.calls x0_26 a2 t214 t215 _ A29.out).mono ?_); rintro e w32 ⟨rfl, hb⟩; have n0_ := Aside0.mk (below_step (by repeat (first | (with_reducible first | exact HB.out | apply below_alloc | apply pw_below_drewN | apply below_drew1) | exact HB.out)) hb); clear HB; have HB := n0_; clear n0_; (try clear hb); (try clear hb2); (try clear hk); (try clear hi)) | (go_at_call 55; (with_reducible refine (table_Exp.calls x1_26 a2 t216 t217 _ A30.out).mono ?_); rintro e w33 ⟨rfl, hb⟩; have n0_ := Aside0.mk (below_step (by repeat (first | (with_reducible first | exact HB.out | apply below_alloc | apply pw_below_drewN | apply below_drew1) | exact HB.out)) hb); clear HB; have HB := n0_; clear n0_; (try clear hb); (try clear hb2); (try clear hk); (try clear hi)))
                    repeat (go_quiet (first | (go_at_call 55; (with_reducible refine (table_Exp.calls x0_26 a2 t214 t215 _ A29.out).mono ?_); rintro e w32 ⟨rfl, hb⟩; have n0_ := Aside0.mk (below_step (by repeat (first | (with_reducible first | exact HB.out | apply below_alloc | apply pw_below_drewN | apply below_drew1) | exact HB.out)) hb); clear HB; have HB := n0_; clear n0_; (try clear hb); (try clear hb2); (try clear hk); (try clear hi)) | (go_at_call 55; (with_reducible refine (table_Exp.calls x1_26 a2 t216 t217 _ A30.out).mono ?_); rintro e w33 ⟨rfl, hb⟩; have n0_ := Aside0.mk (below_step (by repeat (first | (with_reducible first | exact HB.out | apply below_alloc | apply pw_below_drewN | apply below_drew1) | exact HB.out)) hb); clear HB; have HB := n0_; clear n0_; (try clear hb); (try clear hb2); (try clear hk); (try clear hi))); go_upto_region 16 with (first | (go_at_call 55; (with_reducible refine (table_Exp.calls x0_26 a2 t214 t215 _ A29.out).mono ?_); rintro e w32 ⟨rfl, hb⟩; have n0_ := Aside0.mk (below_step (by repeat (first | (with_reducible first | exact HB.out | apply below_alloc | apply pw_below_drewN | apply below_drew1) | exact HB.out)) hb); clear HB; have HB := n0_; clear n0_; (try clear hb); (try clear hb2); (try clear hk); (try clear hi)) | (go_at_call 55; (with_reducible refine (table_Exp.calls x1_26 a2 t216 t217 _ A30.out).mono ?_); rintro e w33 ⟨rfl, hb⟩; have n0_ := Aside0.mk (below_step (by repeat (first | (with_reducible first | exact HB.out | apply below_alloc | apply pw_below_drewN | apply below_drew1) | exact HB.out)) hb); clear HB; have HB := n0_; clear n0_; (try clear hb); (try clear hb2); (try clear hk); (try clear hi))))
                    (try simp only [Act.put, List.setIfInBounds_toArray, List.set_cons_zero, List.set_cons_succ])
                    go_cut [72] (fun v72 wc => ∃ (kq : Nat) (x72_30 : Bool), v72 = .bool x72_30 ∧ Aside0 (thrumlaw13_TableFalls.j3 kq x0_26 a2 true t214 t216 x72_30 = some r) ∧ Aside0 (kq ≤ kj26) ∧ Aside0 (Below w.heap.size w wc))
                    case first =>
                      have H := HC31.out
                      clear HC31
                      by_cases c34 : t215 = 0
                      · rw [if_pos c34] at H
                        have c34b0 : (t215 == 0) = true := beq_iff_eq.mpr c34
                        have c34b1 : (t215 != 0) = false := bne_eq_false_iff_eq.mpr c34
                        clear c34
                        (first | rw [c34b0] | (simp only [i64_w, i32_w]; rw [c34b0]) | skip)
                        have H' := Aside0.mk H
                        clear H
                        go_wp2
                        repeat (go_quiet (fail); try go_wp2)
                        go_meet
                        case rel => exact ⟨_, ((t217 != 0)), (by first | rfl | (simp; done) | (simp [*]; done)), H', ⟨by have := HJ6.out; have := HK2.out; have := HJ26.out; first | omega | exact Nat.le_refl _⟩, ⟨by repeat (first | (with_reducible first | exact HB.out | apply below_alloc | apply pw_below_drewN | apply below_drew1) | exact HB.out)⟩⟩
                      · rw [if_neg c34] at H
                        have c34b0 : (t215 == 0) = false := beq_eq_false_iff_ne.mpr c34
                        have c34b1 : (t215 != 0) = true := bne_iff_ne.mpr c34
                        (first | rw [c34b0] | (simp only [i64_w, i32_w]; rw [c34b0]) | skip)
                        have H' := Aside0.mk H
                        clear H
                        go_wp2
                        repeat (go_quiet (fail); try go_wp2)
                        go_meet
                        case rel => exact ⟨_, (true), (by first | rfl | (simp; done) | (simp [*]; done)), H', ⟨by have := HJ6.out; have := HK2.out; have := HJ26.out; first | omega | exact Nat.le_refl _⟩, ⟨by repeat (first | (with_reducible first | exact HB.out | apply below_alloc | apply pw_below_drewN | apply below_drew1) | exact HB.out)⟩⟩
                    case rest =>
                      clear HC31
                      try clear c1
                      try clear c2
                      try clear p2
                      try clear q2
                      try clear hx2
                      try clear qi2
                      try clear c3
                      try clear c5
                      try clear p6
                      try clear c10
                      try clear c10b0
                      try clear c10b1
                      try clear c11
                      try clear c11b0
                      try clear c11b1
                      try clear c12
                      try clear c12b0
                      try clear c12b1
                      try clear c13
                      try clear c13b0
                      try clear c13b1
                      try clear c17
                      try clear c18
                      try clear c18b0
                      try clear c19
                      try clear c19b0
                      try clear c20
                      try clear c20b0
                      try clear p21
                      try clear q21
                      try clear hx21
                      try clear qi21
                      try clear c22
                      try clear c22b0
                      try clear c23
                      try clear c23b0
                      try clear c24
                      try clear c24b0
                      try clear c28
                      try clear c28b0
                      try clear c34
                      try clear c34b0
                      try clear c34b1
                      try clear hx210_0
                      try clear hx211_0
                      try clear hx212_0
                      try clear hx213_0
                      try clear p2
                      try clear p21
                      try clear p210
                      try clear p211
                      try clear p212
                      try clear p213
                      try clear p6
                      try clear q2
                      try clear q21
                      try clear q210
                      try clear q211
                      try clear q212
                      try clear q213
                      obtain ⟨kq, x72_30, rfl, HA, HJ30, HB⟩ := hcut
                      cases kq with
                      | zero => exact absurd HA.out (by simp [thrumlaw13_TableFalls.j3])
                      | succ kj30 =>
                        have H := HA.out
                        clear HA
                        simp only [thrumlaw13_TableFalls.j3] at H
                        by_cases c35 : x72_30 = true
                        · subst c35
                          have H1 : (some true) = some r := by rw [if_pos rfl] at H; exact H
                          clear H
                          have H := H1
                          clear H1
                          obtain rfl := Option.some.inj H
                          go_wp2
                          repeat (go_quiet (fail); try go_wp2)
                          go_ret
                          exact ⟨by first | rfl | (simp [errW_none, errW_some] <;> rfl) | (simp [*, errW_none, errW_some] <;> rfl), by repeat (first | (with_reducible first | exact HB.out | apply below_alloc | apply pw_below_drewN | apply below_drew1) | exact HB.out)⟩
                        · replace c35 := Bool.eq_false_iff.mpr c35
                          subst c35
                          have H1 : (if 0 ≤ a2 then (if t214 > t216 then (thrumlaw13_TableFalls.j4 kj30 x0_26 a2 true t214 (shl .i64 1 a2) true) else (if t214 < 0 then (thrumlaw13_TableFalls.j4 kj30 x0_26 a2 true t214 (shl .i64 1 a2) true) else (if t216 > (shl .i64 1 a2) then (thrumlaw13_TableFalls.j4 kj30 x0_26 a2 true t214 (shl .i64 1 a2) true) else (if x0_26 = 0 then (thrumlaw13_TableFalls.j4 kj30 x0_26 a2 true t214 (shl .i64 1 a2) (t214 != (shl .i64 1 a2))) else (thrumlaw13_TableFalls.j4 kj30 x0_26 a2 true t214 (shl .i64 1 a2) false))))) else (none)) = some r := by rw [if_neg (show ¬ (false = true) by decide)] at H; exact H
                          clear H
                          have H := H1
                          clear H1
                          by_cases c36 : 0 ≤ a2
                          · rw [if_pos c36] at H
                            have c36b0 := eq_true c36
                            have c36b1 : decide (0 ≤ a2) = true := decide_eq_true c36
                            clear c36
                            obtain ⟨ji37, hji37⟩ : ∃ j_ : Int, (shl .i64 1 a2) = j_ := ⟨_, rfl⟩
                            replace H : (if t214 > t216 then (thrumlaw13_TableFalls.j4 kj30 x0_26 a2 true t214 ji37 true) else (if t214 < 0 then (thrumlaw13_TableFalls.j4 kj30 x0_26 a2 true t214 ji37 true) else (if t216 > (ji37) then (thrumlaw13_TableFalls.j4 kj30 x0_26 a2 true t214 ji37 true) else (if x0_26 = 0 then (thrumlaw13_TableFalls.j4 kj30 x0_26 a2 true t214 ji37 (t214 != (ji37))) else (thrumlaw13_TableFalls.j4 kj30 x0_26 a2 true t214 ji37 false))))) = some r := by first | (rw [hji37] at H; exact H) | (simp only [hji37] at H ⊢; exact H)
                            have hji37_ : (IntKind.i64.wrap (1 * 2 ^ min a2.toNat 64)) = ji37 := hji37
                            have hji37z : a2 ≤ 64 → (IntKind.i64.wrap (1 * 2 ^ a2.toNat)) = ji37 := shl_small hji37
                            have hji37u : (IntKind.i64.wrap (2 ^ min a2.toNat 64)) = ji37 := by have h_ := hji37_; rw [Int.one_mul] at h_; exact h_
                            have hji37v : a2 ≤ 64 → (IntKind.i64.wrap (2 ^ a2.toNat)) = ji37 := fun hle_ => by have h_ := hji37z hle_; rw [Int.one_mul] at h_; exact h_
                            have hji37y : (wrap64 (1 * 2 ^ min a2.toNat 64)) = ji37 := (i64_w _).symm.trans hji37_
                            have hji37x : a2 ≤ 64 → (wrap64 (1 * 2 ^ a2.toNat)) = ji37 := fun h_ => (i64_w _).symm.trans (hji37z h_)
                            have HC38 := Aside0.mk H
                            clear H
                            go_upto_region 19 with (fail)
                            repeat (go_quiet (fail); go_upto_region 19 with (fail))
                            go_cut [96] (fun v96 wc => ∃ (kq : Nat) (x96_37 : Bool), v96 = .bool x96_37 ∧ Aside0 (thrumlaw13_TableFalls.j4 kq x0_26 a2 true t214 ji37 x96_37 = some r) ∧ Aside0 (kq ≤ kj30) ∧ Aside0 (Below w.heap.size w wc))
                            case first =>
                              have H := HC38.out
                              clear HC38
                              by_cases c39 : t214 > t216
                              · rw [if_pos c39] at H
                                have c39b0 : decide (t216 < t214) = true := decide_eq_true c39
                                clear c39
                                (first | rw [c39b0] | (simp only [i64_w, i32_w]; rw [c39b0]) | skip)
                                have H' := Aside0.mk H
                                clear H
                                go_wp2
                                repeat (go_quiet (fail); try go_wp2)
                                go_meet
                                case rel => exact ⟨_, (true), (by first | rfl | (simp; done) | (simp [*]; done)), H', ⟨by have := HJ6.out; have := HK2.out; have := HJ26.out; have := HJ30.out; first | omega | exact Nat.le_refl _⟩, ⟨by repeat (first | (with_reducible first | exact HB.out | apply below_alloc | apply pw_below_drewN | apply below_drew1) | exact HB.out)⟩⟩
                              · rw [if_neg c39] at H
                                have c39b0 : decide (t216 < t214) = false := decide_eq_false c39
                                clear c39
                                (first | rw [c39b0] | (simp only [i64_w, i32_w]; rw [c39b0]) | skip)
                                by_cases c40 : t214 < 0
                                · rw [if_pos c40] at H
                                  have c40b0 : decide (t214 < 0) = true := decide_eq_true c40
                                  clear c40
                                  have H' := Aside0.mk H
                                  clear H
                                  go_wp2
                                  repeat (go_quiet (fail); try go_wp2)
                                  go_meet
                                  case rel => exact ⟨_, (true), (by first | rfl | (simp; done) | (simp [*]; done)), H', ⟨by have := HJ6.out; have := HK2.out; have := HJ26.out; have := HJ30.out; first | omega | exact Nat.le_refl _⟩, ⟨by repeat (first | (with_reducible first | exact HB.out | apply below_alloc | apply pw_below_drewN | apply below_drew1) | exact HB.out)⟩⟩
                                · rw [if_neg c40] at H
                                  have c40b0 : decide (t214 < 0) = false := decide_eq_false c40
                                  clear c40
                                  by_cases c41 : t216 > (ji37)
                                  · rw [if_pos c41] at H
                                    have c41b0 : decide ((ji37) < t216) = true := decide_eq_true c41
                                    clear c41
                                    have H' := Aside0.mk H
                                    clear H
                                    go_wp2
                                    repeat (go_quiet (fail); try go_wp2)
                                    go_meet
                                    case rel => exact ⟨_, (true), (by first | rfl | (simp; done) | (simp [*]; done)), H', ⟨by have := HJ6.out; have := HK2.out; have := HJ26.out; have := HJ30.out; first | omega | exact Nat.le_refl _⟩, ⟨by repeat (first | (with_reducible first | exact HB.out | apply below_alloc | apply pw_below_drewN | apply below_drew1) | exact HB.out)⟩⟩
                                  · rw [if_neg c41] at H
                                    have c41b0 : decide ((ji37) < t216) = false := decide_eq_false c41
                                    clear c41
                                    by_cases c42 : x0_26 = 0
                                    · rw [if_pos c42] at H
                                      have c42b0 : (x0_26 == 0) = true := beq_iff_eq.mpr c42
                                      have c42b1 : (x0_26 != 0) = false := bne_eq_false_iff_eq.mpr c42
                                      clear c42
                                      have H' := Aside0.mk H
                                      clear H
                                      go_wp2
                                      repeat (go_quiet (fail); try go_wp2)
                                      go_meet
                                      case rel => exact ⟨_, ((t214 != (ji37))), (by first | rfl | (simp; done) | (simp only [← hji37] <;> (first | rfl | simp)) | (simp [*]; done)), H', ⟨by have := HJ6.out; have := HK2.out; have := HJ26.out; have := HJ30.out; first | omega | exact Nat.le_refl _⟩, ⟨by repeat (first | (with_reducible first | exact HB.out | apply below_alloc | apply pw_below_drewN | apply below_drew1) | exact HB.out)⟩⟩
                                    · rw [if_neg c42] at H
                                      have c42b0 : (x0_26 == 0) = false := beq_eq_false_iff_ne.mpr c42
                                      have c42b1 : (x0_26 != 0) = true := bne_iff_ne.mpr c42
                                      have H' := Aside0.mk H
                                      clear H
                                      go_wp2
                                      repeat (go_quiet (fail); try go_wp2)
                                      go_meet
                                      case rel => exact ⟨_, (false), (by first | rfl | (simp; done) | (simp [*]; done)), H', ⟨by have := HJ6.out; have := HK2.out; have := HJ26.out; have := HJ30.out; first | omega | exact Nat.le_refl _⟩, ⟨by repeat (first | (with_reducible first | exact HB.out | apply below_alloc | apply pw_below_drewN | apply below_drew1) | exact HB.out)⟩⟩
                            case rest =>
                              clear HC38
                              try clear c1
                              try clear c2
                              try clear p2
                              try clear q2
                              try clear hx2
                              try clear qi2
                              try clear c3
                              try clear c4
                              try clear c5
                              try clear p6
                              try clear c10
                              try clear c10b0
                              try clear c10b1
                              try clear c11
                              try clear c11b0
                              try clear c11b1
                              try clear c12
                              try clear c12b0
                              try clear c12b1
                              try clear c13
                              try clear c13b0
                              try clear c13b1
                              try clear c17
                              try clear c18
                              try clear c18b0
                              try clear c19
                              try clear c19b0
                              try clear c20
                              try clear c20b0
                              try clear p21
                              try clear q21
                              try clear hx21
                              try clear qi21
                              try clear c22
                              try clear c22b0
                              try clear c23
                              try clear c23b0
                              try clear c24
                              try clear c24b0
                              try clear c28
                              try clear c28b0
                              try clear c34
                              try clear c34b0
                              try clear c34b1
                              try clear c35
                              try clear c36
                              try clear c36b0
                              try clear c36b1
                              try clear c39
                              try clear c39b0
                              try clear c40
                              try clear c40b0
                              try clear c41
                              try clear c41b0
                              try clear c42
                              try clear c42b0
                              try clear c42b1
                              try clear hx210_0
                              try clear hx211_0
                              try clear hx212_0
                              try clear hx213_0
                              try clear p2
                              try clear p21
                              try clear p210
                              try clear p211
                              try clear p212
                              try clear p213
                              try clear p6
                              try clear q2
                              try clear q21
                              try clear q210
                              try clear q211
                              try clear q212
                              try clear q213
                              obtain ⟨kq, x96_37, rfl, HA, HJ37, HB⟩ := hcut
                              cases kq with
                              | zero => exact absurd HA.out (by simp [thrumlaw13_TableFalls.j4])
                              | succ kj37 =>
                                have H := HA.out
                                clear HA
                                simp only [thrumlaw13_TableFalls.j4] at H
                                by_cases c43 : x96_37 = true
                                · subst c43
                                  have H1 : (some false) = some r := by rw [if_pos rfl] at H; exact H
                                  clear H
                                  have H := H1
                                  clear H1
                                  obtain rfl := Option.some.inj H
                                  go_wp2
                                  repeat (go_quiet (fail); try go_wp2)
                                  go_ret
                                  exact ⟨by first | rfl | (simp [errW_none, errW_some] <;> rfl) | (simp only [← hji37]; first | rfl | (simp [errW_none, errW_some] <;> rfl)) | (simp [*, errW_none, errW_some] <;> rfl), by repeat (first | (with_reducible first | exact HB.out | apply below_alloc | apply pw_below_drewN | apply below_drew1) | exact HB.out)⟩
                                · replace c43 := Bool.eq_false_iff.mpr c43
                                  subst c43
                                  have H1 : (if x0_26 < (-4611686018427387904) then (some true) else ((table_Exp.f (wrap64 (x0_26 - ji37)) a2).bind fun bt218 => (if true = true then (if bt218.2 = 0 then (some (bt218.1 == (wrap64 (Int.tdiv t214 2)))) else (some false)) else (some false)))) = some r := by rw [if_neg (show ¬ (false = true) by decide)] at H; exact H
                                  clear H
                                  have H := H1
                                  clear H1
                                  by_cases c44 : x0_26 < (-4611686018427387904)
                                  · rw [if_pos c44] at H
                                    have c44b0 : decide (x0_26 < (-4611686018427387904)) = true := decide_eq_true c44
                                    clear c44
                                    obtain rfl := Option.some.inj H
                                    go_wp2
                                    repeat (go_quiet (fail); try go_wp2)
                                    go_ret
                                    exact ⟨by first | rfl | (simp [errW_none, errW_some] <;> rfl) | (simp only [← hji37]; first | rfl | (simp [errW_none, errW_some] <;> rfl)) | (simp [*, errW_none, errW_some] <;> rfl), by repeat (first | (with_reducible first | exact HB.out | apply below_alloc | apply pw_below_drewN | apply below_drew1) | exact HB.out)⟩
                                  · rw [if_neg c44] at H
                                    have c44b0 : decide (x0_26 < (-4611686018427387904)) = false := decide_eq_false c44
                                    clear c44
                                    replace H := Option.bind_eq_some_iff.mp H
                                    obtain ⟨⟨t218, t219⟩, A450, H⟩ := H
                                    replace H : (if true = true then (if t219 = 0 then (some (t218 == (wrap64 (Int.tdiv t214 2)))) else (some false)) else (some false)) = some r := H
                                    have A45 := Aside0.mk A450
                                    clear A450
                                    rw [if_pos rfl] at H
                                    by_cases c46 : t219 = 0
                                    · rw [if_pos c46] at H
                                      have c46b0 : (t219 == 0) = true := beq_iff_eq.mpr c46
                                      have c46b1 : (t219 != 0) = false := bne_eq_false_iff_eq.mpr c46
                                      clear c46
                                      obtain rfl := Option.some.inj H
                                      go_wp2_with (first | (go_at_call 55; (with_reducible refine (table_Exp.calls (wrap64 (x0_26 - ji37)) a2 t218 t219 _ A45.out).mono ?_); rintro e w47 ⟨rfl, hb⟩; have n0_ := Aside0.mk (below_step (by repeat (first | (with_reducible first | exact HB.out | apply below_alloc | apply pw_below_drewN | apply below_drew1) | exact HB.out)) hb); clear HB; have HB := n0_; clear n0_; (try clear hb); (try clear hb2); (try clear hk); (try clear hi)))
                                      repeat (go_quiet (first | (go_at_call 55; (with_reducible refine (table_Exp.calls (wrap64 (x0_26 - ji37)) a2 t218 t219 _ A45.out).mono ?_); rintro e w47 ⟨rfl, hb⟩; have n0_ := Aside0.mk (below_step (by repeat (first | (with_reducible first | exact HB.out | apply below_alloc | apply pw_below_drewN | apply below_drew1) | exact HB.out)) hb); clear HB; have HB := n0_; clear n0_; (try clear hb); (try clear hb2); (try clear hk); (try clear hi))); try go_wp2_with (first | (go_at_call 55; (with_reducible refine (table_Exp.calls (wrap64 (x0_26 - ji37)) a2 t218 t219 _ A45.out).mono ?_); rintro e w47 ⟨rfl, hb⟩; have n0_ := Aside0.mk (below_step (by repeat (first | (with_reducible first | exact HB.out | apply below_alloc | apply pw_below_drewN | apply below_drew1) | exact HB.out)) hb); clear HB; have HB := n0_; clear n0_; (try clear hb); (try clear hb2); (try clear hk); (try clear hi))))
                                      go_ret
                                      exact ⟨by first | rfl | (simp [errW_none, errW_some] <;> rfl) | (simp only [← hji37]; first | rfl | (simp [errW_none, errW_some] <;> rfl)) | (simp [*, errW_none, errW_some] <;> rfl), by repeat (first | (with_reducible first | exact HB.out | apply below_alloc | apply pw_below_drewN | apply below_drew1) | exact HB.out)⟩
                                    · rw [if_neg c46] at H
                                      have c46b0 : (t219 == 0) = false := beq_eq_false_iff_ne.mpr c46
                                      have c46b1 : (t219 != 0) = true := bne_iff_ne.mpr c46
                                      obtain rfl := Option.some.inj H
                                      go_wp2_with (first | (go_at_call 55; (with_reducible refine (table_Exp.calls (wrap64 (x0_26 - ji37)) a2 t218 t219 _ A45.out).mono ?_); rintro e w48 ⟨rfl, hb⟩; have n0_ := Aside0.mk (below_step (by repeat (first | (with_reducible first | exact HB.out | apply below_alloc | apply pw_below_drewN | apply below_drew1) | exact HB.out)) hb); clear HB; have HB := n0_; clear n0_; (try clear hb); (try clear hb2); (try clear hk); (try clear hi)))
                                      repeat (go_quiet (first | (go_at_call 55; (with_reducible refine (table_Exp.calls (wrap64 (x0_26 - ji37)) a2 t218 t219 _ A45.out).mono ?_); rintro e w48 ⟨rfl, hb⟩; have n0_ := Aside0.mk (below_step (by repeat (first | (with_reducible first | exact HB.out | apply below_alloc | apply pw_below_drewN | apply below_drew1) | exact HB.out)) hb); clear HB; have HB := n0_; clear n0_; (try clear hb); (try clear hb2); (try clear hk); (try clear hi))); try go_wp2_with (first | (go_at_call 55; (with_reducible refine (table_Exp.calls (wrap64 (x0_26 - ji37)) a2 t218 t219 _ A45.out).mono ?_); rintro e w48 ⟨rfl, hb⟩; have n0_ := Aside0.mk (below_step (by repeat (first | (with_reducible first | exact HB.out | apply below_alloc | apply pw_below_drewN | apply below_drew1) | exact HB.out)) hb); clear HB; have HB := n0_; clear n0_; (try clear hb); (try clear hb2); (try clear hk); (try clear hi))))
                                      go_ret
                                      exact ⟨by first | rfl | (simp [errW_none, errW_some] <;> rfl) | (simp only [← hji37]; first | rfl | (simp [errW_none, errW_some] <;> rfl)) | (simp [*, errW_none, errW_some] <;> rfl), by repeat (first | (with_reducible first | exact HB.out | apply below_alloc | apply pw_below_drewN | apply below_drew1) | exact HB.out)⟩
                          · rw [if_neg c36] at H
                            exact absurd H (by simp)
  · replace c5 := Bool.eq_false_iff.mpr c5
    subst c5
    have H1 : (some false) = some r := by rw [if_neg (show ¬ (false = true) by decide)] at H; exact H
    clear H
    have H := H1
    clear H1
    obtain rfl := Option.some.inj H
    go_enter Try.func11, Try.ntmps11
    go_wp2_with (first | (go_at_call 48; (with_reducible refine (thrumlaw13_live.calls  false _ A4.out).mono ?_); rintro e w49 ⟨rfl, hb⟩; have n0_ := Aside0.mk (below_step (by repeat (first | (with_reducible first | exact HB.out | apply below_alloc | apply pw_below_drewN | apply below_drew1) | exact HB.out)) hb); clear HB; have HB := n0_; clear n0_; (try clear hb); (try clear hb2); (try clear hk); (try clear hi)))
    repeat (go_quiet (first | (go_at_call 48; (with_reducible refine (thrumlaw13_live.calls  false _ A4.out).mono ?_); rintro e w49 ⟨rfl, hb⟩; have n0_ := Aside0.mk (below_step (by repeat (first | (with_reducible first | exact HB.out | apply below_alloc | apply pw_below_drewN | apply below_drew1) | exact HB.out)) hb); clear HB; have HB := n0_; clear n0_; (try clear hb); (try clear hb2); (try clear hk); (try clear hi))); try go_wp2_with (first | (go_at_call 48; (with_reducible refine (thrumlaw13_live.calls  false _ A4.out).mono ?_); rintro e w49 ⟨rfl, hb⟩; have n0_ := Aside0.mk (below_step (by repeat (first | (with_reducible first | exact HB.out | apply below_alloc | apply pw_below_drewN | apply below_drew1) | exact HB.out)) hb); clear HB; have HB := n0_; clear n0_; (try clear hb); (try clear hb2); (try clear hk); (try clear hi))))
    go_ret
    exact ⟨by first | rfl | (simp [errW_none, errW_some] <;> rfl) | (simp [*, errW_none, errW_some] <;> rfl), by repeat (first | (with_reducible first | exact HB.out | apply below_alloc | apply pw_below_drewN | apply below_drew1) | exact HB.out)⟩

/-- THE ONE PURE STATEMENT of thrumlaw13_TableFalls: yours. -/
def thrumlaw13_TableFalls.Pure : Prop := ∀ (a0 : Int) (a1 : Int) (a2 : Int), (Lit.int .i64 a0).wf = true → (Lit.int .i64 a1).wf = true → (Lit.int .i64 a2).wf = true → ∃ k, thrumlaw13_TableFalls.f k a0 a1 a2 = some true
theorem thrumlaw13_TableFalls.walk (P : thrumlaw13_TableFalls.Pure) (a0 : Int) (a1 : Int) (a2 : Int) (w : World) (w0 : (Lit.int .i64 a0).wf = true) (w1 : (Lit.int .i64 a1).wf = true) (w2 : (Lit.int .i64 a2).wf = true) :
    Calls Try.prog 11 #[.int .i64 a0, .int .i64 a1, .int .i64 a2] w fun e w' => e = .returned (.bool true) ∧ Below w.heap.size w w' := by
  obtain ⟨k, h⟩ := P a0 a1 a2 w0 w1 w2
  refine (thrumlaw13_TableFalls.calls k a0 a1 a2 true w h).mono ?_
  rintro e w' ⟨rfl, hd⟩
  exact ⟨rfl, hd⟩





























































































































































































































































































































































































































































































































































































































































































































































































































































































end Go.Proofs.Ytfbdalnjijdknaa.HT
