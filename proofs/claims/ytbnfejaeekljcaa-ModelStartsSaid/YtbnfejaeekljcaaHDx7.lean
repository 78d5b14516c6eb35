/- What Go functions do, each as a plain Lean function with the same answers, and the proof of it, in every world: printed by the session's driver over the kit's print, with texts by hand. -/
import Derived.Test.YtbnfejaeekljcaaHDx0
import Derived.Test.YtbnfejaeekljcaaHDx3
import Derived.Test.YtbnfejaeekljcaaHDx4
import Derived.Test.YtbnfejaeekljcaaHDx6
namespace Go.Proofs.Ytbnfejaeekljcaa.HD
open Go.RowKit Go.Proofs.YtbnfejaeekljcaaW.PrintWords Go.Proofs.YtbnfejaeekljcaaW.PrintLast Go.Proofs.YtbnfejaeekljcaaW.PrintMore
attribute [local go_sem] max2_int min2_int max_two min_two max_three min_three max_four min_four   -- for this text's walks alone
open Go.Proofs.Ytbnfejaeekljcaa.Sp
attribute [local go_sem] Go.Proofs.Ytbnfejaeekljcaa.Sp.u64_not
set_option linter.unusedVariables false
set_option linter.unusedSimpArgs false

/-! ### thrumlaw17_ModelStarts: function 3 -/
def thrumlaw17_ModelStarts.j0 : Nat → Bool → List Int → Bool → Int → Int → Int → Int → Int → Option (Bool)
  | 0, _, _, _, _, _, _, _, _ => none
  | k + 1, x5, x6, x76, x166000, x166001, x166002, x166003, x166004 => if x76 = true then (some false) else (if x166001 < 0 then (some false) else (if x166001 > 100 then (some false) else (if x5 = true then (if 0 ≤ x166001 then (if (x166001 : Int).toNat ≤ 35184372088832 then ((model_Fits.f x166000 x166001 x166002 x166003 x166004 x6 (([(⟨(List.replicate (x166001 : Int).toNat 0), 0⟩ : S37)] : List (S37)))).bind fun t186 => (some (t186 == 0))) else (none)) else (none)) else (some false))))
def thrumlaw17_ModelStarts.f (k : Nat) (a0_0 : Int) (a0_1 : Int) (a0_2 : Int) (a0_3 : Int) (a0_4 : Int) (a1 : Int) : Option (Bool) := (thrumlaw17_live.f k).bind fun t166 => (if t166 = true then ((model_Start.f k a0_0 a0_1 a0_2 a0_3 a0_4 a1).bind fun bt167 => ((model_Dim.f a0_0 a0_1 a0_2 a0_3 a0_4).bind fun bt171 => (if bt167.2 = bt171.2 then (if bt167.2 = 0 then ((model_Start.f k a0_0 a0_1 a0_2 a0_3 a0_4 a1).bind fun bt173 => ((vec_Most.f bt167.1).bind fun bt177 => (if (bt167.1.length : Int) = bt171.1 then (if bt173.2 = 0 then ((vec_Same.f bt173.1 bt167.1).bind fun t179 => (if t179 = true then (if bt177.2 = 0 then (if 0 ≤ a0_4 then (thrumlaw17_ModelStarts.j0 k t166 bt167.1 (decide (bt177.1 > (wrap64 (Int.tdiv (wrap64 ((shl .i64 1 a0_4) + 1)) 2)))) a0_0 a0_1 a0_2 a0_3 a0_4) else (none)) else (thrumlaw17_ModelStarts.j0 k t166 bt167.1 true a0_0 a0_1 a0_2 a0_3 a0_4)) else (thrumlaw17_ModelStarts.j0 k t166 bt167.1 true a0_0 a0_1 a0_2 a0_3 a0_4))) else (thrumlaw17_ModelStarts.j0 k t166 bt167.1 true a0_0 a0_1 a0_2 a0_3 a0_4)) else (thrumlaw17_ModelStarts.j0 k t166 bt167.1 true a0_0 a0_1 a0_2 a0_3 a0_4)))) else (some ((bt167.1.length : Int) == 0))) else (some false)))) else (some false))
theorem thrumlaw17_ModelStarts.mono_l : ∀ k, (∀ y0 y1 y2 y3 y4 y5 y6 y7, LeO (thrumlaw17_ModelStarts.j0 k y0 y1 y2 y3 y4 y5 y6 y7) (thrumlaw17_ModelStarts.j0 (k + 1) y0 y1 y2 y3 y4 y5 y6 y7))
  | 0 => fun _ _ _ _ _ _ _ _ r h => by simp [thrumlaw17_ModelStarts.j0] at h
  | k + 1 => by
    have ih0 := thrumlaw17_ModelStarts.mono_l k
    · intro y0 y1 y2 y3 y4 y5 y6 y7
      unfold thrumlaw17_ModelStarts.j0
      repeat' first
      | (with_reducible exact ih0 _ _ _ _ _ _ _ _)
      | (with_reducible exact model_Start.mono _ _ _ _ _ _ _)
      | (with_reducible exact thrumlaw17_live.mono _)
      | (with_reducible exact LeO.refl _)
      | (with_reducible exact LeO.none _)
      | (with_reducible refine LeO.ite ?_ ?_)
      | (with_reducible refine LeO.bind ?_ (fun _ => ?_))
      | exact ih0 _ _ _ _ _ _ _ _
      | exact model_Start.mono _ _ _ _ _ _ _
      | exact thrumlaw17_live.mono _
      | exact LeO.none _
      | refine LeO.ite ?_ ?_
      | refine LeO.bind ?_ (fun _ => ?_)
theorem thrumlaw17_ModelStarts.mono : ∀ a0 a1 a2 a3 a4 a5 k, LeO (thrumlaw17_ModelStarts.f k a0 a1 a2 a3 a4 a5) (thrumlaw17_ModelStarts.f (k + 1) a0 a1 a2 a3 a4 a5) := by
  intro a0 a1 a2 a3 a4 a5 k
  have ih0 := thrumlaw17_ModelStarts.mono_l k
  unfold thrumlaw17_ModelStarts.f
  repeat' first
      | (with_reducible exact ih0 _ _ _ _ _ _ _ _)
      | (with_reducible exact model_Start.mono _ _ _ _ _ _ _)
      | (with_reducible exact thrumlaw17_live.mono _)
      | (with_reducible exact LeO.refl _)
      | (with_reducible exact LeO.none _)
      | (with_reducible refine LeO.ite ?_ ?_)
      | (with_reducible refine LeO.bind ?_ (fun _ => ?_))
      | exact ih0 _ _ _ _ _ _ _ _
      | exact model_Start.mono _ _ _ _ _ _ _
      | exact thrumlaw17_live.mono _
      | exact LeO.none _
      | refine LeO.ite ?_ ?_
      | refine LeO.bind ?_ (fun _ => ?_)
def thrumlaw17_ModelStarts.T16 : Bool × List (List Nat × List Nat) := (true, [([], []), ([0], [0]), ([1], [1]), ([1], [1]), ([1], [1]), ([4, 1], [1, 4]), ([5, 5, 1], [1, 5]), ([6, 1], [1, 6]), ([7, 1], [1, 7]), ([2, 3, 8, 1, 1], [1, 2, 3, 8]), ([9, 1], [1, 9]), ([1, 10], [1, 10]), ([11, 9, 0, 1, 2, 3, 4, 5, 6, 7, 8, 9, 10, 11], [11])])
def thrumlaw17_ModelStarts.B16 : List Nat := [0, 1, 3, 3, 3, 19, 51, 115, 243, 511, 1023, 2047, 4095]
theorem thrumlaw17_ModelStarts.tab16 : rtab .any (opsOf Try.f3 16) = thrumlaw17_ModelStarts.T16 := by kernel_rfl
theorem thrumlaw17_ModelStarts.bits16 : waitsOk thrumlaw17_ModelStarts.T16.2 thrumlaw17_ModelStarts.B16 = true := by kernel_rfl
theorem thrumlaw17_ModelStarts.j0_not {k : Nat} {y0} {y1} {y3} {y4} {y5} {y6} {y7} (h : thrumlaw17_ModelStarts.j0 k y0 y1 true y3 y4 y5 y6 y7 = some true) : False := by cases k <;> simp [thrumlaw17_ModelStarts.j0] at h
set_option maxHeartbeats 80000000 in
set_option maxRecDepth 100000 in
theorem thrumlaw17_ModelStarts.calls (k : Nat) (a0_0 : Int) (a0_1 : Int) (a0_2 : Int) (a0_3 : Int) (a0_4 : Int) (a1 : Int) (r : Bool) (w : World) (h : thrumlaw17_ModelStarts.f k a0_0 a0_1 a0_2 a0_3 a0_4 a1 = some r) (hr_ : r = true) :
    Calls Try.prog 3 #[.agg #[.int .i64 a0_0, .int .i64 a0_1, .int .i64 a0_2, .int .i64 a0_3, .int .i64 a0_4], .int .u64 a1] w fun e w' => e = .returned (.bool r) ∧ Below w.heap.size w w' := by
  have HR_ := Aside0.mk hr_
  clear hr_
  have hu23 := Try.underlying23
  have hu37 := Try.underlying37
  have HB := Aside0.mk (Below.refl w.heap.size w)
  have H : ((thrumlaw17_live.f k).bind fun t166 => (if t166 = true then ((model_Start.f k a0_0 a0_1 a0_2 a0_3 a0_4 a1).bind fun bt167 => ((model_Dim.f a0_0 a0_1 a0_2 a0_3 a0_4).bind fun bt171 => (if bt167.2 = bt171.2 then (if bt167.2 = 0 then ((model_Start.f k a0_0 a0_1 a0_2 a0_3 a0_4 a1).bind fun bt173 => ((vec_Most.f bt167.1).bind fun bt177 => (if (bt167.1.length : Int) = bt171.1 then (if bt173.2 = 0 then ((vec_Same.f bt173.1 bt167.1).bind fun t179 => (if t179 = true then (if bt177.2 = 0 then (if 0 ≤ a0_4 then (thrumlaw17_ModelStarts.j0 k t166 bt167.1 (decide (bt177.1 > (wrap64 (Int.tdiv (wrap64 ((shl .i64 1 a0_4) + 1)) 2)))) a0_0 a0_1 a0_2 a0_3 a0_4) else (none)) else (thrumlaw17_ModelStarts.j0 k t166 bt167.1 true a0_0 a0_1 a0_2 a0_3 a0_4)) else (thrumlaw17_ModelStarts.j0 k t166 bt167.1 true a0_0 a0_1 a0_2 a0_3 a0_4))) else (thrumlaw17_ModelStarts.j0 k t166 bt167.1 true a0_0 a0_1 a0_2 a0_3 a0_4)) else (thrumlaw17_ModelStarts.j0 k t166 bt167.1 true a0_0 a0_1 a0_2 a0_3 a0_4)))) else (some ((bt167.1.length : Int) == 0))) else (some false)))) else (some false))) = some r := h
  clear h
  replace H := Option.bind_eq_some_iff.mp H
  obtain ⟨t166, A30, H⟩ := H
  replace H : (if t166 = true then ((model_Start.f k a0_0 a0_1 a0_2 a0_3 a0_4 a1).bind fun bt167 => ((model_Dim.f a0_0 a0_1 a0_2 a0_3 a0_4).bind fun bt171 => (if bt167.2 = bt171.2 then (if bt167.2 = 0 then ((model_Start.f k a0_0 a0_1 a0_2 a0_3 a0_4 a1).bind fun bt173 => ((vec_Most.f bt167.1).bind fun bt177 => (if (bt167.1.length : Int) = bt171.1 then (if bt173.2 = 0 then ((vec_Same.f bt173.1 bt167.1).bind fun t179 => (if t179 = true then (if bt177.2 = 0 then (if 0 ≤ a0_4 then (thrumlaw17_ModelStarts.j0 k t166 bt167.1 (decide (bt177.1 > (wrap64 (Int.tdiv (wrap64 ((shl .i64 1 a0_4) + 1)) 2)))) a0_0 a0_1 a0_2 a0_3 a0_4) else (none)) else (thrumlaw17_ModelStarts.j0 k t166 bt167.1 true a0_0 a0_1 a0_2 a0_3 a0_4)) else (thrumlaw17_ModelStarts.j0 k t166 bt167.1 true a0_0 a0_1 a0_2 a0_3 a0_4))) else (thrumlaw17_ModelStarts.j0 k t166 bt167.1 true a0_0 a0_1 a0_2 a0_3 a0_4)) else (thrumlaw17_ModelStarts.j0 k t166 bt167.1 true a0_0 a0_1 a0_2 a0_3 a0_4)))) else (some ((bt167.1.length : Int) == 0))) else (some false)))) else (some false)) = some r := H
  have A3 := Aside0.mk A30
  clear A30
  by_cases c4 : t166 = true
  · subst c4
    have H1 : ((model_Start.f k a0_0 a0_1 a0_2 a0_3 a0_4 a1).bind fun bt167 => ((model_Dim.f a0_0 a0_1 a0_2 a0_3 a0_4).bind fun bt171 => (if bt167.2 = bt171.2 then (if bt167.2 = 0 then ((model_Start.f k a0_0 a0_1 a0_2 a0_3 a0_4 a1).bind fun bt173 => ((vec_Most.f bt167.1).bind fun bt177 => (if (bt167.1.length : Int) = bt171.1 then (if bt173.2 = 0 then ((vec_Same.f bt173.1 bt167.1).bind fun t179 => (if t179 = true then (if bt177.2 = 0 then (if 0 ≤ a0_4 then (thrumlaw17_ModelStarts.j0 k true bt167.1 (decide (bt177.1 > (wrap64 (Int.tdiv (wrap64 ((shl .i64 1 a0_4) + 1)) 2)))) a0_0 a0_1 a0_2 a0_3 a0_4) else (none)) else (thrumlaw17_ModelStarts.j0 k true bt167.1 true a0_0 a0_1 a0_2 a0_3 a0_4)) else (thrumlaw17_ModelStarts.j0 k true bt167.1 true a0_0 a0_1 a0_2 a0_3 a0_4))) else (thrumlaw17_ModelStarts.j0 k true bt167.1 true a0_0 a0_1 a0_2 a0_3 a0_4)) else (thrumlaw17_ModelStarts.j0 k true bt167.1 true a0_0 a0_1 a0_2 a0_3 a0_4)))) else (some ((bt167.1.length : Int) == 0))) else (some false)))) = some r := by rw [if_pos rfl] at H; exact H
    clear H
    have H := H1
    clear H1
    replace H := Option.bind_eq_some_iff.mp H
    obtain ⟨⟨t167, t170⟩, A50, H⟩ := H
    replace H : ((model_Dim.f a0_0 a0_1 a0_2 a0_3 a0_4).bind fun bt171 => (if t170 = bt171.2 then (if t170 = 0 then ((model_Start.f k a0_0 a0_1 a0_2 a0_3 a0_4 a1).bind fun bt173 => ((vec_Most.f t167).bind fun bt177 => (if (t167.length : Int) = bt171.1 then (if bt173.2 = 0 then ((vec_Same.f bt173.1 t167).bind fun t179 => (if t179 = true then (if bt177.2 = 0 then (if 0 ≤ a0_4 then (thrumlaw17_ModelStarts.j0 k true t167 (decide (bt177.1 > (wrap64 (Int.tdiv (wrap64 ((shl .i64 1 a0_4) + 1)) 2)))) a0_0 a0_1 a0_2 a0_3 a0_4) else (none)) else (thrumlaw17_ModelStarts.j0 k true t167 true a0_0 a0_1 a0_2 a0_3 a0_4)) else (thrumlaw17_ModelStarts.j0 k true t167 true a0_0 a0_1 a0_2 a0_3 a0_4))) else (thrumlaw17_ModelStarts.j0 k true t167 true a0_0 a0_1 a0_2 a0_3 a0_4)) else (thrumlaw17_ModelStarts.j0 k true t167 true a0_0 a0_1 a0_2 a0_3 a0_4)))) else (some ((t167.length : Int) == 0))) else (some false))) = some r := H
    have A5 := Aside0.mk A50
    clear A50
    replace H := Option.bind_eq_some_iff.mp H
    obtain ⟨⟨t171, t172⟩, A60, H⟩ := H
    replace H : (if t170 = t172 then (if t170 = 0 then ((model_Start.f k a0_0 a0_1 a0_2 a0_3 a0_4 a1).bind fun bt173 => ((vec_Most.f t167).bind fun bt177 => (if (t167.length : Int) = t171 then (if bt173.2 = 0 then ((vec_Same.f bt173.1 t167).bind fun t179 => (if t179 = true then (if bt177.2 = 0 then (if 0 ≤ a0_4 then (thrumlaw17_ModelStarts.j0 k true t167 (decide (bt177.1 > (wrap64 (Int.tdiv (wrap64 ((shl .i64 1 a0_4) + 1)) 2)))) a0_0 a0_1 a0_2 a0_3 a0_4) else (none)) else (thrumlaw17_ModelStarts.j0 k true t167 true a0_0 a0_1 a0_2 a0_3 a0_4)) else (thrumlaw17_ModelStarts.j0 k true t167 true a0_0 a0_1 a0_2 a0_3 a0_4))) else (thrumlaw17_ModelStarts.j0 k true t167 true a0_0 a0_1 a0_2 a0_3 a0_4)) else (thrumlaw17_ModelStarts.j0 k true t167 true a0_0 a0_1 a0_2 a0_3 a0_4)))) else (some ((t167.length : Int) == 0))) else (some false)) = some r := H
    have A6 := Aside0.mk A60
    clear A60
    by_cases c7 : t170 = t172
    · rw [if_pos c7] at H
      have c7b0 : (t170 == t172) = true := beq_iff_eq.mpr c7
      have c7b1 : (t170 != t172) = false := bne_eq_false_iff_eq.mpr c7
      clear c7
      by_cases c8 : t170 = 0
      · rw [if_pos c8] at H
        have c8b0 : (t170 == 0) = true := beq_iff_eq.mpr c8
        have c8b1 : (t170 != 0) = false := bne_eq_false_iff_eq.mpr c8
        clear c8
        replace H := Option.bind_eq_some_iff.mp H
        obtain ⟨⟨t173, t176⟩, A90, H⟩ := H
        replace H : ((vec_Most.f t167).bind fun bt177 => (if (t167.length : Int) = t171 then (if t176 = 0 then ((vec_Same.f t173 t167).bind fun t179 => (if t179 = true then (if bt177.2 = 0 then (if 0 ≤ a0_4 then (thrumlaw17_ModelStarts.j0 k true t167 (decide (bt177.1 > (wrap64 (Int.tdiv (wrap64 ((shl .i64 1 a0_4) + 1)) 2)))) a0_0 a0_1 a0_2 a0_3 a0_4) else (none)) else (thrumlaw17_ModelStarts.j0 k true t167 true a0_0 a0_1 a0_2 a0_3 a0_4)) else (thrumlaw17_ModelStarts.j0 k true t167 true a0_0 a0_1 a0_2 a0_3 a0_4))) else (thrumlaw17_ModelStarts.j0 k true t167 true a0_0 a0_1 a0_2 a0_3 a0_4)) else (thrumlaw17_ModelStarts.j0 k true t167 true a0_0 a0_1 a0_2 a0_3 a0_4))) = some r := H
        have A9 := Aside0.mk A90
        clear A90
        replace H := Option.bind_eq_some_iff.mp H
        obtain ⟨⟨t177, t178⟩, A100, H⟩ := H
        replace H : (if (t167.length : Int) = t171 then (if t176 = 0 then ((vec_Same.f t173 t167).bind fun t179 => (if t179 = true then (if t178 = 0 then (if 0 ≤ a0_4 then (thrumlaw17_ModelStarts.j0 k true t167 (decide (t177 > (wrap64 (Int.tdiv (wrap64 ((shl .i64 1 a0_4) + 1)) 2)))) a0_0 a0_1 a0_2 a0_3 a0_4) else (none)) else (thrumlaw17_ModelStarts.j0 k true t167 true a0_0 a0_1 a0_2 a0_3 a0_4)) else (thrumlaw17_ModelStarts.j0 k true t167 true a0_0 a0_1 a0_2 a0_3 a0_4))) else (thrumlaw17_ModelStarts.j0 k true t167 true a0_0 a0_1 a0_2 a0_3 a0_4)) else (thrumlaw17_ModelStarts.j0 k true t167 true a0_0 a0_1 a0_2 a0_3 a0_4)) = some r := H
        have A10 := Aside0.mk A100
        clear A100
        have HC11 := Aside0.mk H
        clear H
        go_enter Try.func3, Try.ntmps3
        go_upto_region 12 with (first | ((with_reducible refine gate_dst (N := 2) rfl ?_); (try (refine gate_guard (by rfl) ?_; dsimp only)); refine box_event ?hg (N := 2) ?hd (cs := #[.int .i64 a0_0, .int .i64 a0_1, .int .i64 a0_2, .int .i64 a0_3, .int .i64 a0_4]) (t := 23) ?hr ?_; (case hd => rfl); (case hg => rfl); (case hr => first | (go_simp; done) | (go_simp; rfl)); intro gb165 hg w12 hbox hb; have n0_ := Aside0.mk (below_step (by repeat (first | (with_reducible first | exact HB.out | apply below_alloc | apply pw_below_drewN | apply below_drew1) | exact HB.out)) hb); have n1_ := Aside0.mk (hbox); have n2_ := Aside0.mk ((by rw [hg]; exact (below_size (by repeat (first | (with_reducible first | exact HB.out | apply below_alloc | apply pw_below_drewN | apply below_drew1) | exact HB.out))) : w.heap.size ≤ gb165)); have n3_ := Aside0.mk ((by rw [hg]; exact (below_size (by repeat (first | (with_reducible first | exact HB.out | apply below_alloc | apply pw_below_drewN | apply below_drew1) | exact HB.out))) : w.heap.size ≤ gb165)); clear HB; have HB := n0_; have BK165 := n1_; have GW165 := n2_; have GE165 := n3_; clear n0_ n1_ n2_ n3_; clear hb hbox hg) | ((with_reducible refine gate_callee (f := 6) rfl ?_); refine goesL_ (some 14) rfl rfl Try.func6 (by kernel_rfl) rfl #[] rfl (by (try simp only [List.map_toArray, List.map_cons, List.map_nil]); first | done | rfl | (simp only [List.length_drop, List.length_take]; rfl)) ?_; (with_reducible refine (thrumlaw17_live.calls k  true _ A3.out).mono ?_); rintro e w13 ⟨rfl, hb⟩; refine ⟨_, rfl, ?_⟩; have n0_ := Aside0.mk (blk_below (g := gb165) (o := .cells #[.int .i64 a0_0, .int .i64 a0_1, .int .i64 a0_2, .int .i64 a0_3, .int .i64 a0_4] 23 (0, 0)) (by (with_reducible repeat (first | refine blk_drewN ?_ _ | refine blk_drew ?_ | refine blk_alloc ?_ _)); exact BK165.out) hb); have n1_ := Aside0.mk (below_step (by repeat (first | (with_reducible first | exact HB.out | apply below_alloc | apply pw_below_drewN | apply below_drew1 | refine below_set ?_ GE165.out) | exact HB.out)) hb); clear BK165; clear HB; have BK165 := n0_; have HB := n1_; clear n0_ n1_; (try clear hb); (try clear hb2); (try clear hk); (try clear hi); have hcz14_0 : w13.cell? ⟨gb165, 0, none⟩ = some (.int .i64 a0_0) := (blk_cell BK165.out 0).trans rfl; have hcz14_1 : w13.cell? ⟨gb165, 1, none⟩ = some (.int .i64 a0_1) := (blk_cell BK165.out 1).trans rfl; have hcz14_2 : w13.cell? ⟨gb165, 2, none⟩ = some (.int .i64 a0_2) := (blk_cell BK165.out 2).trans rfl; have hcz14_3 : w13.cell? ⟨gb165, 3, none⟩ = some (.int .i64 a0_3) := (blk_cell BK165.out 3).trans rfl; have hcz14_4 : w13.cell? ⟨gb165, 4, none⟩ = some (.int .i64 a0_4) := (blk_cell BK165.out 4).trans rfl; have hfz14_0 := blk_frozen BK165.out 0; have hfz14_1 := blk_frozen BK165.out 1; have hfz14_2 := blk_frozen BK165.out 2; have hfz14_3 := blk_frozen BK165.out 3; have hfz14_4 := blk_frozen BK165.out 4) | ((with_reducible refine gate_callee (f := 7) rfl ?_); refine goesL_ (some 20) rfl rfl Try.func7 (by kernel_rfl) rfl #[.agg #[.int .i64 a0_0, .int .i64 a0_1, .int .i64 a0_2, .int .i64 a0_3, .int .i64 a0_4], .int .u64 a1] rfl (by (try simp only [List.map_toArray, List.map_cons, List.map_nil]); first | done | rfl | (simp only [List.length_drop, List.length_take]; rfl)) ?_; (with_reducible refine (model_Start.calls k a0_0 a0_1 a0_2 a0_3 a0_4 a1 t167 t170 _ A5.out).mono ?_); rintro e w15 ⟨v168, rfl, ho0, hb⟩; refine ⟨_, rfl, ?_⟩; have n0_ := Aside0.mk (Kd.R_lower ho0 (below_size (by repeat (first | (with_reducible first | exact HB.out | apply below_alloc | apply pw_below_drewN | apply below_drew1 | refine below_set ?_ GE165.out) | exact HB.out)))); have n1_ := Aside0.mk (blk_below (g := gb165) (o := .cells #[.int .i64 a0_0, .int .i64 a0_1, .int .i64 a0_2, .int .i64 a0_3, .int .i64 a0_4] 23 (0, 0)) (by (with_reducible repeat (first | refine blk_drewN ?_ _ | refine blk_drew ?_ | refine blk_alloc ?_ _)); exact BK165.out) hb); have n2_ := Aside0.mk (below_step (by repeat (first | (with_reducible first | exact HB.out | apply below_alloc | apply pw_below_drewN | apply below_drew1 | refine below_set ?_ GE165.out) | exact HB.out)) hb); clear BK165; clear HB; have HO169 := n0_; have BK165 := n1_; have HB := n2_; clear n0_ n1_ n2_; (try clear hb); (try clear hb2); (try clear hk); (try clear hi); (try clear ho0); have hcz16_0 : w15.cell? ⟨gb165, 0, none⟩ = some (.int .i64 a0_0) := (blk_cell BK165.out 0).trans rfl; have hcz16_1 : w15.cell? ⟨gb165, 1, none⟩ = some (.int .i64 a0_1) := (blk_cell BK165.out 1).trans rfl; have hcz16_2 : w15.cell? ⟨gb165, 2, none⟩ = some (.int .i64 a0_2) := (blk_cell BK165.out 2).trans rfl; have hcz16_3 : w15.cell? ⟨gb165, 3, none⟩ = some (.int .i64 a0_3) := (blk_cell BK165.out 3).trans rfl; have hcz16_4 : w15.cell? ⟨gb165, 4, none⟩ = some (.int .i64 a0_4) := (blk_cell BK165.out 4).trans rfl; have hfz16_0 := blk_frozen BK165.out 0; have hfz16_1 := blk_frozen BK165.out 1; have hfz16_2 := blk_frozen BK165.out 2; have hfz16_3 := blk_frozen BK165.out 3; have hfz16_4 := blk_frozen BK165.out 4) | ((with_reducible refine gate_callee (f := 8) rfl ?_); refine goesL_ (some 25) rfl rfl Try.func8 (by kernel_rfl) rfl #[.agg #[.int .i64 a0_0, .int .i64 a0_1, .int .i64 a0_2, .int .i64 a0_3, .int .i64 a0_4]] rfl (by (try simp only [List.map_toArray, List.map_cons, List.map_nil]); first | done | rfl | (simp only [List.length_drop, List.length_take]; rfl)) ?_; (with_reducible refine (model_Dim.calls a0_0 a0_1 a0_2 a0_3 a0_4 t171 t172 _ A6.out).mono ?_); rintro e w17 ⟨rfl, hb⟩; refine ⟨_, rfl, ?_⟩; have n0_ := Aside0.mk (Kd.R_below (by (with_reducible repeat (first | apply Kd.R_alloc | apply Kd.R_drewN | apply Kd.R_drew)); exact HO169.out) hb); have n1_ := Aside0.mk (blk_below (g := gb165) (o := .cells #[.int .i64 a0_0, .int .i64 a0_1, .int .i64 a0_2, .int .i64 a0_3, .int .i64 a0_4] 23 (0, 0)) (by (with_reducible repeat (first | refine blk_drewN ?_ _ | refine blk_drew ?_ | refine blk_alloc ?_ _)); exact BK165.out) hb); have n2_ := Aside0.mk (below_step (by repeat (first | (with_reducible first | exact HB.out | apply below_alloc | apply pw_below_drewN | apply below_drew1 | refine below_set ?_ GE165.out) | exact HB.out)) hb); clear HO169; clear BK165; clear HB; have HO169 := n0_; have BK165 := n1_; have HB := n2_; clear n0_ n1_ n2_; (try clear hb); (try clear hb2); (try clear hk); (try clear hi); have hcz18_0 : w17.cell? ⟨gb165, 0, none⟩ = some (.int .i64 a0_0) := (blk_cell BK165.out 0).trans rfl; have hcz18_1 : w17.cell? ⟨gb165, 1, none⟩ = some (.int .i64 a0_1) := (blk_cell BK165.out 1).trans rfl; have hcz18_2 : w17.cell? ⟨gb165, 2, none⟩ = some (.int .i64 a0_2) := (blk_cell BK165.out 2).trans rfl; have hcz18_3 : w17.cell? ⟨gb165, 3, none⟩ = some (.int .i64 a0_3) := (blk_cell BK165.out 3).trans rfl; have hcz18_4 : w17.cell? ⟨gb165, 4, none⟩ = some (.int .i64 a0_4) := (blk_cell BK165.out 4).trans rfl; have hfz18_0 := blk_frozen BK165.out 0; have hfz18_1 := blk_frozen BK165.out 1; have hfz18_2 := blk_frozen BK165.out 2; have hfz18_3 := blk_frozen BK165.out 3; have hfz18_4 := blk_frozen BK165.out 4) | ((with_reducible refine gate_callee (f := 7) rfl ?_); refine goesL_ (some 42) rfl rfl Try.func7 (by kernel_rfl) rfl #[.agg #[.int .i64 a0_0, .int .i64 a0_1, .int .i64 a0_2, .int .i64 a0_3, .int .i64 a0_4], .int .u64 a1] rfl (by (try simp only [List.map_toArray, List.map_cons, List.map_nil]); first | done | rfl | (simp only [List.length_drop, List.length_take]; rfl)) ?_; (with_reducible refine (model_Start.calls k a0_0 a0_1 a0_2 a0_3 a0_4 a1 t173 t176 _ A9.out).mono ?_); rintro e w19 ⟨v174, rfl, ho0, hb⟩; refine ⟨_, rfl, ?_⟩; have n0_ := Aside0.mk (Kd.R_elder' (by (with_reducible repeat (first | apply Kd.R_alloc | apply Kd.R_drewN | apply Kd.R_drew)); exact HO169.out) (Kd.R_base ho0) hb); have n1_ := Aside0.mk (Kd.R_lower (Kd.R_new' ho0 (Kd.R_lt (by (with_reducible repeat (first | apply Kd.R_alloc | apply Kd.R_drewN | apply Kd.R_drew)); exact HO169.out))) (below_size (by repeat (first | (with_reducible first | exact HB.out | apply below_alloc | apply pw_below_drewN | apply below_drew1 | refine below_set ?_ GE165.out) | exact HB.out)))); have n2_ := Aside0.mk (blk_below (g := gb165) (o := .cells #[.int .i64 a0_0, .int .i64 a0_1, .int .i64 a0_2, .int .i64 a0_3, .int .i64 a0_4] 23 (0, 0)) (by (with_reducible repeat (first | refine blk_drewN ?_ _ | refine blk_drew ?_ | refine blk_alloc ?_ _)); exact BK165.out) hb); have n3_ := Aside0.mk (below_step (by repeat (first | (with_reducible first | exact HB.out | apply below_alloc | apply pw_below_drewN | apply below_drew1 | refine below_set ?_ GE165.out) | exact HB.out)) hb); clear HO169; clear BK165; clear HB; have HO169 := n0_; have HO175 := n1_; have BK165 := n2_; have HB := n3_; clear n0_ n1_ n2_ n3_; (try clear hb); (try clear hb2); (try clear hk); (try clear hi); (try clear ho0); obtain ⟨Ao20, co20, eo20⟩ := Kd.R_slice HO169.out; subst eo20) | ((with_reducible refine gate_callee (f := 9) rfl ?_); refine goesL_ (some 47) rfl rfl Try.func9 (by kernel_rfl) rfl #[.slice Ao20 t167.length co20] rfl (by (try simp only [List.map_toArray, List.map_cons, List.map_nil]); first | done | rfl | (simp only [List.length_drop, List.length_take]; rfl)) ?_; (with_reducible refine (vec_Most.calls _ _ t167 t177 t178 _ ?side1 ?side2 A10.out).mono ?_); (case side1 => repeat (first | exact (Kd.R_reads' HO169.out).2.2 | (with_reducible refine Kd.C_alloc ?_ _) | (with_reducible refine Kd.C_drewN ?_ _) | (with_reducible refine Kd.C_drew ?_))); (case side2 => exact (Kd.R_reads' HO169.out).2.1); rintro e w21 ⟨rfl, hb⟩; refine ⟨_, rfl, ?_⟩; have n0_ := Aside0.mk (Kd.R_below (by (with_reducible repeat (first | apply Kd.R_alloc | apply Kd.R_drewN | apply Kd.R_drew)); exact HO169.out) hb); have n1_ := Aside0.mk (Kd.R_below (by (with_reducible repeat (first | apply Kd.R_alloc | apply Kd.R_drewN | apply Kd.R_drew)); exact HO175.out) hb); have n2_ := Aside0.mk (blk_below (g := gb165) (o := .cells #[.int .i64 a0_0, .int .i64 a0_1, .int .i64 a0_2, .int .i64 a0_3, .int .i64 a0_4] 23 (0, 0)) (by (with_reducible repeat (first | refine blk_drewN ?_ _ | refine blk_drew ?_ | refine blk_alloc ?_ _)); exact BK165.out) hb); have n3_ := Aside0.mk (below_step (by repeat (first | (with_reducible first | exact HB.out | apply below_alloc | apply pw_below_drewN | apply below_drew1 | refine below_set ?_ GE165.out) | exact HB.out)) hb); clear HO169; clear HO175; clear BK165; clear HB; have HO169 := n0_; have HO175 := n1_; have BK165 := n2_; have HB := n3_; clear n0_ n1_ n2_ n3_; (try clear hb); (try clear hb2); (try clear hk); (try clear hi)))
        (try simp only [Act.put, List.setIfInBounds_toArray, List.set_cons_zero, List.set_cons_succ])
        go_cut [76] (fun v76 wc => ∃ (kq : Nat) (x76_10 : Bool), v76 = .bool x76_10 ∧ Aside0 (thrumlaw17_ModelStarts.j0 kq true t167 x76_10 a0_0 a0_1 a0_2 a0_3 a0_4 = some r) ∧ Aside0 (kq ≤ k) ∧ Aside0 (Kd.R (Kd.int .i64) 2 wc w.heap.size (fun _ => True) (.slice Ao20 t167.length co20) t167) ∧ Aside0 (wc.heap[gb165]? = some (.cells #[.int .i64 a0_0, .int .i64 a0_1, .int .i64 a0_2, .int .i64 a0_3, .int .i64 a0_4] 23 (0, 0))) ∧ Aside0 (Below w.heap.size w wc))
        case first =>
          have H := HC11.out
          clear HC11
          by_cases c22 : (t167.length : Int) = t171
          · rw [if_pos c22] at H
            have c22b0 : ((t167.length : Int) == t171) = true := beq_iff_eq.mpr c22
            have c22b1 : ((t167.length : Int) != t171) = false := bne_eq_false_iff_eq.mpr c22
            clear c22
            (first | rw [c22b0] | (simp only [i64_w, i32_w]; rw [c22b0]) | skip)
            by_cases c23 : t176 = 0
            · rw [if_pos c23] at H
              have c23b0 : (t176 == 0) = true := beq_iff_eq.mpr c23
              have c23b1 : (t176 != 0) = false := bne_eq_false_iff_eq.mpr c23
              clear c23
              replace H := Option.bind_eq_some_iff.mp H
              obtain ⟨t179, A240, H⟩ := H
              replace H : (if t179 = true then (if t178 = 0 then (if 0 ≤ a0_4 then (thrumlaw17_ModelStarts.j0 k true t167 (decide (t177 > (wrap64 (Int.tdiv (wrap64 ((shl .i64 1 a0_4) + 1)) 2)))) a0_0 a0_1 a0_2 a0_3 a0_4) else (none)) else (thrumlaw17_ModelStarts.j0 k true t167 true a0_0 a0_1 a0_2 a0_3 a0_4)) else (thrumlaw17_ModelStarts.j0 k true t167 true a0_0 a0_1 a0_2 a0_3 a0_4)) = some r := H
              have A24 := Aside0.mk A240
              clear A240
              by_cases c25 : t179 = true
              · subst c25
                have H1 : (if t178 = 0 then (if 0 ≤ a0_4 then (thrumlaw17_ModelStarts.j0 k true t167 (decide (t177 > (wrap64 (Int.tdiv (wrap64 ((shl .i64 1 a0_4) + 1)) 2)))) a0_0 a0_1 a0_2 a0_3 a0_4) else (none)) else (thrumlaw17_ModelStarts.j0 k true t167 true a0_0 a0_1 a0_2 a0_3 a0_4)) = some r := by rw [if_pos rfl] at H; exact H
                clear H
                have H := H1
                clear H1
                by_cases c26 : t178 = 0
                · rw [if_pos c26] at H
                  have c26b0 : (t178 == 0) = true := beq_iff_eq.mpr c26
                  have c26b1 : (t178 != 0) = false := bne_eq_false_iff_eq.mpr c26
                  clear c26
                  by_cases c27 : 0 ≤ a0_4
                  · rw [if_pos c27] at H
                    have c27b0 := eq_true c27
                    have c27b1 : decide (0 ≤ a0_4) = true := decide_eq_true c27
                    clear c27
                    obtain ⟨ji28, hji28⟩ : ∃ j_ : Int, (shl .i64 1 a0_4) = j_ := ⟨_, rfl⟩
                    replace H : (thrumlaw17_ModelStarts.j0 k true t167 (decide (t177 > (wrap64 (Int.tdiv (wrap64 ((ji28) + 1)) 2)))) a0_0 a0_1 a0_2 a0_3 a0_4) = some r := by first | (rw [hji28] at H; exact H) | (simp only [hji28] at H ⊢; exact H)
                    (try rw [hji28] at A24)
                    have hji28_ : (IntKind.i64.wrap (1 * 2 ^ min a0_4.toNat 64)) = ji28 := hji28
                    have hji28z : a0_4 ≤ 64 → (IntKind.i64.wrap (1 * 2 ^ a0_4.toNat)) = ji28 := shl_small hji28
                    have hji28u : (IntKind.i64.wrap (2 ^ min a0_4.toNat 64)) = ji28 := by have h_ := hji28_; rw [Int.one_mul] at h_; exact h_
                    have hji28v : a0_4 ≤ 64 → (IntKind.i64.wrap (2 ^ a0_4.toNat)) = ji28 := fun hle_ => by have h_ := hji28z hle_; rw [Int.one_mul] at h_; exact h_
                    have hji28y : (wrap64 (1 * 2 ^ min a0_4.toNat 64)) = ji28 := (i64_w _).symm.trans hji28_
                    have hji28x : a0_4 ≤ 64 → (wrap64 (1 * 2 ^ a0_4.toNat)) = ji28 := fun h_ => (i64_w _).symm.trans (hji28z h_)
                    have H' := Aside0.mk H
                    clear H
                    obtain ⟨Ao29, co29, eo29⟩ := Kd.R_slice HO175.out
                    subst eo29
                    go_wp2_with (first | (go_at_call 10; (with_reducible refine (vec_Same.calls _ _ t173 _ _ t167 true _ ?side1 ?side2 ?side3 ?side4 A24.out).mono ?_); (case side1 => repeat (first | exact (Kd.R_reads' HO175.out).2.2 | (with_reducible refine Kd.C_alloc ?_ _) | (with_reducible refine Kd.C_drewN ?_ _) | (with_reducible refine Kd.C_drew ?_))); (case side2 => exact (Kd.R_reads' HO175.out).2.1); (case side3 => repeat (first | exact (Kd.R_reads' HO169.out).2.2 | (with_reducible refine Kd.C_alloc ?_ _) | (with_reducible refine Kd.C_drewN ?_ _) | (with_reducible refine Kd.C_drew ?_))); (case side4 => exact (Kd.R_reads' HO169.out).2.1); rintro e w' ⟨rfl, ⟨nd, rfl⟩⟩; have hcz30_0 : w21.cell? ⟨gb165, 0, none⟩ = some (.int .i64 a0_0) := (blk_cell BK165.out 0).trans rfl; have hcz30_1 : w21.cell? ⟨gb165, 1, none⟩ = some (.int .i64 a0_1) := (blk_cell BK165.out 1).trans rfl; have hcz30_2 : w21.cell? ⟨gb165, 2, none⟩ = some (.int .i64 a0_2) := (blk_cell BK165.out 2).trans rfl; have hcz30_3 : w21.cell? ⟨gb165, 3, none⟩ = some (.int .i64 a0_3) := (blk_cell BK165.out 3).trans rfl; have hcz30_4 : w21.cell? ⟨gb165, 4, none⟩ = some (.int .i64 a0_4) := (blk_cell BK165.out 4).trans rfl; have hfz30_0 := blk_frozen BK165.out 0; have hfz30_1 := blk_frozen BK165.out 1; have hfz30_2 := blk_frozen BK165.out 2; have hfz30_3 := blk_frozen BK165.out 3; have hfz30_4 := blk_frozen BK165.out 4))
                    go_meet
                    case rel => exact ⟨_, (decide (t177 > (wrap64 (Int.tdiv (wrap64 ((ji28) + 1)) 2)))), (by first | rfl | (simp; done) | (simp only [← hji28] <;> (first | rfl | simp)) | (simp [*]; done)), H', ⟨by first | omega | exact Nat.le_refl _⟩, ⟨by (with_reducible repeat (first | apply Kd.R_alloc | apply Kd.R_drewN | apply Kd.R_drew)); exact Kd.R_mono HO169.out (fun _ hk => trivial)⟩, ⟨by (with_reducible repeat (first | refine blk_drewN ?_ _ | refine blk_drew ?_ | refine blk_alloc ?_ _)); exact BK165.out⟩, ⟨by repeat (first | (with_reducible first | exact HB.out | apply below_alloc | apply pw_below_drewN | apply below_drew1 | refine below_set ?_ GE165.out) | exact HB.out)⟩⟩
                  · rw [if_neg c27] at H
                    exact absurd H (by simp)
                · rw [if_neg c26] at H
                  exact (thrumlaw17_ModelStarts.j0_not (H.trans (by rw [HR_.out]))).elim
              · replace c25 := Bool.eq_false_iff.mpr c25
                subst c25
                have H1 : (thrumlaw17_ModelStarts.j0 k true t167 true a0_0 a0_1 a0_2 a0_3 a0_4) = some r := by rw [if_neg (show ¬ (false = true) by decide)] at H; exact H
                exact (thrumlaw17_ModelStarts.j0_not (H1.trans (by rw [HR_.out]))).elim
            · rw [if_neg c23] at H
              exact (thrumlaw17_ModelStarts.j0_not (H.trans (by rw [HR_.out]))).elim
          · rw [if_neg c22] at H
            exact (thrumlaw17_ModelStarts.j0_not (H.trans (by rw [HR_.out]))).elim
        case rest =>
          clear HC11
          try clear c2
          try clear p2
          try clear c3
          try clear c4
          try clear c6
          try clear p6
          try clear c7
          try clear c7b0
          try clear c7b1
          try clear c8
          try clear c8b0
          try clear c8b1
          try clear c9
          try clear c22
          try clear c22b0
          try clear c22b1
          try clear c23
          try clear c23b0
          try clear c23b1
          try clear c25
          try clear c26
          try clear c26b0
          try clear c26b1
          try clear c27
          try clear c27b0
          try clear c27b1
          try clear hcz14_0
          try clear hcz14_1
          try clear hcz14_2
          try clear hcz14_3
          try clear hcz14_4
          try clear hcz16_0
          try clear hcz16_1
          try clear hcz16_2
          try clear hcz16_3
          try clear hcz16_4
          try clear hcz18_0
          try clear hcz18_1
          try clear hcz18_2
          try clear hcz18_3
          try clear hcz18_4
          try clear hcz30_0
          try clear hcz30_1
          try clear hcz30_2
          try clear hcz30_3
          try clear hcz30_4
          try clear hfz14_0
          try clear hfz14_1
          try clear hfz14_2
          try clear hfz14_3
          try clear hfz14_4
          try clear hfz16_0
          try clear hfz16_1
          try clear hfz16_2
          try clear hfz16_3
          try clear hfz16_4
          try clear hfz18_0
          try clear hfz18_1
          try clear hfz18_2
          try clear hfz18_3
          try clear hfz18_4
          try clear hfz30_0
          try clear hfz30_1
          try clear hfz30_2
          try clear hfz30_3
          try clear hfz30_4
          obtain ⟨kq, x76_10, rfl, HA, HJ10, HO_6, BK165, HB⟩ := hcut
          cases kq with
          | zero => exact absurd HA.out (by simp [thrumlaw17_ModelStarts.j0])
          | succ kj10 =>
            have H := HA.out
            clear HA
            simp only [thrumlaw17_ModelStarts.j0] at H
            by_cases c33 : x76_10 = true
            · subst c33
              have H1 : (some false) = some r := by rw [if_pos rfl] at H; exact H
              exact absurd (Option.some.inj H1) (by rw [HR_.out]; decide)
            · replace c33 := Bool.eq_false_iff.mpr c33
              subst c33
              have H1 : (if a0_1 < 0 then (some false) else (if a0_1 > 100 then (some false) else (if true = true then (if 0 ≤ a0_1 then (if (a0_1 : Int).toNat ≤ 35184372088832 then ((model_Fits.f a0_0 a0_1 a0_2 a0_3 a0_4 t167 (([(⟨(List.replicate (a0_1 : Int).toNat 0), 0⟩ : S37)] : List (S37)))).bind fun t186 => (some (t186 == 0))) else (none)) else (none)) else (some false)))) = some r := by rw [if_neg (show ¬ (false = true) by decide)] at H; exact H
              clear H
              have H := H1
              clear H1
              by_cases c34 : a0_1 < 0
              · rw [if_pos c34] at H
                exact absurd (Option.some.inj H) (by rw [HR_.out]; decide)
              · rw [if_neg c34] at H
                have c34b0 : decide (a0_1 < 0) = false := decide_eq_false c34
                clear c34
                by_cases c36 : a0_1 > 100
                · rw [if_pos c36] at H
                  exact absurd (Option.some.inj H) (by rw [HR_.out]; decide)
                · rw [if_neg c36] at H
                  have c36b0 : decide (100 < a0_1) = false := decide_eq_false c36
                  clear c36
                  first | rw [if_pos rfl] at H | rw [if_pos trivial] at H
                  by_cases c38 : 0 ≤ a0_1
                  · rw [if_pos c38] at H
                    have c38b0 := eq_true c38
                    have c38b1 : decide (0 ≤ a0_1) = true := decide_eq_true c38
                    clear c38
                    by_cases c39 : (a0_1 : Int).toNat ≤ 35184372088832
                    · rw [if_pos c39] at H
                      have c39b0 := eq_true c39
                      have c39b1 : decide ((a0_1 : Int).toNat ≤ 35184372088832) = true := decide_eq_true c39
                      clear c39
                      obtain ⟨y180, hy180⟩ : ∃ y_ : List Int, y_ = (List.replicate (a0_1 : Int).toNat 0) := ⟨_, rfl⟩
                      replace H : ((model_Fits.f a0_0 a0_1 a0_2 a0_3 a0_4 t167 (([(⟨y180, 0⟩ : S37)] : List (S37)))).bind fun t186 => (some (t186 == 0))) = some r := by first | (rw [hy180]; with_reducible exact H) | (have H2_ := (Option.bind_some _ _).symm.trans H; rw [hy180]; with_reducible exact H2_) | (have H2_ := (Option.bind_some _ _).symm.trans H; with_reducible exact H2_) | with_reducible exact H | (rw [hy180]; exact H) | exact H
                      have Ny180 := Aside0.mk hy180
                      clear hy180
                      obtain ⟨y183, hy183⟩ : ∃ y_ : List (S37), y_ = (([(⟨y180, 0⟩ : S37)] : List (S37))) := ⟨_, rfl⟩
                      replace H : ((model_Fits.f a0_0 a0_1 a0_2 a0_3 a0_4 t167 y183).bind fun t186 => (some (t186 == 0))) = some r := by first | (rw [hy183]; with_reducible exact H) | (have H2_ := (Option.bind_some _ _).symm.trans H; rw [hy183]; with_reducible exact H2_) | (have H2_ := (Option.bind_some _ _).symm.trans H; with_reducible exact H2_) | with_reducible exact H | (rw [hy183]; exact H) | exact H
                      have Ny183 := Aside0.mk hy183
                      clear hy183
                      replace H := Option.bind_eq_some_iff.mp H
                      obtain ⟨t186, A400, H⟩ := H
                      replace H : (some (t186 == 0)) = some r := H
                      have A40 := Aside0.mk A400
                      clear A400
                      obtain rfl := Option.some.inj H
                      have hcz41_0 : wc.cell? ⟨gb165, 0, none⟩ = some (.int .i64 a0_0) := (blk_cell BK165.out 0).trans rfl
                      have hcz41_1 : wc.cell? ⟨gb165, 1, none⟩ = some (.int .i64 a0_1) := (blk_cell BK165.out 1).trans rfl
                      have hcz41_2 : wc.cell? ⟨gb165, 2, none⟩ = some (.int .i64 a0_2) := (blk_cell BK165.out 2).trans rfl
                      have hcz41_3 : wc.cell? ⟨gb165, 3, none⟩ = some (.int .i64 a0_3) := (blk_cell BK165.out 3).trans rfl
                      have hcz41_4 : wc.cell? ⟨gb165, 4, none⟩ = some (.int .i64 a0_4) := (blk_cell BK165.out 4).trans rfl
                      have hfz41_0 := blk_frozen BK165.out 0
                      have hfz41_1 := blk_frozen BK165.out 1
                      have hfz41_2 := blk_frozen BK165.out 2
                      have hfz41_3 := blk_frozen BK165.out 3
                      have hfz41_4 := blk_frozen BK165.out 4
                      try go_wp2
                      have n0_ := Aside0.mk (Kd.R_drew HO_6.out)
                      have n1_ := Aside0.mk (blk_drew BK165.out)
                      have n2_ := Aside0.mk (below_drew1 HB.out)
                      clear HO_6
                      clear BK165
                      clear HB
                      have HO_6 := n0_
                      have BK165 := n1_
                      have HB := n2_
                      clear n0_ n1_ n2_
                      refine start_ (n := 13) (S := fun w' => w'.cell? ⟨gb165, 0, none⟩ = some (.int .i64 a0_0) ∧ w'.cell? ⟨gb165, 1, none⟩ = some (.int .i64 a0_1) ∧ w'.cell? ⟨gb165, 2, none⟩ = some (.int .i64 a0_2) ∧ w'.cell? ⟨gb165, 3, none⟩ = some (.int .i64 a0_3) ∧ w'.cell? ⟨gb165, 4, none⟩ = some (.int .i64 a0_4)) (ds := []) #[false, false, false, false, false, false, false, false, false, false, false, false, false] (by kernel_rfl) rfl rfl ⟨(blk_cell BK165.out 0).trans rfl, (blk_cell BK165.out 1).trans rfl, (blk_cell BK165.out 2).trans rfl, (blk_cell BK165.out 3).trans rfl, (blk_cell BK165.out 4).trans rfl⟩ (fun hHeld => ?_); refine with_tabW thrumlaw17_ModelStarts.tab16 thrumlaw17_ModelStarts.bits16 (fun HT_ HW_ => ?_)
                      generalize wc.drew = w42 at HO_6 BK165 HB hHeld ⊢
                      refine pure_ (i := 0) (N := some 85) (v := ?_) (a' := ?_) #[true, false, false, false, false, false, false, false, false, false, false, false, false] rfl rfl (any_of HT_.out (by kernel_rfl)) (fun _ _ _ h => h) (Or.inl ⟨by rfl, ?_⟩) ?_ ?_
                      rotate_left
                      · intro w'
                        go_simp
                        with_reducible rfl
                      rotate_left
                      · simp only [Act.put, List.setIfInBounds_toArray, List.set_cons_zero, List.set_cons_succ, i64_w, i32_w]
                        rfl
                      refine pure_ (i := 1) (N := some 86) (v := ?_) (a' := ?_) #[true, true, false, false, false, false, false, false, false, false, false, false, false] rfl rfl (any_of HT_.out (by kernel_rfl)) (fun _ _ _ h => h) (Or.inl ⟨by rfl, ?_⟩) ?_ ?_
                      rotate_left
                      · intro w'
                        go_simp
                        with_reducible rfl
                      rotate_left
                      · simp only [Act.put, List.setIfInBounds_toArray, List.set_cons_zero, List.set_cons_succ, i64_w, i32_w]
                        rfl
                      refine pure_ (i := 3) (N := some 88) (v := ?_) (a' := ?_) #[true, true, false, true, false, false, false, false, false, false, false, false, false] rfl rfl (any_of HT_.out (by kernel_rfl)) (fun _ _ _ h => h) (Or.inl ⟨by rfl, ?_⟩) ?_ ?_
                      rotate_left
                      · intro w'
                        go_simp
                        with_reducible rfl
                      rotate_left
                      · simp only [Act.put, List.setIfInBounds_toArray, List.set_cons_zero, List.set_cons_succ, i64_w, i32_w]
                        rfl
                      refine pure_ (i := 4) (N := some 89) (v := ?_) (a' := ?_) #[true, true, false, true, true, false, false, false, false, false, false, false, false] rfl rfl (any_of HT_.out (by kernel_rfl)) (fun _ _ _ h => h) (Or.inl ⟨by rfl, ?_⟩) ?_ ?_
                      rotate_left
                      · intro w'
                        go_simp
                        with_reducible rfl
                      rotate_left
                      · simp only [Act.put, List.setIfInBounds_toArray, List.set_cons_zero, List.set_cons_succ, i64_w, i32_w]
                        rfl
                      refine take_ (i := 2) (N := some 87) (v := ?_) (a' := ?_) #[true, true, true, true, true, false, false, false, false, false, false, false, false] rfl rfl (take_ofW HT_.out HW_.out (by kernel_rfl)) (fun _ _ _ h => h) (Or.inl ⟨by rfl, ?_⟩) hHeld ?_ ?_
                      rotate_left
                      · rintro w' ⟨s0, s1, s2, s3, s4⟩
                        go_simp
                        with_reducible rfl
                      rotate_left
                      · simp only [Act.put, List.setIfInBounds_toArray, List.set_cons_zero, List.set_cons_succ, i64_w, i32_w]
                        rfl
                      refine take_ (i := 5) (N := some 90) (v := ?_) (a' := ?_) #[true, true, true, true, true, true, false, false, false, false, false, false, false] rfl rfl (take_ofW HT_.out HW_.out (by kernel_rfl)) (fun _ _ _ h => h) (Or.inl ⟨by rfl, ?_⟩) hHeld ?_ ?_
                      rotate_left
                      · rintro w' ⟨s0, s1, s2, s3, s4⟩
                        go_simp
                        with_reducible rfl
                      rotate_left
                      · simp only [Act.put, List.setIfInBounds_toArray, List.set_cons_zero, List.set_cons_succ, i64_w, i32_w]
                        rfl
                      refine one_ (i := 6) (N := some 91) #[true, true, true, true, true, true, true, false, false, false, false, false, false] rfl rfl (one_of HT_.out (by kernel_rfl)) (by decide) (fun K hK => ?_)
                      refine Kd.R_make_step (Kd.int .i64) _ 2 (by rfl) (N := 91) rfl 26 _ _ rfl a0_1 rfl rfl Try.underlying26 (.int .i64 0) 8 info2 rfl (by decide) (by omega) 0 (ok := fun _ => True) (okp := fun _ => True) rfl (fun _ hk => hk) trivial (of_decide_eq_true (by first | (with_reducible assumption) | assumption)) (Nat.le_trans (Nat.mul_le_mul_right _ (of_decide_eq_true (by first | (with_reducible assumption) | assumption) : a0_1.toNat ≤ 35184372088832)) (by omega)) (Below.refl _ _) (Nat.le_refl _) ?_
                      intro v181 w43 ho44 hb hg_ hnew_
                      clear hg_ hnew_
                      (first | rw [← Ny180.out] at ho44 | (simp only [Int.reduceToNat] at ho44; rw [← Ny180.out] at ho44))
                      have n0_ := Aside0.mk (Kd.R_elder' (by (with_reducible repeat (first | apply Kd.R_alloc | apply Kd.R_drewN | apply Kd.R_drew)); exact HO_6.out) (Kd.R_base ho44) hb)
                      have n1_ := Aside0.mk (Kd.R_lower (Kd.R_new' ho44 (Kd.R_lt (by (with_reducible repeat (first | apply Kd.R_alloc | apply Kd.R_drewN | apply Kd.R_drew)); exact HO_6.out))) (below_size (by repeat (first | (with_reducible first | exact HB.out | apply below_alloc | apply pw_below_drewN | apply below_drew1 | refine below_set ?_ GE165.out) | exact HB.out))))
                      have n2_ := Aside0.mk (blk_below (g := gb165) (o := .cells #[.int .i64 a0_0, .int .i64 a0_1, .int .i64 a0_2, .int .i64 a0_3, .int .i64 a0_4] 23 (0, 0)) (by (with_reducible repeat (first | refine blk_drewN ?_ _ | refine blk_drew ?_ | refine blk_alloc ?_ _)); exact BK165.out) hb)
                      have n3_ := Aside0.mk (below_step (by repeat (first | (with_reducible first | exact HB.out | apply below_alloc | apply pw_below_drewN | apply below_drew1 | refine below_set ?_ GE165.out) | exact HB.out)) hb)
                      clear HO_6
                      clear BK165
                      clear HB
                      have HO_6 := n0_
                      have HO182 := n1_
                      have BK165 := n2_
                      have HB := n3_
                      clear n0_ n1_ n2_ n3_
                      clear hb ho44
                      obtain ⟨Ao45, co45, eo45⟩ := Kd.R_slice HO182.out
                      (first | subst eo45 | (injection eo45 with f1_ f2_ f3_; have f4_ := f1_.symm; have f5_ := f3_.symm; clear f1_ f2_ f3_; subst f4_; subst f5_))
                      refine hK.out _ _ ⟨(blk_cell BK165.out 0).trans rfl, (blk_cell BK165.out 1).trans rfl, (blk_cell BK165.out 2).trans rfl, (blk_cell BK165.out 3).trans rfl, (blk_cell BK165.out 4).trans rfl⟩ (fun hHeld => ?_)
                      clear hK K
                      refine norm_ (a' := ?_) ?_ ?_
                      rotate_left
                      · show Act.put _ (some 91) _ = _
                        simp only [Act.put, List.setIfInBounds_toArray, List.set_cons_zero, List.set_cons_succ, i64_w, i32_w]
                        rfl
                      refine pure_ (i := 7) (N := some 92) (v := ?_) (a' := ?_) #[true, true, true, true, true, true, true, true, false, false, false, false, false] rfl rfl (any_of HT_.out (by kernel_rfl)) (fun _ _ _ h => h) (Or.inl ⟨by rfl, ?_⟩) ?_ ?_
                      rotate_left
                      · intro w'
                        go_simp
                        with_reducible rfl
                      rotate_left
                      · simp only [Act.put, List.setIfInBounds_toArray, List.set_cons_zero, List.set_cons_succ, i64_w, i32_w]
                        rfl
                      refine one_ (i := 8) (N := some 93) #[true, true, true, true, true, true, true, true, true, false, false, false, false] rfl rfl (one_of HT_.out (by kernel_rfl)) (by decide) (fun K hK => ?_)
                      refine Kd.N_lit_step k37 _ 37 ?hg (N' := 93) ?hd (xs := ([(⟨y180, 0⟩ : S37)] : List (S37))) (inner := [.slice Ao45 y180.length co45, .int .i64 0]) (ok := (fun k_ => some k_ ≠ (.slice Ao20 t167.length co20 : Value).ownBlock ∧ k_ ≠ gb165)) (okp := (fun k_ => some k_ ≠ (.slice Ao20 t167.length co20 : Value).ownBlock ∧ k_ ≠ gb165)) ?hr ?hp (fun _ hk => hk) ((show ∀ k_, w43.heap.size ≤ k_ → (fun k_ => some k_ ≠ (.slice Ao20 t167.length co20 : Value).ownBlock ∧ k_ ≠ gb165) k_ from fun k_ hk => ⟨Kd.fresh' (Kd.R_lt (by (with_reducible repeat (first | apply Kd.R_alloc | apply Kd.R_drewN | apply Kd.R_drew)); exact HO_6.out)) k_ hk, Kd.freshB (g := gb165) (o := .cells #[.int .i64 a0_0, .int .i64 a0_1, .int .i64 a0_2, .int .i64 a0_3, .int .i64 a0_4] 23 (0, 0)) (by (with_reducible repeat (first | refine blk_drewN ?_ _ | refine blk_drew ?_ | refine blk_alloc ?_ _)); exact BK165.out) k_ hk⟩) _ (Nat.le_refl _)) (Below.refl _ _) (Nat.le_refl _) (by simp) ?_; (case hd => rfl); (case hg => rfl); (case hr => first | (go_simp; done) | (go_simp; rfl)); (case hp => exact (Reps.c2 (show Kd.FK k37 _ _ (⟨y180, 0⟩ : S37) [.slice Ao45 y180.length co45, .int .i64 0] from (k37_mkF _ _ (⟨y180, 0⟩ : S37) (Kd.R_reads' (Kd.R_mono (ok' := (fun k_ => some k_ ≠ (.slice Ao20 t167.length co20 : Value).ownBlock ∧ k_ ≠ gb165)) (Kd.R_types (HO182.out) BK165.out (by decide)) (fun k_ hk => ⟨hk.1.2, hk.2⟩))).2.1 (Kd.R_F (Kd.R_mono (ok' := (fun k_ => some k_ ≠ (.slice Ao20 t167.length co20 : Value).ownBlock ∧ k_ ≠ gb165)) (Kd.R_types (HO182.out) BK165.out (by decide)) (fun k_ hk => ⟨hk.1.2, hk.2⟩))))) (Reps.none _ _)))
                      intro v184 w46 ho47 hb hg_ hnew_
                      clear hg_ hnew_
                      (first | rw [← Ny183.out] at ho47 | (simp only [Int.reduceToNat] at ho47; rw [← Ny183.out] at ho47))
                      have n0_ := Aside0.mk (Kd.R_below (by (with_reducible repeat (first | apply Kd.R_alloc | apply Kd.R_drewN | apply Kd.R_drew)); exact HO_6.out) hb)
                      have n1_ := Aside0.mk (Kd.N_lower ho47 (below_size (by repeat (first | (with_reducible first | exact HB.out | apply below_alloc | apply pw_below_drewN | apply below_drew1 | refine below_set ?_ GE165.out) | exact HB.out))))
                      have n2_ := Aside0.mk (blk_below (g := gb165) (o := .cells #[.int .i64 a0_0, .int .i64 a0_1, .int .i64 a0_2, .int .i64 a0_3, .int .i64 a0_4] 23 (0, 0)) (by (with_reducible repeat (first | refine blk_drewN ?_ _ | refine blk_drew ?_ | refine blk_alloc ?_ _)); exact BK165.out) hb)
                      have n3_ := Aside0.mk (below_step (by repeat (first | (with_reducible first | exact HB.out | apply below_alloc | apply pw_below_drewN | apply below_drew1 | refine below_set ?_ GE165.out) | exact HB.out)) hb)
                      clear HO_6
                      clear BK165
                      clear HB
                      clear HO182
                      have HO_6 := n0_
                      have HO185 := n1_
                      have BK165 := n2_
                      have HB := n3_
                      clear n0_ n1_ n2_ n3_
                      clear hb ho47
                      obtain ⟨Ao48, co48, eo48⟩ := Kd.N_slice HO185.out
                      (first | subst eo48 | (injection eo48 with f1_ f2_ f3_; have f4_ := f1_.symm; have f5_ := f3_.symm; clear f1_ f2_ f3_; subst f4_; subst f5_))
                      refine hK.out _ _ ⟨(blk_cell BK165.out 0).trans rfl, (blk_cell BK165.out 1).trans rfl, (blk_cell BK165.out 2).trans rfl, (blk_cell BK165.out 3).trans rfl, (blk_cell BK165.out 4).trans rfl⟩ (fun hHeld => ?_)
                      clear hK K
                      refine norm_ (a' := ?_) ?_ ?_
                      rotate_left
                      · show Act.put _ (some 93) _ = _
                        simp only [Act.put, List.setIfInBounds_toArray, List.set_cons_zero, List.set_cons_succ, i64_w, i32_w]
                        rfl
                      refine one_ (i := 9) (N := some 94) #[true, true, true, true, true, true, true, true, true, true, false, false, false] rfl rfl (one_of HT_.out (by kernel_rfl)) (by decide) (fun K hK => ?_)
                      refine goes_ Try.func11 (by kernel_rfl) rfl #[.agg #[.int .i64 a0_0, .int .i64 a0_1, .int .i64 a0_2, .int .i64 a0_3, .int .i64 a0_4], .slice Ao20 t167.length co20, .slice Ao48 y183.length co48] (by rfl) rfl rfl (by (try simp only [List.map_toArray, List.map_cons, List.map_nil]); first | done | rfl | (simp only [List.length_drop, List.length_take]; rfl)) ?_
                      with_reducible refine (model_Fits.calls a0_0 a0_1 a0_2 a0_3 a0_4 _ _ t167 _ _ y183 t186 _ ?side1 ?side2 ?side3 ?side4 A40.out).mono ?_
                      (case side1 => repeat (first | exact (Kd.R_reads' HO_6.out).2.2 | (with_reducible refine Kd.C_alloc ?_ _) | (with_reducible refine Kd.C_drewN ?_ _) | (with_reducible refine Kd.C_drew ?_)))
                      (case side2 => exact (Kd.R_reads' HO_6.out).2.1)
                      (case side3 => repeat (first | exact (Kd.N_reads' HO185.out).2.2 | (with_reducible refine Kd.C_alloc ?_ _) | (with_reducible refine Kd.C_drewN ?_ _) | (with_reducible refine Kd.C_drew ?_)))
                      (case side4 => exact (Kd.N_reads' HO185.out).2.1)
                      rintro e w49 ⟨rfl, hb⟩
                      refine ⟨_, rfl, ?_⟩
                      have n0_ := Aside0.mk (Kd.R_below (by (with_reducible repeat (first | apply Kd.R_alloc | apply Kd.R_drewN | apply Kd.R_drew)); exact HO_6.out) hb)
                      have n1_ := Aside0.mk (Kd.N_below (by (with_reducible repeat (first | apply Kd.N_alloc | apply Kd.N_drewN | apply Kd.N_drew)); exact HO185.out) hb)
                      have n2_ := Aside0.mk (blk_below (g := gb165) (o := .cells #[.int .i64 a0_0, .int .i64 a0_1, .int .i64 a0_2, .int .i64 a0_3, .int .i64 a0_4] 23 (0, 0)) (by (with_reducible repeat (first | refine blk_drewN ?_ _ | refine blk_drew ?_ | refine blk_alloc ?_ _)); exact BK165.out) hb)
                      have n3_ := Aside0.mk (below_step (by repeat (first | (with_reducible first | exact HB.out | apply below_alloc | apply pw_below_drewN | apply below_drew1 | refine below_set ?_ GE165.out) | exact HB.out)) hb)
                      clear HO_6
                      clear HO185
                      clear BK165
                      clear HB
                      have HO_6 := n0_
                      have HO185 := n1_
                      have BK165 := n2_
                      have HB := n3_
                      clear n0_ n1_ n2_ n3_
                      (try clear hb)
                      (try clear hb2)
                      (try clear hk)
                      (try clear hi)
                      refine hK.out _ _ ⟨(blk_cell BK165.out 0).trans rfl, (blk_cell BK165.out 1).trans rfl, (blk_cell BK165.out 2).trans rfl, (blk_cell BK165.out 3).trans rfl, (blk_cell BK165.out 4).trans rfl⟩ (fun hHeld => ?_)
                      clear hK K
                      refine norm_ (a' := ?_) ?_ ?_
                      rotate_left
                      · show Act.put _ (some 94) _ = _
                        simp only [Act.put, List.setIfInBounds_toArray, List.set_cons_zero, List.set_cons_succ, i64_w, i32_w]
                        rfl
                      refine pure_ (i := 10) (N := some 95) (v := ?_) (a' := ?_) #[true, true, true, true, true, true, true, true, true, true, true, false, false] rfl rfl (any_of HT_.out (by kernel_rfl)) (fun _ _ _ h => h) (Or.inl ⟨by rfl, ?_⟩) ?_ ?_
                      rotate_left
                      · intro w'
                        go_simp
                        with_reducible rfl
                      rotate_left
                      · simp only [Act.put, List.setIfInBounds_toArray, List.set_cons_zero, List.set_cons_succ, i64_w, i32_w]
                        rfl
                      refine pure_ (i := 11) (N := some 96) (v := ?_) (a' := ?_) #[true, true, true, true, true, true, true, true, true, true, true, true, false] rfl rfl (any_of HT_.out (by kernel_rfl)) (fun _ _ _ h => h) (Or.inl ⟨by rfl, ?_⟩) ?_ ?_
                      rotate_left
                      · intro w'
                        go_simp
                        with_reducible rfl
                      rotate_left
                      · simp only [Act.put, List.setIfInBounds_toArray, List.set_cons_zero, List.set_cons_succ, i64_w, i32_w]
                        rfl
                      refine pure_ (i := 12) (N := some 4) (v := ?_) (a' := ?_) #[true, true, true, true, true, true, true, true, true, true, true, true, true] rfl rfl (any_of HT_.out (by kernel_rfl)) (fun _ _ _ h => h) (Or.inl ⟨by rfl, ?_⟩) ?_ ?_
                      rotate_left
                      · intro w'
                        go_simp
                        with_reducible rfl
                      rotate_left
                      · simp only [Act.put, List.setIfInBounds_toArray, List.set_cons_zero, List.set_cons_succ, i64_w, i32_w]
                        rfl
                      refine done_ (done_of HT_.out (by kernel_rfl)) ?_
                      try go_wp2
                      go_ret
                      exact ⟨by first | rfl | (simp [errW_none, errW_some] <;> rfl) | (simp [*, errW_none, errW_some] <;> rfl), by repeat (first | (with_reducible first | exact HB.out | apply below_alloc | apply pw_below_drewN | apply below_drew1 | refine below_set ?_ GE165.out) | exact HB.out)⟩
                    · rw [if_neg c39] at H
                      exact absurd H (by simp)
                  · rw [if_neg c38] at H
                    exact absurd H (by simp)
      · rw [if_neg c8] at H
        have c8b0 : (t170 == 0) = false := beq_eq_false_iff_ne.mpr c8
        have c8b1 : (t170 != 0) = true := bne_iff_ne.mpr c8
        obtain rfl := Option.some.inj H
        go_enter Try.func3, Try.ntmps3
        go_wp2_with (first | ((with_reducible refine gate_dst (N := 2) rfl ?_); (try (refine gate_guard (by rfl) ?_; dsimp only)); refine box_event ?hg (N := 2) ?hd (cs := #[.int .i64 a0_0, .int .i64 a0_1, .int .i64 a0_2, .int .i64 a0_3, .int .i64 a0_4]) (t := 23) ?hr ?_; (case hd => rfl); (case hg => rfl); (case hr => first | (go_simp; done) | (go_simp; rfl)); intro gb165 hg w50 hbox hb; have n0_ := Aside0.mk (below_step (by repeat (first | (with_reducible first | exact HB.out | apply below_alloc | apply pw_below_drewN | apply below_drew1) | exact HB.out)) hb); have n1_ := Aside0.mk (hbox); have n2_ := Aside0.mk ((by rw [hg]; exact (below_size (by repeat (first | (with_reducible first | exact HB.out | apply below_alloc | apply pw_below_drewN | apply below_drew1) | exact HB.out))) : w.heap.size ≤ gb165)); have n3_ := Aside0.mk ((by rw [hg]; exact (below_size (by repeat (first | (with_reducible first | exact HB.out | apply below_alloc | apply pw_below_drewN | apply below_drew1) | exact HB.out))) : w.heap.size ≤ gb165)); clear HB; have HB := n0_; have BK165 := n1_; have GW165 := n2_; have GE165 := n3_; clear n0_ n1_ n2_ n3_; clear hb hbox hg) | ((with_reducible refine gate_callee (f := 6) rfl ?_); refine goesL_ (some 14) rfl rfl Try.func6 (by kernel_rfl) rfl #[] rfl (by (try simp only [List.map_toArray, List.map_cons, List.map_nil]); first | done | rfl | (simp only [List.length_drop, List.length_take]; rfl)) ?_; (with_reducible refine (thrumlaw17_live.calls k  true _ A3.out).mono ?_); rintro e w51 ⟨rfl, hb⟩; refine ⟨_, rfl, ?_⟩; have n0_ := Aside0.mk (blk_below (g := gb165) (o := .cells #[.int .i64 a0_0, .int .i64 a0_1, .int .i64 a0_2, .int .i64 a0_3, .int .i64 a0_4] 23 (0, 0)) (by (with_reducible repeat (first | refine blk_drewN ?_ _ | refine blk_drew ?_ | refine blk_alloc ?_ _)); exact BK165.out) hb); have n1_ := Aside0.mk (below_step (by repeat (first | (with_reducible first | exact HB.out | apply below_alloc | apply pw_below_drewN | apply below_drew1 | refine below_set ?_ GE165.out) | exact HB.out)) hb); clear BK165; clear HB; have BK165 := n0_; have HB := n1_; clear n0_ n1_; (try clear hb); (try clear hb2); (try clear hk); (try clear hi); have hcz52_0 : w51.cell? ⟨gb165, 0, none⟩ = some (.int .i64 a0_0) := (blk_cell BK165.out 0).trans rfl; have hcz52_1 : w51.cell? ⟨gb165, 1, none⟩ = some (.int .i64 a0_1) := (blk_cell BK165.out 1).trans rfl; have hcz52_2 : w51.cell? ⟨gb165, 2, none⟩ = some (.int .i64 a0_2) := (blk_cell BK165.out 2).trans rfl; have hcz52_3 : w51.cell? ⟨gb165, 3, none⟩ = some (.int .i64 a0_3) := (blk_cell BK165.out 3).trans rfl; have hcz52_4 : w51.cell? ⟨gb165, 4, none⟩ = some (.int .i64 a0_4) := (blk_cell BK165.out 4).trans rfl; have hfz52_0 := blk_frozen BK165.out 0; have hfz52_1 := blk_frozen BK165.out 1; have hfz52_2 := blk_frozen BK165.out 2; have hfz52_3 := blk_frozen BK165.out 3; have hfz52_4 := blk_frozen BK165.out 4) | ((with_reducible refine gate_callee (f := 7) rfl ?_); refine goesL_ (some 20) rfl rfl Try.func7 (by kernel_rfl) rfl #[.agg #[.int .i64 a0_0, .int .i64 a0_1, .int .i64 a0_2, .int .i64 a0_3, .int .i64 a0_4], .int .u64 a1] rfl (by (try simp only [List.map_toArray, List.map_cons, List.map_nil]); first | done | rfl | (simp only [List.length_drop, List.length_take]; rfl)) ?_; (with_reducible refine (model_Start.calls k a0_0 a0_1 a0_2 a0_3 a0_4 a1 t167 t170 _ A5.out).mono ?_); rintro e w53 ⟨v168, rfl, ho0, hb⟩; refine ⟨_, rfl, ?_⟩; have n0_ := Aside0.mk (Kd.R_lower ho0 (below_size (by repeat (first | (with_reducible first | exact HB.out | apply below_alloc | apply pw_below_drewN | apply below_drew1 | refine below_set ?_ GE165.out) | exact HB.out)))); have n1_ := Aside0.mk (blk_below (g := gb165) (o := .cells #[.int .i64 a0_0, .int .i64 a0_1, .int .i64 a0_2, .int .i64 a0_3, .int .i64 a0_4] 23 (0, 0)) (by (with_reducible repeat (first | refine blk_drewN ?_ _ | refine blk_drew ?_ | refine blk_alloc ?_ _)); exact BK165.out) hb); have n2_ := Aside0.mk (below_step (by repeat (first | (with_reducible first | exact HB.out | apply below_alloc | apply pw_below_drewN | apply below_drew1 | refine below_set ?_ GE165.out) | exact HB.out)) hb); clear BK165; clear HB; have HO169 := n0_; have BK165 := n1_; have HB := n2_; clear n0_ n1_ n2_; (try clear hb); (try clear hb2); (try clear hk); (try clear hi); (try clear ho0); have hcz54_0 : w53.cell? ⟨gb165, 0, none⟩ = some (.int .i64 a0_0) := (blk_cell BK165.out 0).trans rfl; have hcz54_1 : w53.cell? ⟨gb165, 1, none⟩ = some (.int .i64 a0_1) := (blk_cell BK165.out 1).trans rfl; have hcz54_2 : w53.cell? ⟨gb165, 2, none⟩ = some (.int .i64 a0_2) := (blk_cell BK165.out 2).trans rfl; have hcz54_3 : w53.cell? ⟨gb165, 3, none⟩ = some (.int .i64 a0_3) := (blk_cell BK165.out 3).trans rfl; have hcz54_4 : w53.cell? ⟨gb165, 4, none⟩ = some (.int .i64 a0_4) := (blk_cell BK165.out 4).trans rfl; have hfz54_0 := blk_frozen BK165.out 0; have hfz54_1 := blk_frozen BK165.out 1; have hfz54_2 := blk_frozen BK165.out 2; have hfz54_3 := blk_frozen BK165.out 3; have hfz54_4 := blk_frozen BK165.out 4) | ((with_reducible refine gate_callee (f := 8) rfl ?_); refine goesL_ (some 25) rfl rfl Try.func8 (by kernel_rfl) rfl #[.agg #[.int .i64 a0_0, .int .i64 a0_1, .int .i64 a0_2, .int .i64 a0_3, .int .i64 a0_4]] rfl (by (try simp only [List.map_toArray, List.map_cons, List.map_nil]); first | done | rfl | (simp only [List.length_drop, List.length_take]; rfl)) ?_; (with_reducible refine (model_Dim.calls a0_0 a0_1 a0_2 a0_3 a0_4 t171 t172 _ A6.out).mono ?_); rintro e w55 ⟨rfl, hb⟩; refine ⟨_, rfl, ?_⟩; have n0_ := Aside0.mk (Kd.R_below (by (with_reducible repeat (first | apply Kd.R_alloc | apply Kd.R_drewN | apply Kd.R_drew)); exact HO169.out) hb); have n1_ := Aside0.mk (blk_below (g := gb165) (o := .cells #[.int .i64 a0_0, .int .i64 a0_1, .int .i64 a0_2, .int .i64 a0_3, .int .i64 a0_4] 23 (0, 0)) (by (with_reducible repeat (first | refine blk_drewN ?_ _ | refine blk_drew ?_ | refine blk_alloc ?_ _)); exact BK165.out) hb); have n2_ := Aside0.mk (below_step (by repeat (first | (with_reducible first | exact HB.out | apply below_alloc | apply pw_below_drewN | apply below_drew1 | refine below_set ?_ GE165.out) | exact HB.out)) hb); clear HO169; clear BK165; clear HB; have HO169 := n0_; have BK165 := n1_; have HB := n2_; clear n0_ n1_ n2_; (try clear hb); (try clear hb2); (try clear hk); (try clear hi); obtain ⟨Ao56, co56, eo56⟩ := Kd.R_slice HO169.out; subst eo56))
        go_ret
        exact ⟨by first | rfl | (simp [errW_none, errW_some] <;> rfl) | (simp [*, errW_none, errW_some] <;> rfl), by repeat (first | (with_reducible first | exact HB.out | apply below_alloc | apply pw_below_drewN | apply below_drew1 | refine below_set ?_ GE165.out) | exact HB.out)⟩
    · rw [if_neg c7] at H
      exact absurd (Option.some.inj H) (by rw [HR_.out]; decide)
  · replace c4 := Bool.eq_false_iff.mpr c4
    subst c4
    have H1 : (some false) = some r := by rw [if_neg (show ¬ (false = true) by decide)] at H; exact H
    exact absurd (Option.some.inj H1) (by rw [HR_.out]; decide)

/-- THE ONE PURE STATEMENT of thrumlaw17_ModelStarts: yours. -/
def thrumlaw17_ModelStarts.Pure : Prop := ∀ (a0_0 : Int) (a0_1 : Int) (a0_2 : Int) (a0_3 : Int) (a0_4 : Int) (a1 : Int), (Lit.int .i64 a0_0).wf = true → (Lit.int .i64 a0_1).wf = true → (Lit.int .i64 a0_2).wf = true → (Lit.int .i64 a0_3).wf = true → (Lit.int .i64 a0_4).wf = true → (Lit.int .u64 a1).wf = true → ∃ k, thrumlaw17_ModelStarts.f k a0_0 a0_1 a0_2 a0_3 a0_4 a1 = some true
theorem thrumlaw17_ModelStarts.walk (P : thrumlaw17_ModelStarts.Pure) (a0_0 : Int) (a0_1 : Int) (a0_2 : Int) (a0_3 : Int) (a0_4 : Int) (a1 : Int) (w : World) (w0_0 : (Lit.int .i64 a0_0).wf = true) (w0_1 : (Lit.int .i64 a0_1).wf = true) (w0_2 : (Lit.int .i64 a0_2).wf = true) (w0_3 : (Lit.int .i64 a0_3).wf = true) (w0_4 : (Lit.int .i64 a0_4).wf = true) (w1 : (Lit.int .u64 a1).wf = true) :
    Calls Try.prog 3 #[.agg #[.int .i64 a0_0, .int .i64 a0_1, .int .i64 a0_2, .int .i64 a0_3, .int .i64 a0_4], .int .u64 a1] w fun e w' => e = .returned (.bool true) ∧ Below w.heap.size w w' := by
  obtain ⟨k, h⟩ := P a0_0 a0_1 a0_2 a0_3 a0_4 a1 w0_0 w0_1 w0_2 w0_3 w0_4 w1
  refine (thrumlaw17_ModelStarts.calls k a0_0 a0_1 a0_2 a0_3 a0_4 a1 true w h rfl).mono ?_
  rintro e w' ⟨rfl, hd⟩
  exact ⟨rfl, hd⟩































































































































































































































































































































































































































































































































end Go.Proofs.Ytbnfejaeekljcaa.HD
