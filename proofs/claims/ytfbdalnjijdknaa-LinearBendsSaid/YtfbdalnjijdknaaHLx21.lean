/- What Go functions do, each as a plain Lean function with the same answers, and the proof of it, in every world: printed by the session's driver over the kit's print, with texts by hand. -/
import Derived.Test.YtfbdalnjijdknaaHLx0
import Derived.Test.YtfbdalnjijdknaaHLx1
import Derived.Test.YtfbdalnjijdknaaHLx2
import Derived.Test.YtfbdalnjijdknaaHLx8
import Derived.Test.YtfbdalnjijdknaaHLx10
import Derived.Test.YtfbdalnjijdknaaHLx13
import Derived.Test.YtfbdalnjijdknaaHLx17
import Derived.Test.YtfbdalnjijdknaaHLx20
namespace Go.Proofs.Ytfbdalnjijdknaa.HL
open Go.RowKit Go.Proofs.YtfbdalnjijdknaaW.PrintWords Go.Proofs.YtfbdalnjijdknaaW.PrintLast Go.Proofs.YtfbdalnjijdknaaW.PrintMore
attribute [local go_sem] max2_int min2_int max_two min_two max_three min_three max_four min_four   -- for this text's walks alone
open Go.Proofs.Ytfbdalnjijdknaa.Sp
attribute [local go_sem] Go.Proofs.Ytfbdalnjijdknaa.Sp.u64_not
set_option linter.unusedVariables false
set_option linter.unusedSimpArgs false

/-! ### thrumref14_GradP: function 72 -/
def thrumref14_GradP.l0 : Nat → List Int → Int → List (S26) → List (List Int) → List (S26) → Int → Int → Option (List Int × Int)
 | 0, _, _, _, _, _, _, _ => none
 | k + 1, x0, x1, x2, x9, x24, x25, x26 => if x26 < x25 then (if 0 ≤ x26 then (if x26 < (x24.length : Int) then ((thrumref14_Off.f x0 ((rd_T26 x24 x26).f0) ((rd_T26 x24 x26).f1) x1).bind fun bt309 => (if bt309.2 = 0 then ((thrumref02_Scale.f ((rd_T26 x24 x26).f0) bt309.1 x1).bind fun bt311 => (if bt311.2 = 0 then (if bt311.1.length < 17592186044416 then (if x9.length < 5864062014805 then (thrumref14_GradP.l0 k x0 x1 x2 (x9 ++ [(bt311.1 ++ [bt309.1])]) x24 x25 (wrap64 (x26 + 1))) else (none)) else (none)) else (some (([] : List Int), bt311.2)))) else (some (([] : List Int), bt309.2)))) else (none)) else (none)) else ((thrumref14_Mean.f (x2.length : Int) x9).bind fun bt303 => (some (bt303.1, bt303.2)))
def thrumref14_GradP.f (k : Nat) (l0 : List Int) (a1 : Int) (l2 : List (S26)) : Option (List Int × Int) := (thrumref14_Check.f (wrap64 ((l0.length : Int) - 1)) l0 l2).bind fun t302 => (if t302 = 0 then (thrumref14_GradP.l0 k l0 a1 l2 ([] : List (List Int)) l2 (l2.length : Int) 0) else (some (([] : List Int), t302)))
theorem thrumref14_GradP.mono_l : ∀ k, (∀ y0 y1 y2 y3 y4 y5 y6, LeO (thrumref14_GradP.l0 k y0 y1 y2 y3 y4 y5 y6) (thrumref14_GradP.l0 (k + 1) y0 y1 y2 y3 y4 y5 y6))
 | 0 => fun _ _ _ _ _ _ _ r h => by simp [thrumref14_GradP.l0] at h
 | k + 1 => by
  have ih0 := thrumref14_GradP.mono_l k
  ·
   intro y0 y1 y2 y3 y4 y5 y6
   unfold thrumref14_GradP.l0
   repeat' first
   | (with_reducible exact ih0 _ _ _ _ _ _ _)
   | (with_reducible exact LeO.refl _)
   | (with_reducible exact LeO.none _)
   | (with_reducible refine LeO.ite ?_ ?_)
   | (with_reducible refine LeO.bind ?_ (fun _ => ?_))
   | exact ih0 _ _ _ _ _ _ _
   | exact LeO.none _
   | refine LeO.ite ?_ ?_
   | refine LeO.bind ?_ (fun _ => ?_)
theorem thrumref14_GradP.mono : ∀ a0 a1 a2 k, LeO (thrumref14_GradP.f k a0 a1 a2) (thrumref14_GradP.f (k + 1) a0 a1 a2) := by
 intro a0 a1 a2 k
 have ih0 := thrumref14_GradP.mono_l k
 unfold thrumref14_GradP.f
 repeat' first
   | (with_reducible exact ih0 _ _ _ _ _ _ _)
   | (with_reducible exact LeO.refl _)
   | (with_reducible exact LeO.none _)
   | (with_reducible refine LeO.ite ?_ ?_)
   | (with_reducible refine LeO.bind ?_ (fun _ => ?_))
   | exact ih0 _ _ _ _ _ _ _
   | exact LeO.none _
   | refine LeO.ite ?_ ?_
   | refine LeO.bind ?_ (fun _ => ?_)
set_option maxHeartbeats 8000000 in
set_option maxRecDepth 100000 in
theorem thrumref14_GradP.calls (k : Nat) (A0 : Option Addr) (c0 : Nat) (l0 : List Int) (a1 : Int) (A2 : Option Addr) (c2 : Nat) (l2 : List (S26)) (r1 : List Int) (r2 : Int) (w : World) (hr0 : Kd.C (Kd.int .i64) w A0 l0.length l0) (hc0 : l0.length ≤ c0) (hr2 : Kd.C k26 w A2 l2.length l2) (hc2 : l2.length ≤ c2) (h : thrumref14_GradP.f k l0 a1 l2 = some (r1, r2)) :
  Calls Try.prog 72 #[.slice A0 l0.length c0, .int .i64 a1, .slice A2 l2.length c2] w fun e w' => ∃ v0_ : Value, e = .returned (.tuple #[v0_, .int .i64 r2]) ∧ Kd.R (Kd.int .i64) 2 w' w.heap.size (fun _ => True) v0_ r1 ∧ Below w.heap.size w w' := by
 have hu26 := Try.underlying26
 have HR0 := Aside0.mk hr0
 have HC0 := Aside0.mk hc0
 clear hr0 hc0
 have HR2 := Aside0.mk hr2
 have HC2 := Aside0.mk hc2
 clear hr2 hc2
 have HB := Aside0.mk (Below.refl w.heap.size w)
 have H : ((thrumref14_Check.f (wrap64 ((l0.length : Int) - 1)) l0 l2).bind fun t302 => (if t302 = 0 then (thrumref14_GradP.l0 k l0 a1 l2 ([] : List (List Int)) l2 (l2.length : Int) 0) else (some (([] : List Int), t302)))) = some (r1, r2) := h
 clear h
 replace H := Option.bind_eq_some_iff.mp H
 obtain ⟨t302, A40, H⟩ := H
 replace H : (if t302 = 0 then (thrumref14_GradP.l0 k l0 a1 l2 ([] : List (List Int)) l2 (l2.length : Int) 0) else (some (([] : List Int), t302))) = some (r1, r2) := H
 have A4 := Aside0.mk A40
 clear A40
 by_cases c5 : t302 = 0
 ·
  rw [if_pos c5] at H
  have c5b0 : (t302 == 0) = true := beq_iff_eq.mpr c5
  have c5b1 : (t302 != 0) = false := bne_eq_false_iff_eq.mpr c5
  clear c5
  have H' := Aside0.mk H
  clear H
  go_enter Try.func72, Try.ntmps72
  go_wp2_with (first | ((with_reducible refine gate_callee (f := 70) rfl ?_); refine goesL_ (some 20) rfl rfl Try.func70 (by kernel_rfl) rfl #[.int .i64 (wrap64 ((l0.length : Int) - 1)), .slice A0 l0.length c0, .slice A2 l2.length c2] rfl (by (try simp only [List.map_toArray, List.map_cons, List.map_nil]); first | done | rfl | (simp only [List.length_drop, List.length_take]; rfl)) ?_; (with_reducible refine (thrumref14_Check.calls (wrap64 ((l0.length : Int) - 1)) _ _ l0 _ _ l2 t302 _ ?side1 ?side2 ?side3 ?side4 A4.out).mono ?_); (case side1 => repeat (first | exact HR0.out | (with_reducible refine ccA ?_ _) | (with_reducible refine ccN ?_ _) | (with_reducible refine ccD ?_))); (case side2 => exact HC0.out); (case side3 => repeat (first | exact HR2.out | (with_reducible refine ccA ?_ _) | (with_reducible refine ccN ?_ _) | (with_reducible refine ccD ?_))); (case side4 => exact HC2.out); rintro e w6 ⟨rfl, hb⟩; refine ⟨_, rfl, ?_⟩; have n0_ := Aside0.mk (zzT (by repeat (first | (with_reducible first | exact HB.out | apply zzA | apply zzN | apply zzD) | exact HB.out)) hb); clear HB; have HB := n0_; clear n0_; (try clear hb); (try clear hb2); (try clear hk); (try clear hi)))
  go_loopg [9, 26] k (fun kq v9 v26 w' => ∃ (x9_1 : List (List Int)) (x26_1 : Int), v26 = .int .i64 x26_1 ∧ Aside0 (thrumref14_GradP.l0 kq l0 a1 l2 x9_1 l2 (l2.length : Int) x26_1 = some (r1, r2)) ∧ Aside0 (kq ≤ k) ∧ Aside0 (Kd.S (Kd.slice 2 (Kd.int .i64)) 22 w' w.heap.size (fun _ => True) v9 x9_1) ∧ Aside0 (Below w.heap.size w w'))
  case atStart => exact ⟨(([] : List (List Int))), (0), (by first | rfl | (simp; done) | (simp [*]; done)), H', ⟨Nat.le_refl _⟩, ⟨by first | exact Kd.S_nil _ _ _ _ _ | exact Kd.N_nil _ _ _ _ _ | exact Kd.V_nil _ _ _ _ _ | exact Kd.Q_nil _ _ _ _ _ | exact Kd.R_nil _ _ _ _ _⟩, ⟨by repeat (first | (with_reducible first | exact HB.out | apply zzA | apply zzN | apply zzD) | exact HB.out)⟩⟩
  case round =>
   clear H'
   try clear c2
   try clear p2
   try clear c5
   try clear c5b0
   try clear c5b1
   try clear p6
   obtain ⟨x9_1, x26_1, rfl, HA, HK1, HO_9, HB⟩ := hrel
   cases gk with
   | zero => exact absurd HA.out (by simp [thrumref14_GradP.l0])
   | succ k1 =>
    have H := HA.out
    clear HA
    simp only [thrumref14_GradP.l0] at H
    by_cases c7 : x26_1 < (l2.length : Int)
    ·
     rw [if_pos c7] at H
     have c7b0 : decide (x26_1 < (l2.length : Int)) = true := decide_eq_true c7
     clear c7
     by_cases c8 : 0 ≤ x26_1
     ·
      rw [if_pos c8] at H
      have c8b0 : decide (0 ≤ x26_1) = true := decide_eq_true c8
      clear c8
      by_cases c9 : x26_1 < (l2.length : Int)
      ·
       rw [if_pos c9] at H
       have c9b0 : decide (x26_1 < (l2.length : Int)) = true := decide_eq_true c9
       clear c9
       replace H := Option.bind_eq_some_iff.mp H
       obtain ⟨⟨t309, t310⟩, A100, H⟩ := H
       replace H : (if t310 = 0 then ((thrumref02_Scale.f ((rd_T26 l2 x26_1).f0) t309 a1).bind fun bt311 => (if bt311.2 = 0 then (if bt311.1.length < 17592186044416 then (if x9_1.length < 5864062014805 then (thrumref14_GradP.l0 k1 l0 a1 l2 (x9_1 ++ [(bt311.1 ++ [t309])]) l2 (l2.length : Int) (wrap64 (x26_1 + 1))) else (none)) else (none)) else (some (([] : List Int), bt311.2)))) else (some (([] : List Int), t310))) = some (r1, r2) := H
       have A10 := Aside0.mk A100
       clear A100
       by_cases c11 : t310 = 0
       ·
        rw [if_pos c11] at H
        have c11b0 : (t310 == 0) = true := beq_iff_eq.mpr c11
        have c11b1 : (t310 != 0) = false := bne_eq_false_iff_eq.mpr c11
        clear c11
        replace H := Option.bind_eq_some_iff.mp H
        obtain ⟨⟨t311, t312⟩, A120, H⟩ := H
        replace H : (if t312 = 0 then (if t311.length < 17592186044416 then (if x9_1.length < 5864062014805 then (thrumref14_GradP.l0 k1 l0 a1 l2 (x9_1 ++ [(t311 ++ [t309])]) l2 (l2.length : Int) (wrap64 (x26_1 + 1))) else (none)) else (none)) else (some (([] : List Int), t312))) = some (r1, r2) := H
        have A12 := Aside0.mk A120
        clear A120
        by_cases c13 : t312 = 0
        ·
         rw [if_pos c13] at H
         have c13b0 : (t312 == 0) = true := beq_iff_eq.mpr c13
         have c13b1 : (t312 != 0) = false := bne_eq_false_iff_eq.mpr c13
         clear c13
         by_cases c14 : t311.length < 17592186044416
         ·
          rw [if_pos c14] at H
          have LMc14 := Aside0.mk c14
          clear c14
          obtain ⟨y315, hy315⟩ : ∃ y_ : List Int, y_ = (t311 ++ [t309]) := ⟨_, rfl⟩
          replace H : (if x9_1.length < 5864062014805 then (thrumref14_GradP.l0 k1 l0 a1 l2 (x9_1 ++ [y315]) l2 (l2.length : Int) (wrap64 (x26_1 + 1))) else (none)) = some (r1, r2) := by first | (rw [hy315]; with_reducible exact H) | (have H2_ := (Option.bind_some _ _).symm.trans H; rw [hy315]; with_reducible exact H2_) | (have H2_ := (Option.bind_some _ _).symm.trans H; with_reducible exact H2_) | with_reducible exact H | (rw [hy315]; exact H) | exact H
          have Ny315 := Aside0.mk hy315
          clear hy315
          by_cases c15 : x9_1.length < 5864062014805
          ·
           rw [if_pos c15] at H
           have LMc15 := Aside0.mk c15
           clear c15
           obtain ⟨y318, hy318⟩ : ∃ y_ : List (List Int), y_ = (x9_1 ++ [y315]) := ⟨_, rfl⟩
           replace H : (thrumref14_GradP.l0 k1 l0 a1 l2 y318 l2 (l2.length : Int) (wrap64 (x26_1 + 1))) = some (r1, r2) := by first | (rw [hy318]; with_reducible exact H) | (have H2_ := (Option.bind_some _ _).symm.trans H; rw [hy318]; with_reducible exact H2_) | (have H2_ := (Option.bind_some _ _).symm.trans H; with_reducible exact H2_) | with_reducible exact H | (rw [hy318]; exact H) | exact H
           have Ny318 := Aside0.mk hy318
           clear hy318
           have H' := Aside0.mk H
           clear H
           have p307 : 0 ≤ (x26_1 : Int) := of_decide_eq_true (by first | (with_reducible assumption) | assumption)
           have q307 : x26_1 < (l2.length : Int) := of_decide_eq_true (by first | (with_reducible assumption) | assumption)
           obtain ⟨ad307, A307_0, c307_0, e307, hx307_0, hx307_1, hl307_0, hi307_0⟩ := at_T26 HR2.out x26_1 p307 q307
           cases e307
           replace hx307_0 := (HB.out.cell (World.block_lt_of_cell? w _ hx307_0)).trans hx307_0
           replace hx307_1 := (HB.out.cell (World.block_lt_of_cell? w _ hx307_1)).trans hx307_1
           have HR307_0 := Aside0.mk hi307_0
           have HC307_0 := Aside0.mk hl307_0
           clear hi307_0 hl307_0
           replace p307 := eq_true p307
           replace q307 := eq_true q307
           go_wp2_with (first | ((with_reducible refine gate_dst (N := 11) rfl ?_); refine box_event ?hg (N := 11) ?hd (cs := #[.slice none 0 0, .int .i64 0]) (t := 26) ?hr ?_; (case hd => rfl); (case hg => rfl); (case hr => first | (go_simp; done) | (go_simp; rfl)); intro gb308 hg w16 hbox hb; have n0_ := Aside0.mk (Kd.S_below (by (with_reducible repeat (first | apply Kd.S_alloc | apply Kd.S_drewN | apply Kd.S_drew)); exact HO_9.out) hb); have n1_ := Aside0.mk (zzT (by repeat (first | (with_reducible first | exact HB.out | apply zzA | apply zzN | apply zzD) | exact HB.out)) hb); have n2_ := Aside0.mk (hbox); have n3_ := Aside0.mk ((by rw [hg]; exact (zzS (by repeat (first | (with_reducible first | exact HB.out | apply zzA | apply zzN | apply zzD) | exact HB.out))) : w.heap.size ≤ gb308)); have n4_ := Aside0.mk ((by rw [hg]; exact (zzS (by repeat (first | (with_reducible first | exact HB.out | apply zzA | apply zzN | apply zzD) | exact HB.out))) : w.heap.size ≤ gb308)); clear HO_9; clear HB; have HO_9 := n0_; have HB := n1_; have BK308 := n2_; have GW308 := n3_; have GE308 := n4_; clear n0_ n1_ n2_ n3_ n4_; clear hb hbox hg; have hcz17_0 : w16.cell? ⟨gb308, 0, none⟩ = some (.slice none 0 0) := (blk_cell BK308.out 0).trans rfl; have hcz17_1 : w16.cell? ⟨gb308, 1, none⟩ = some (.int .i64 0) := (blk_cell BK308.out 1).trans rfl; have hfz17_0 := blk_frozen BK308.out 0; have hfz17_1 := blk_frozen BK308.out 1) | ((with_reducible refine gate_callee (f := 64) rfl ?_); refine goesL_ (some 34) rfl rfl Try.func64 (by kernel_rfl) rfl #[.slice A0 l0.length c0, .agg #[.slice A307_0 ((rd_T26 l2 x26_1).f0).length c307_0, .int .i64 ((rd_T26 l2 x26_1).f1)], .int .i64 a1] rfl (by (try simp only [List.map_toArray, List.map_cons, List.map_nil]); first | done | rfl | (simp only [List.length_drop, List.length_take]; rfl)) ?_; (with_reducible refine (thrumref14_Off.calls _ _ l0 _ _ ((rd_T26 l2 x26_1).f0) ((rd_T26 l2 x26_1).f1) a1 t309 t310 _ ?side1 ?side2 ?side3 ?side4 A10.out).mono ?_); (case side1 => exact Kd.C_below HR0.out (by repeat (first | (with_reducible first | exact HB.out | apply zzA | apply zzN | apply zzD | refine below_set ?_ GE308.out) | exact HB.out))); (case side2 => exact HC0.out); (case side3 => exact Kd.C_below HR307_0.out (by repeat (first | (with_reducible first | exact HB.out | apply zzA | apply zzN | apply zzD | refine below_set ?_ GE308.out) | exact HB.out))); (case side4 => exact HC307_0.out); rintro e w18 ⟨rfl, hb⟩; refine ⟨_, rfl, ?_⟩; have n0_ := Aside0.mk (Kd.S_below (by (with_reducible repeat (first | apply Kd.S_alloc | apply Kd.S_drewN | apply Kd.S_drew)); exact (Kd.S_mono (Kd.S_far (p := ⟨gb308, 1, none⟩) (Kd.S_far (p := ⟨gb308, 0, none⟩) (Kd.S_types HO_9.out BK308.out (by decide)) (fun _ hk => hk.2) (.slice A307_0 ((rd_T26 l2 x26_1).f0).length c307_0)) (fun _ hk => hk.2) (.int .i64 ((rd_T26 l2 x26_1).f1))) (fun _ h_ => h_.1))) hb); have n1_ := Aside0.mk (blk_below (g := gb308) (o := .cells #[.slice A307_0 ((rd_T26 l2 x26_1).f0).length c307_0, .int .i64 ((rd_T26 l2 x26_1).f1)] 26 (0, 0)) (by (with_reducible repeat (first | refine kkN ?_ _ | refine kkD ?_ | refine kkA ?_ _)); refine blk_put (cs := #[.slice A307_0 ((rd_T26 l2 x26_1).f0).length c307_0, .int .i64 0]) ?_ 1 _ rfl; (with_reducible repeat (first | refine kkN ?_ _ | refine kkD ?_ | refine kkA ?_ _)); refine blk_put (cs := #[.slice none 0 0, .int .i64 0]) ?_ 0 _ rfl; (with_reducible repeat (first | refine kkN ?_ _ | refine kkD ?_ | refine kkA ?_ _)); exact BK308.out) hb); have n2_ := Aside0.mk (zzT (by repeat (first | (with_reducible first | exact HB.out | apply zzA | apply zzN | apply zzD | refine below_set ?_ GE308.out) | exact HB.out)) hb); clear HO_9; clear BK308; clear HB; have HO_9 := n0_; have BK308 := n1_; have HB := n2_; clear n0_ n1_ n2_; (try clear hb); (try clear hb2); (try clear hk); (try clear hi); have hcz19_0 : w18.cell? ⟨gb308, 0, none⟩ = some (.slice A307_0 ((rd_T26 l2 x26_1).f0).length c307_0) := (blk_cell BK308.out 0).trans rfl; have hcz19_1 : w18.cell? ⟨gb308, 1, none⟩ = some (.int .i64 ((rd_T26 l2 x26_1).f1)) := (blk_cell BK308.out 1).trans rfl; have hfz19_0 := blk_frozen BK308.out 0; have hfz19_1 := blk_frozen BK308.out 1) | ((with_reducible refine gate_callee (f := 129) rfl ?_); refine goesL_ (some 45) rfl rfl Try.func129 (by kernel_rfl) rfl #[.slice A307_0 ((rd_T26 l2 x26_1).f0).length c307_0, .int .i64 t309, .int .i64 a1] rfl (by (try simp only [List.map_toArray, List.map_cons, List.map_nil]); first | done | rfl | (simp only [List.length_drop, List.length_take]; rfl)) ?_; (with_reducible refine (thrumref02_Scale.calls _ _ ((rd_T26 l2 x26_1).f0) t309 a1 t311 t312 _ ?side1 ?side2 A12.out).mono ?_); (case side1 => repeat (first | exact (Kd.C_below HR307_0.out HB.out) | (with_reducible refine ccA ?_ _) | (with_reducible refine ccN ?_ _) | (with_reducible refine ccD ?_))); (case side2 => exact HC307_0.out); rintro e w20 ⟨v313, rfl, ho0, hb⟩; refine ⟨_, rfl, ?_⟩; have n0_ := Aside0.mk (Kd.S_elder' (by (with_reducible repeat (first | apply Kd.S_alloc | apply Kd.S_drewN | apply Kd.S_drew)); exact HO_9.out) (Kd.R_base ho0) hb); have n1_ := Aside0.mk (Kd.R_lower ho0 (zzS (by repeat (first | (with_reducible first | exact HB.out | apply zzA | apply zzN | apply zzD | refine below_set ?_ GE308.out) | exact HB.out)))); have n2_ := Aside0.mk (blk_below (g := gb308) (o := .cells #[.slice A307_0 ((rd_T26 l2 x26_1).f0).length c307_0, .int .i64 ((rd_T26 l2 x26_1).f1)] 26 (0, 0)) (by (with_reducible repeat (first | refine kkN ?_ _ | refine kkD ?_ | refine kkA ?_ _)); exact BK308.out) hb); have n3_ := Aside0.mk (zzT (by repeat (first | (with_reducible first | exact HB.out | apply zzA | apply zzN | apply zzD | refine below_set ?_ GE308.out) | exact HB.out)) hb); clear HO_9; clear BK308; clear HB; have HO_9 := n0_; have HO314 := n1_; have BK308 := n2_; have HB := n3_; clear n0_ n1_ n2_ n3_; (try clear hb); (try clear hb2); (try clear hk); (try clear hi); (try clear ho0)) | ((with_reducible refine gate_builtin (b := .append) (xs := #[.tmp 52, .tmp 54]) rfl ?_); at_builtin; refine Kd.R_append (Kd.int .i64) (w0 := w) w.heap.size rfl (.tmp 52) (.tmp 54) 22 2 (.int .i64 0) 8 rfl Try.underlying22 info2 rfl (by decide) (by omega) v313 t311 t309 [.int .i64 t309] (fun _ => True) (fun _ => False) rfl rfl ?aP (fun _ hk => hk.elim) ?aF ?aO ?aB ?aS ?aL ?_; (case aP => exact rfl); (case aB => exact (by repeat (first | (with_reducible first | exact HB.out | apply zzA | apply zzN | apply zzD | refine below_set ?_ GE308.out) | exact HB.out))); (case aF => exact (fun _ _ => trivial)); (case aO => exact (by (with_reducible repeat (first | apply rrA | apply rrN | apply rrD)); exact HO314.out)); (case aS => exact (zzS (by repeat (first | (with_reducible first | exact HB.out | apply zzA | apply zzN | apply zzD | refine below_set ?_ GE308.out) | exact HB.out)))); (case aL => have := LMc14.out; omega); intro v316 w21 ho hb hg hat; rw [← Ny315.out] at ho; have n0_ := Aside0.mk (Kd.S_after (ok := (fun _ => True)) (by (with_reducible repeat (first | apply Kd.S_alloc | apply Kd.S_drewN | apply Kd.S_drew)); exact HO_9.out) hg hat); have n1_ := Aside0.mk (blk_grown (g := gb308) (o := .cells #[.slice A307_0 ((rd_T26 l2 x26_1).f0).length c307_0, .int .i64 ((rd_T26 l2 x26_1).f1)] 26 (0, 0)) (by (with_reducible repeat (first | refine kkN ?_ _ | refine kkD ?_ | refine kkA ?_ _)); exact BK308.out) hg (Kd.R_ne HO314.out BK308.out (by decide))); have n2_ := Aside0.mk (hb); have n3_ := Aside0.mk (ho); clear HO_9; clear BK308; clear HB; clear HO314; have HO_9 := n0_; have BK308 := n1_; have HB := n2_; have HO317 := n3_; clear n0_ n1_ n2_ n3_; clear ho hb hg hat; obtain ⟨Ao23, co23, eo23⟩ := Kd.R_slice HO317.out; subst eo23) | ((with_reducible refine gate_builtin (b := .append) (xs := #[.tmp 51, .tmp 56]) rfl ?_); at_builtin; refine Kd.S_append (Kd.slice 2 (Kd.int .i64)) (w0 := w) w.heap.size rfl (.tmp 51) (.tmp 56) 30 22 (.slice none 0 0) 24 rfl Try.underlying30 info22 rfl (by decide) (by omega) u9 x9_1 y315 [.slice Ao23 y315.length co23] (fun _ => True) (fun k_ => some k_ = (.slice Ao23 y315.length co23 : Value).ownBlock) rfl rfl ?aP (fun k_ hk_ => ((Kd.R_mono (ok' := fun k_ => ((fun _ => True)) k_ ∧ some k_ ≠ (u9 : Value).ownBlock) (Kd.R_apart' (HO317.out) (Kd.S_typed HO_9.out) (by decide)) (fun k_ hk => ⟨trivial, hk.2⟩))).1 k_ hk_.symm) ?aF ?aO ?aB ?aS ?aL ?_; (case aP => exact Kd.M_row (Kd.R_mono (Kd.R_tight rfl (Kd.R_mono (ok' := fun k_ => ((fun _ => True)) k_ ∧ some k_ ≠ (u9 : Value).ownBlock) (Kd.R_apart' (HO317.out) (Kd.S_typed HO_9.out) (by decide)) (fun k_ hk => ⟨trivial, hk.2⟩))) (fun _ h_ => h_))); (case aB => exact (by repeat (first | (with_reducible first | exact HB.out | apply zzA | apply zzN | apply zzD | refine below_set ?_ GE308.out) | exact HB.out))); (case aF => exact (fun _ _ => trivial)); (case aO => exact (by (with_reducible repeat (first | apply Kd.S_alloc | apply Kd.S_drewN | apply Kd.S_drew)); exact Kd.S_mono HO_9.out (fun k_ hk => ⟨trivial, fun e_ => hk.2 e_⟩))); (case aS => exact (zzS (by repeat (first | (with_reducible first | exact HB.out | apply zzA | apply zzN | apply zzD | refine below_set ?_ GE308.out) | exact HB.out)))); (case aL => have := LMc15.out; omega); intro v319 w22 ho hb hg hat; rw [← Ny318.out] at ho; have n0_ := Aside0.mk (blk_grown (g := gb308) (o := .cells #[.slice A307_0 ((rd_T26 l2 x26_1).f0).length c307_0, .int .i64 ((rd_T26 l2 x26_1).f1)] 26 (0, 0)) (by (with_reducible repeat (first | refine kkN ?_ _ | refine kkD ?_ | refine kkA ?_ _)); exact BK308.out) hg (Kd.S_ne HO_9.out BK308.out (by decide))); have n1_ := Aside0.mk (hb); have n2_ := Aside0.mk (ho); clear BK308; clear HB; clear HO_9; clear HO317; have BK308 := n0_; have HB := n1_; have HO320 := n2_; clear n0_ n1_ n2_; clear ho hb hg hat))
           go_roundg k1
           case measure => have := HK1.out; omega
           case rel => exact ⟨(y318), (wrap64 (x26_1 + 1)), (by first | rfl | (simp; done) | (simp [*]; done)), H', ⟨by have := HK1.out; omega⟩, ⟨by (with_reducible repeat (first | apply Kd.S_alloc | apply Kd.S_drewN | apply Kd.S_drew)); exact HO320.out⟩, ⟨by repeat (first | (with_reducible first | exact HB.out | apply zzA | apply zzN | apply zzD | refine below_set ?_ GE308.out) | exact HB.out)⟩⟩
          ·
           rw [if_neg c15] at H
           exact absurd H (by simp)
         ·
          rw [if_neg c14] at H
          exact absurd H (by simp)
        ·
         rw [if_neg c13] at H
         have c13b0 : (t312 == 0) = false := beq_eq_false_iff_ne.mpr c13
         have c13b1 : (t312 != 0) = true := bne_iff_ne.mpr c13
         simp only [Option.some.injEq, Prod.mk.injEq] at H
         obtain ⟨rfl, rfl⟩ := H
         have p307 : 0 ≤ (x26_1 : Int) := of_decide_eq_true (by first | (with_reducible assumption) | assumption)
         have q307 : x26_1 < (l2.length : Int) := of_decide_eq_true (by first | (with_reducible assumption) | assumption)
         obtain ⟨ad307, A307_0, c307_0, e307, hx307_0, hx307_1, hl307_0, hi307_0⟩ := at_T26 HR2.out x26_1 p307 q307
         cases e307
         replace hx307_0 := (HB.out.cell (World.block_lt_of_cell? w _ hx307_0)).trans hx307_0
         replace hx307_1 := (HB.out.cell (World.block_lt_of_cell? w _ hx307_1)).trans hx307_1
         have HR307_0 := Aside0.mk hi307_0
         have HC307_0 := Aside0.mk hl307_0
         clear hi307_0 hl307_0
         replace p307 := eq_true p307
         replace q307 := eq_true q307
         go_wp2_with (first | ((with_reducible refine gate_dst (N := 11) rfl ?_); refine box_event ?hg (N := 11) ?hd (cs := #[.slice none 0 0, .int .i64 0]) (t := 26) ?hr ?_; (case hd => rfl); (case hg => rfl); (case hr => first | (go_simp; done) | (go_simp; rfl)); intro gb308 hg w24 hbox hb; have n0_ := Aside0.mk (Kd.S_below (by (with_reducible repeat (first | apply Kd.S_alloc | apply Kd.S_drewN | apply Kd.S_drew)); exact HO_9.out) hb); have n1_ := Aside0.mk (zzT (by repeat (first | (with_reducible first | exact HB.out | apply zzA | apply zzN | apply zzD) | exact HB.out)) hb); have n2_ := Aside0.mk (hbox); have n3_ := Aside0.mk ((by rw [hg]; exact (zzS (by repeat (first | (with_reducible first | exact HB.out | apply zzA | apply zzN | apply zzD) | exact HB.out))) : w.heap.size ≤ gb308)); have n4_ := Aside0.mk ((by rw [hg]; exact (zzS (by repeat (first | (with_reducible first | exact HB.out | apply zzA | apply zzN | apply zzD) | exact HB.out))) : w.heap.size ≤ gb308)); clear HO_9; clear HB; have HO_9 := n0_; have HB := n1_; have BK308 := n2_; have GW308 := n3_; have GE308 := n4_; clear n0_ n1_ n2_ n3_ n4_; clear hb hbox hg; have hcz25_0 : w24.cell? ⟨gb308, 0, none⟩ = some (.slice none 0 0) := (blk_cell BK308.out 0).trans rfl; have hcz25_1 : w24.cell? ⟨gb308, 1, none⟩ = some (.int .i64 0) := (blk_cell BK308.out 1).trans rfl; have hfz25_0 := blk_frozen BK308.out 0; have hfz25_1 := blk_frozen BK308.out 1) | ((with_reducible refine gate_callee (f := 64) rfl ?_); refine goesL_ (some 34) rfl rfl Try.func64 (by kernel_rfl) rfl #[.slice A0 l0.length c0, .agg #[.slice A307_0 ((rd_T26 l2 x26_1).f0).length c307_0, .int .i64 ((rd_T26 l2 x26_1).f1)], .int .i64 a1] rfl (by (try simp only [List.map_toArray, List.map_cons, List.map_nil]); first | done | rfl | (simp only [List.length_drop, List.length_take]; rfl)) ?_; (with_reducible refine (thrumref14_Off.calls _ _ l0 _ _ ((rd_T26 l2 x26_1).f0) ((rd_T26 l2 x26_1).f1) a1 t309 t310 _ ?side1 ?side2 ?side3 ?side4 A10.out).mono ?_); (case side1 => exact Kd.C_below HR0.out (by repeat (first | (with_reducible first | exact HB.out | apply zzA | apply zzN | apply zzD | refine below_set ?_ GE308.out) | exact HB.out))); (case side2 => exact HC0.out); (case side3 => exact Kd.C_below HR307_0.out (by repeat (first | (with_reducible first | exact HB.out | apply zzA | apply zzN | apply zzD | refine below_set ?_ GE308.out) | exact HB.out))); (case side4 => exact HC307_0.out); rintro e w26 ⟨rfl, hb⟩; refine ⟨_, rfl, ?_⟩; have n0_ := Aside0.mk (Kd.S_below (by (with_reducible repeat (first | apply Kd.S_alloc | apply Kd.S_drewN | apply Kd.S_drew)); exact (Kd.S_mono (Kd.S_far (p := ⟨gb308, 1, none⟩) (Kd.S_far (p := ⟨gb308, 0, none⟩) (Kd.S_types HO_9.out BK308.out (by decide)) (fun _ hk => hk.2) (.slice A307_0 ((rd_T26 l2 x26_1).f0).length c307_0)) (fun _ hk => hk.2) (.int .i64 ((rd_T26 l2 x26_1).f1))) (fun _ h_ => h_.1))) hb); have n1_ := Aside0.mk (blk_below (g := gb308) (o := .cells #[.slice A307_0 ((rd_T26 l2 x26_1).f0).length c307_0, .int .i64 ((rd_T26 l2 x26_1).f1)] 26 (0, 0)) (by (with_reducible repeat (first | refine kkN ?_ _ | refine kkD ?_ | refine kkA ?_ _)); refine blk_put (cs := #[.slice A307_0 ((rd_T26 l2 x26_1).f0).length c307_0, .int .i64 0]) ?_ 1 _ rfl; (with_reducible repeat (first | refine kkN ?_ _ | refine kkD ?_ | refine kkA ?_ _)); refine blk_put (cs := #[.slice none 0 0, .int .i64 0]) ?_ 0 _ rfl; (with_reducible repeat (first | refine kkN ?_ _ | refine kkD ?_ | refine kkA ?_ _)); exact BK308.out) hb); have n2_ := Aside0.mk (zzT (by repeat (first | (with_reducible first | exact HB.out | apply zzA | apply zzN | apply zzD | refine below_set ?_ GE308.out) | exact HB.out)) hb); clear HO_9; clear BK308; clear HB; have HO_9 := n0_; have BK308 := n1_; have HB := n2_; clear n0_ n1_ n2_; (try clear hb); (try clear hb2); (try clear hk); (try clear hi); have hcz27_0 : w26.cell? ⟨gb308, 0, none⟩ = some (.slice A307_0 ((rd_T26 l2 x26_1).f0).length c307_0) := (blk_cell BK308.out 0).trans rfl; have hcz27_1 : w26.cell? ⟨gb308, 1, none⟩ = some (.int .i64 ((rd_T26 l2 x26_1).f1)) := (blk_cell BK308.out 1).trans rfl; have hfz27_0 := blk_frozen BK308.out 0; have hfz27_1 := blk_frozen BK308.out 1) | ((with_reducible refine gate_callee (f := 129) rfl ?_); refine goesL_ (some 45) rfl rfl Try.func129 (by kernel_rfl) rfl #[.slice A307_0 ((rd_T26 l2 x26_1).f0).length c307_0, .int .i64 t309, .int .i64 a1] rfl (by (try simp only [List.map_toArray, List.map_cons, List.map_nil]); first | done | rfl | (simp only [List.length_drop, List.length_take]; rfl)) ?_; (with_reducible refine (thrumref02_Scale.calls _ _ ((rd_T26 l2 x26_1).f0) t309 a1 t311 t312 _ ?side1 ?side2 A12.out).mono ?_); (case side1 => repeat (first | exact (Kd.C_below HR307_0.out HB.out) | (with_reducible refine ccA ?_ _) | (with_reducible refine ccN ?_ _) | (with_reducible refine ccD ?_))); (case side2 => exact HC307_0.out); rintro e w28 ⟨v313, rfl, ho0, hb⟩; refine ⟨_, rfl, ?_⟩; have n0_ := Aside0.mk (Kd.S_elder' (by (with_reducible repeat (first | apply Kd.S_alloc | apply Kd.S_drewN | apply Kd.S_drew)); exact HO_9.out) (Kd.R_base ho0) hb); have n1_ := Aside0.mk (Kd.R_lower ho0 (zzS (by repeat (first | (with_reducible first | exact HB.out | apply zzA | apply zzN | apply zzD | refine below_set ?_ GE308.out) | exact HB.out)))); have n2_ := Aside0.mk (blk_below (g := gb308) (o := .cells #[.slice A307_0 ((rd_T26 l2 x26_1).f0).length c307_0, .int .i64 ((rd_T26 l2 x26_1).f1)] 26 (0, 0)) (by (with_reducible repeat (first | refine kkN ?_ _ | refine kkD ?_ | refine kkA ?_ _)); exact BK308.out) hb); have n3_ := Aside0.mk (zzT (by repeat (first | (with_reducible first | exact HB.out | apply zzA | apply zzN | apply zzD | refine below_set ?_ GE308.out) | exact HB.out)) hb); clear HO_9; clear BK308; clear HB; have HO_9 := n0_; have HO314 := n1_; have BK308 := n2_; have HB := n3_; clear n0_ n1_ n2_ n3_; (try clear hb); (try clear hb2); (try clear hk); (try clear hi); (try clear ho0)))
         go_ret2
         exact ⟨_, by first | rfl | (simp [errW_none, errW_some] <;> rfl) | (simp [*, errW_none, errW_some] <;> rfl), by first | exact Kd.R_nil _ _ _ _ _ | exact Kd.N_nil _ _ _ _ _ | exact Kd.V_nil _ _ _ _ _ | exact Kd.Q_nil _ _ _ _ _ | exact Kd.S_nil _ _ _ _ _, by repeat (first | (with_reducible first | exact HB.out | apply zzA | apply zzN | apply zzD | refine below_set ?_ GE308.out) | exact HB.out)⟩
       ·
        rw [if_neg c11] at H
        have c11b0 : (t310 == 0) = false := beq_eq_false_iff_ne.mpr c11
        have c11b1 : (t310 != 0) = true := bne_iff_ne.mpr c11
        simp only [Option.some.injEq, Prod.mk.injEq] at H
        obtain ⟨rfl, rfl⟩ := H
        have p307 : 0 ≤ (x26_1 : Int) := of_decide_eq_true (by first | (with_reducible assumption) | assumption)
        have q307 : x26_1 < (l2.length : Int) := of_decide_eq_true (by first | (with_reducible assumption) | assumption)
        obtain ⟨ad307, A307_0, c307_0, e307, hx307_0, hx307_1, hl307_0, hi307_0⟩ := at_T26 HR2.out x26_1 p307 q307
        cases e307
        replace hx307_0 := (HB.out.cell (World.block_lt_of_cell? w _ hx307_0)).trans hx307_0
        replace hx307_1 := (HB.out.cell (World.block_lt_of_cell? w _ hx307_1)).trans hx307_1
        have HR307_0 := Aside0.mk hi307_0
        have HC307_0 := Aside0.mk hl307_0
        clear hi307_0 hl307_0
        replace p307 := eq_true p307
        replace q307 := eq_true q307
        go_wp2_with (first | ((with_reducible refine gate_dst (N := 11) rfl ?_); refine box_event ?hg (N := 11) ?hd (cs := #[.slice none 0 0, .int .i64 0]) (t := 26) ?hr ?_; (case hd => rfl); (case hg => rfl); (case hr => first | (go_simp; done) | (go_simp; rfl)); intro gb308 hg w29 hbox hb; have n0_ := Aside0.mk (Kd.S_below (by (with_reducible repeat (first | apply Kd.S_alloc | apply Kd.S_drewN | apply Kd.S_drew)); exact HO_9.out) hb); have n1_ := Aside0.mk (zzT (by repeat (first | (with_reducible first | exact HB.out | apply zzA | apply zzN | apply zzD) | exact HB.out)) hb); have n2_ := Aside0.mk (hbox); have n3_ := Aside0.mk ((by rw [hg]; exact (zzS (by repeat (first | (with_reducible first | exact HB.out | apply zzA | apply zzN | apply zzD) | exact HB.out))) : w.heap.size ≤ gb308)); have n4_ := Aside0.mk ((by rw [hg]; exact (zzS (by repeat (first | (with_reducible first | exact HB.out | apply zzA | apply zzN | apply zzD) | exact HB.out))) : w.heap.size ≤ gb308)); clear HO_9; clear HB; have HO_9 := n0_; have HB := n1_; have BK308 := n2_; have GW308 := n3_; have GE308 := n4_; clear n0_ n1_ n2_ n3_ n4_; clear hb hbox hg; have hcz30_0 : w29.cell? ⟨gb308, 0, none⟩ = some (.slice none 0 0) := (blk_cell BK308.out 0).trans rfl; have hcz30_1 : w29.cell? ⟨gb308, 1, none⟩ = some (.int .i64 0) := (blk_cell BK308.out 1).trans rfl; have hfz30_0 := blk_frozen BK308.out 0; have hfz30_1 := blk_frozen BK308.out 1) | ((with_reducible refine gate_callee (f := 64) rfl ?_); refine goesL_ (some 34) rfl rfl Try.func64 (by kernel_rfl) rfl #[.slice A0 l0.length c0, .agg #[.slice A307_0 ((rd_T26 l2 x26_1).f0).length c307_0, .int .i64 ((rd_T26 l2 x26_1).f1)], .int .i64 a1] rfl (by (try simp only [List.map_toArray, List.map_cons, List.map_nil]); first | done | rfl | (simp only [List.length_drop, List.length_take]; rfl)) ?_; (with_reducible refine (thrumref14_Off.calls _ _ l0 _ _ ((rd_T26 l2 x26_1).f0) ((rd_T26 l2 x26_1).f1) a1 t309 t310 _ ?side1 ?side2 ?side3 ?side4 A10.out).mono ?_); (case side1 => exact Kd.C_below HR0.out (by repeat (first | (with_reducible first | exact HB.out | apply zzA | apply zzN | apply zzD | refine below_set ?_ GE308.out) | exact HB.out))); (case side2 => exact HC0.out); (case side3 => exact Kd.C_below HR307_0.out (by repeat (first | (with_reducible first | exact HB.out | apply zzA | apply zzN | apply zzD | refine below_set ?_ GE308.out) | exact HB.out))); (case side4 => exact HC307_0.out); rintro e w31 ⟨rfl, hb⟩; refine ⟨_, rfl, ?_⟩; have n0_ := Aside0.mk (Kd.S_below (by (with_reducible repeat (first | apply Kd.S_alloc | apply Kd.S_drewN | apply Kd.S_drew)); exact (Kd.S_mono (Kd.S_far (p := ⟨gb308, 1, none⟩) (Kd.S_far (p := ⟨gb308, 0, none⟩) (Kd.S_types HO_9.out BK308.out (by decide)) (fun _ hk => hk.2) (.slice A307_0 ((rd_T26 l2 x26_1).f0).length c307_0)) (fun _ hk => hk.2) (.int .i64 ((rd_T26 l2 x26_1).f1))) (fun _ h_ => h_.1))) hb); have n1_ := Aside0.mk (blk_below (g := gb308) (o := .cells #[.slice A307_0 ((rd_T26 l2 x26_1).f0).length c307_0, .int .i64 ((rd_T26 l2 x26_1).f1)] 26 (0, 0)) (by (with_reducible repeat (first | refine kkN ?_ _ | refine kkD ?_ | refine kkA ?_ _)); refine blk_put (cs := #[.slice A307_0 ((rd_T26 l2 x26_1).f0).length c307_0, .int .i64 0]) ?_ 1 _ rfl; (with_reducible repeat (first | refine kkN ?_ _ | refine kkD ?_ | refine kkA ?_ _)); refine blk_put (cs := #[.slice none 0 0, .int .i64 0]) ?_ 0 _ rfl; (with_reducible repeat (first | refine kkN ?_ _ | refine kkD ?_ | refine kkA ?_ _)); exact BK308.out) hb); have n2_ := Aside0.mk (zzT (by repeat (first | (with_reducible first | exact HB.out | apply zzA | apply zzN | apply zzD | refine below_set ?_ GE308.out) | exact HB.out)) hb); clear HO_9; clear BK308; clear HB; have HO_9 := n0_; have BK308 := n1_; have HB := n2_; clear n0_ n1_ n2_; (try clear hb); (try clear hb2); (try clear hk); (try clear hi)))
        go_ret2
        exact ⟨_, by first | rfl | (simp [errW_none, errW_some] <;> rfl) | (simp [*, errW_none, errW_some] <;> rfl), by first | exact Kd.R_nil _ _ _ _ _ | exact Kd.N_nil _ _ _ _ _ | exact Kd.V_nil _ _ _ _ _ | exact Kd.Q_nil _ _ _ _ _ | exact Kd.S_nil _ _ _ _ _, by repeat (first | (with_reducible first | exact HB.out | apply zzA | apply zzN | apply zzD | refine below_set ?_ GE308.out) | exact HB.out)⟩
      ·
       rw [if_neg c9] at H
       exact absurd H (by simp)
     ·
      rw [if_neg c8] at H
      exact absurd H (by simp)
    ·
     rw [if_neg c7] at H
     have c7b0 : decide (x26_1 < (l2.length : Int)) = false := decide_eq_false c7
     clear c7
     replace H := Option.bind_eq_some_iff.mp H
     obtain ⟨⟨t303, t304⟩, A320, H⟩ := H
     replace H : (some (t303, t304)) = some (r1, r2) := H
     have A32 := Aside0.mk A320
     clear A320
     simp only [Option.some.injEq, Prod.mk.injEq] at H
     obtain ⟨rfl, rfl⟩ := H
     obtain ⟨Ao33, co33, eo33⟩ := Kd.S_slice HO_9.out
     subst eo33
     go_wp2_with (first | ((with_reducible refine gate_callee (f := 66) rfl ?_); refine goesL_ (some 62) rfl rfl Try.func66 (by kernel_rfl) rfl #[.int .i64 (l2.length : Int), .slice Ao33 x9_1.length co33] rfl (by (try simp only [List.map_toArray, List.map_cons, List.map_nil]); first | done | rfl | (simp only [List.length_drop, List.length_take]; rfl)) ?_; (with_reducible refine (thrumref14_Mean.calls (l2.length : Int) _ _ x9_1 t303 t304 _ ?side1 ?side2 A32.out).mono ?_); (case side1 => repeat (first | exact (Kd.S_reads' HO_9.out).2.2 | (with_reducible refine ccA ?_ _) | (with_reducible refine ccN ?_ _) | (with_reducible refine ccD ?_))); (case side2 => exact (Kd.S_reads' HO_9.out).2.1); rintro e w34 ⟨v305, rfl, ho0, hb⟩; refine ⟨_, rfl, ?_⟩; have n0_ := Aside0.mk (Kd.S_elder' (by (with_reducible repeat (first | apply Kd.S_alloc | apply Kd.S_drewN | apply Kd.S_drew)); exact HO_9.out) (Kd.R_base ho0) hb); have n1_ := Aside0.mk (Kd.R_lower ho0 (zzS (by repeat (first | (with_reducible first | exact HB.out | apply zzA | apply zzN | apply zzD) | exact HB.out)))); have n2_ := Aside0.mk (zzT (by repeat (first | (with_reducible first | exact HB.out | apply zzA | apply zzN | apply zzD) | exact HB.out)) hb); clear HO_9; clear HB; have HO_9 := n0_; have HO306 := n1_; have HB := n2_; clear n0_ n1_ n2_; (try clear hb); (try clear hb2); (try clear hk); (try clear hi); (try clear ho0)))
     go_ret2
     exact ⟨_, by first | rfl | (simp [errW_none, errW_some] <;> rfl) | (simp [*, errW_none, errW_some] <;> rfl), by (with_reducible repeat (first | apply rrA | apply rrN | apply rrD)); exact HO306.out, by repeat (first | (with_reducible first | exact HB.out | apply zzA | apply zzN | apply zzD) | exact HB.out)⟩
 ·
  rw [if_neg c5] at H
  have c5b0 : (t302 == 0) = false := beq_eq_false_iff_ne.mpr c5
  have c5b1 : (t302 != 0) = true := bne_iff_ne.mpr c5
  simp only [Option.some.injEq, Prod.mk.injEq] at H
  obtain ⟨rfl, rfl⟩ := H
  go_enter Try.func72, Try.ntmps72
  go_wp2_with (first | ((with_reducible refine gate_callee (f := 70) rfl ?_); refine goesL_ (some 20) rfl rfl Try.func70 (by kernel_rfl) rfl #[.int .i64 (wrap64 ((l0.length : Int) - 1)), .slice A0 l0.length c0, .slice A2 l2.length c2] rfl (by (try simp only [List.map_toArray, List.map_cons, List.map_nil]); first | done | rfl | (simp only [List.length_drop, List.length_take]; rfl)) ?_; (with_reducible refine (thrumref14_Check.calls (wrap64 ((l0.length : Int) - 1)) _ _ l0 _ _ l2 t302 _ ?side1 ?side2 ?side3 ?side4 A4.out).mono ?_); (case side1 => repeat (first | exact HR0.out | (with_reducible refine ccA ?_ _) | (with_reducible refine ccN ?_ _) | (with_reducible refine ccD ?_))); (case side2 => exact HC0.out); (case side3 => repeat (first | exact HR2.out | (with_reducible refine ccA ?_ _) | (with_reducible refine ccN ?_ _) | (with_reducible refine ccD ?_))); (case side4 => exact HC2.out); rintro e w35 ⟨rfl, hb⟩; refine ⟨_, rfl, ?_⟩; have n0_ := Aside0.mk (zzT (by repeat (first | (with_reducible first | exact HB.out | apply zzA | apply zzN | apply zzD) | exact HB.out)) hb); clear HB; have HB := n0_; clear n0_; (try clear hb); (try clear hb2); (try clear hk); (try clear hi)))
  go_ret2
  exact ⟨_, by first | rfl | (simp [errW_none, errW_some] <;> rfl) | (simp [*, errW_none, errW_some] <;> rfl), by first | exact Kd.R_nil _ _ _ _ _ | exact Kd.N_nil _ _ _ _ _ | exact Kd.V_nil _ _ _ _ _ | exact Kd.Q_nil _ _ _ _ _ | exact Kd.S_nil _ _ _ _ _, by repeat (first | (with_reducible first | exact HB.out | apply zzA | apply zzN | apply zzD) | exact HB.out)⟩

theorem thrumref14_GradP.loop (x0 : List Int) (x1 : Int) (x2 : List S26) (h0 : V64 x0) (h2 : ∀ s ∈ x2, Sm64 s) (hb : x2.length ≤ 64) : ∀ (d i : Nat) (acc : List (List Int)), d + i = x2.length → acc.length ≤ i → (∀ v ∈ acc, V64 v) →
    thrumref14_GradP.l0 (d + 1) x0 x1 x2 acc x2 (x2.length : Int) (i : Int) = some (if (rowsFrom (fun s : S26 => bendL x0 x1 (sm s)) (x2.drop i) acc).2 = 0 then meanL x2.length (rowsFrom (fun s : S26 => bendL x0 x1 (sm s)) (x2.drop i) acc).1 else ([], (rowsFrom (fun s : S26 => bendL x0 x1 (sm s)) (x2.drop i) acc).2)) := by
  intro d
  induction d with
  | zero =>
    intro i acc hd ha hv
    rw [thrumref14_GradP.l0, if_neg (by omega), List.drop_eq_nil_of_le (by omega), rowsFrom_nil, thrumref14_Mean.of _ _ ⟨by unfold I64; omega, hv⟩]
    rfl
  | succ d ih =>
    intro i acc hd ha hv
    have hi : i < x2.length := by omega
    have hs := h2 _ (List.getElem_mem hi)
    rw [thrumref14_GradP.l0, if_pos (by omega), if_pos (by omega), if_pos (by omega), rd_sm hi, thrumref14_Off.of _ _ _ _ ⟨h0, hs.1, hs.2⟩, List.drop_eq_getElem_cons hi]
    simp only [Option.bind_some]
    have hbd : bendL x0 x1 (sm x2[i]) = if (offL x0 x2[i].f0 x2[i].f1 x1).2 = 0 then (if (scaleV x2[i].f0 (offL x0 x2[i].f0 x2[i].f1 x1).1 x1).2 = 0 then ((scaleV x2[i].f0 (offL x0 x2[i].f0 x2[i].f1 x1).1 x1).1 ++ [(offL x0 x2[i].f0 x2[i].f1 x1).1], 0) else ([], (scaleV x2[i].f0 (offL x0 x2[i].f0 x2[i].f1 x1).1 x1).2)) else ([], (offL x0 x2[i].f0 x2[i].f1 x1).2) := rfl
    by_cases c : (offL x0 x2[i].f0 x2[i].f1 x1).2 = 0
    · rw [if_pos c] at hbd
      rw [if_pos c, thrumref02_Scale.of _ _ _ ⟨hs.1, offL_i64 _ _ _ _⟩]
      simp only [Option.bind_some]
      by_cases c2 : (scaleV x2[i].f0 (offL x0 x2[i].f0 x2[i].f1 x1).1 x1).2 = 0
      · rw [if_pos c2] at hbd
        have hl := scaleV_lle x2[i].f0 (offL x0 x2[i].f0 x2[i].f1 x1).1 x1
        rw [if_pos c2, if_pos (by omega), if_pos (by omega), rowsFrom_ok (g := fun s : S26 => bendL x0 x1 (sm s)) (by simp only [hbd]), wrap64_of (by unfold I64; omega), show (i : Int) + 1 = ((i + 1 : Nat) : Int) by omega]
        simp only [hbd]
        refine ih (i + 1) _ (by omega) (by simp; omega) ?_
        intro v hv'
        rcases List.mem_append.1 hv' with e | e
        · exact hv v e
        · rw [List.mem_singleton.1 e]; exact (scaleV_v64 _ _ _).snoc (offL_i64 _ _ _ _)
      · rw [if_neg c2] at hbd
        rw [if_neg c2, rowsFrom_bad (g := fun s : S26 => bendL x0 x1 (sm s)) (by simp only [hbd]; exact c2)]
        simp only [hbd, if_neg c2]
    · rw [if_neg c] at hbd
      rw [if_neg c, rowsFrom_bad (g := fun s : S26 => bendL x0 x1 (sm s)) (by simp only [hbd]; exact c)]
      simp only [hbd, if_neg c]
theorem rowsL_sm (w : List Int) (f : Int) : ∀ l : List S26, rowsL (bendL w f) (l.map sm) = rowsL (fun s => bendL w f (sm s)) l
  | [] => rfl
  | x :: l => by simp only [List.map_cons, rowsL, rowsL_sm w f l]
def thrumref14_Grad.f (l0 : List Int) (a1 : Int) (l2 : List S26) : Option (List Int × Int) := if V64 l0 ∧ ∀ s ∈ l2, Sm64 s then some (gradL l0 a1 (l2.map sm)) else none
theorem thrumref14_Grad.of (l0 : List Int) (a1 : Int) (l2 : List S26)  (h_ : V64 l0 ∧ ∀ s ∈ l2, Sm64 s) : thrumref14_Grad.f l0 a1 l2 = some (gradL l0 a1 (l2.map sm)) := if_pos h_
theorem thrumref14_Grad.calls (A0 : Option Addr) (c0 : Nat) (l0 : List Int) (a1 : Int) (A2 : Option Addr) (c2 : Nat) (l2 : List (S26)) (r1 : List Int) (r2 : Int) (w : World) (hr0 : Kd.C (Kd.int .i64) w A0 l0.length l0) (hc0 : l0.length ≤ c0) (hr2 : Kd.C k26 w A2 l2.length l2) (hc2 : l2.length ≤ c2) (h : thrumref14_Grad.f l0 a1 l2 = some (r1, r2)) :
    Calls Try.prog 72 #[.slice A0 l0.length c0, .int .i64 a1, .slice A2 l2.length c2] w fun e w' => ∃ v0_ : Value, e = .returned (.tuple #[v0_, .int .i64 r2]) ∧ Kd.R (Kd.int .i64) 2 w' w.heap.size (fun _ => True) v0_ r1 ∧ Below w.heap.size w w' := by
  unfold thrumref14_Grad.f at h
  split at h
  case isFalse => cases h
  rename_i hv
  refine thrumref14_GradP.calls (l2.length + 1) A0 c0 l0 a1 A2 c2 l2 r1 r2 w hr0 hc0 hr2 hc2 (Eq.trans ?_ h)
  unfold thrumref14_GradP.f gradL thrumref14_Check.f
  simp only [Option.bind_some]
  by_cases c : checkL (wrap64 ((l0.length : Int) - 1)) l0 (l2.map sm) = 0
  · rw [if_pos c, if_pos c]
    have hl := (checkL_len c).2.2.2.2.2
    rw [List.length_map] at hl
    have hk := thrumref14_GradP.loop l0 a1 l2 hv.1 hv.2 hl l2.length 0 [] (by omega) (by simp) (fun v hv => by cases hv)
    rw [List.drop_zero, rowsFrom_start] at hk
    rw [List.length_map, rowsL_sm]
    exact hk
  · rw [if_neg c, if_neg c]


-- NOT PRINTED: function 130 (linear_Loss_1)

/-! ### linear_Loss: function 73 -/
def lossStp (f : Int) (s : Int) (x : S26) (o : Int) : Int × Int := if (mulF o o f).2 = 0 then res (s + (mulF o o f).1) else (s, (mulF o o f).2)
theorem lossStp_i64 {f s : Int} {x : S26} {o : Int} (h : I64 s) : I64 (lossStp f s x o).1 := by
  unfold lossStp; split
  · exact res_i64 _
  · exact h
set_option maxHeartbeats 4000000 in
set_option maxRecDepth 100000 in
theorem linear_Loss_1.calls (n0 b1 b2 : Nat) (A0 : Option Addr) (c0 : Nat) (x : List Int) (y off a1 : Int) (W : World) (s : Int)
    (hb1 : W.heap[b1]? = some (.cells #[.int .i64 a1] 3 (0, 0))) (hb2 : W.heap[b2]? = some (.cells #[.int .i64 s] 2 (0, 0))) (hne : b1 ≠ b2) (h2 : n0 ≤ b2) (hn : n0 ≤ W.heap.size) (hv : I64 s ∧ I64 off) :
    Calls Try.prog 130 #[.agg #[.slice A0 x.length c0, .int .i64 y], .int .i64 off, .pointer (some ⟨b1, 0, none⟩), .pointer (some ⟨b2, 0, none⟩)] W fun ed W' => ed = .returned (.int .i64 (lossStp a1 s ⟨x, y⟩ off).2) ∧ Below n0 W W' ∧
      W'.heap[b1]? = some (.cells #[.int .i64 a1] 3 (0, 0)) ∧ W'.heap[b2]? = some (.cells #[.int .i64 (lossStp a1 s ⟨x, y⟩ off).1] 2 (0, 0)) := by
  have hu := Try.underlying26
  obtain ⟨⟨m, me⟩, hm⟩ : ∃ p, mulF off off a1 = p := ⟨_, rfl⟩
  have hmi := mulF_i64 off off a1
  rw [hm] at hmi
  have AM : Aside0 (fix_Mul.f off off a1 = some (m, me)) := ⟨(fix_Mul.of _ _ _ ⟨hv.2, hv.2⟩).trans (congrArg some hm)⟩
  have hst : lossStp a1 s ⟨x, y⟩ off = if me = 0 then res (s + m) else (s, me) := by unfold lossStp; rw [hm]
  rw [hst]
  have BK1 := Aside0.mk hb1
  have BK2 := Aside0.mk hb2
  have HNE := Aside0.mk hne
  have H2 := Aside0.mk h2
  have HN := Aside0.mk hn
  have HB := Aside0.mk (Below.refl n0 W)
  clear hb1 hb2 hne h2 hn hst hm
  by_cases hme : me = 0
  · subst hme
    rw [if_pos rfl]
    obtain ⟨⟨q, f⟩, hq⟩ : ∃ p, res (s + m) = p := ⟨_, rfl⟩
    rw [hq]
    have AA : Aside0 (fix_Add.f s m = some (q, f)) := ⟨(fix_Add.of _ _ ⟨hv.1, hmi⟩).trans (congrArg some hq)⟩
    clear hq hv hmi
    go_enter Try.func130, Try.ntmps130
    go_wp2_with (first | ((with_reducible refine gate_dst (N := 4) rfl ?_); refine box_event ?hg (N := 4) ?hd (cs := #[.slice A0 x.length c0, .int .i64 y]) (t := 26) ?hr ?_; (case hd => rfl); (case hg => rfl); (case hr => first | (go_simp; done) | (go_simp; rfl)); intro gb hg w1 hbox hb; have n0 := Aside0.mk (below_then HB.out (Nat.le_trans HN.out HB.out.size) hb); have n2 := Aside0.mk (blk_below BK1.out hb); have n3 := Aside0.mk (blk_below BK2.out hb); clear HB BK1 BK2 hb hbox hg; have HB := n0; have BK1 := n2; have BK2 := n3; clear n0 n2 n3; have hx2 : w1.cell? ⟨b1, 0, none⟩ = some (.int .i64 a1) := (blk_cell BK1.out 0).trans rfl) | (go_at_call 131; (with_reducible refine (fix_Mul.calls off off a1 m 0 _ AM.out).mono ?_); rintro ed W2 ⟨rfl, hb⟩; have n0 := Aside0.mk (below_then HB.out (Nat.le_trans HN.out HB.out.size) hb); have n2 := Aside0.mk (blk_below BK1.out hb); have n3 := Aside0.mk (blk_below BK2.out hb); clear HB BK1 BK2 hb; have HB := n0; have BK1 := n2; have BK2 := n3; clear n0 n2 n3; have hz3 : W2.cell? ⟨b2, 0, none⟩ = some (.int .i64 s) := (blk_cell BK2.out 0).trans rfl; have hf3 : W2.frozen? ⟨b2, 0, none⟩ = false := blk_frozen BK2.out 0) | (go_at_call 105; (with_reducible refine (fix_Add.calls s m q f _ AA.out).mono ?_); rintro ed W3 ⟨rfl, ⟨nd, rfl⟩⟩))
    go_ret
    exact ⟨rfl, (zzN HB.out nd).setCell H2.out _, (Below.heap_setCell _ ⟨b2, 0, none⟩ _ b1 HNE.out).trans BK1.out, blk_put (kkN BK2.out nd) 0 _ rfl⟩
  · rw [if_neg hme]
    have he0 : (me == 0) = false := beq_eq_false_iff_ne.2 hme
    have he1 : (me != 0) = true := bne_iff_ne.2 hme
    clear hme hv hmi
    go_enter Try.func130, Try.ntmps130
    go_wp2_with (first | ((with_reducible refine gate_dst (N := 4) rfl ?_); refine box_event ?hg (N := 4) ?hd (cs := #[.slice A0 x.length c0, .int .i64 y]) (t := 26) ?hr ?_; (case hd => rfl); (case hg => rfl); (case hr => first | (go_simp; done) | (go_simp; rfl)); intro gb hg w1 hbox hb; have n0 := Aside0.mk (below_then HB.out (Nat.le_trans HN.out HB.out.size) hb); have n2 := Aside0.mk (blk_below BK1.out hb); have n3 := Aside0.mk (blk_below BK2.out hb); clear HB BK1 BK2 hb hbox hg; have HB := n0; have BK1 := n2; have BK2 := n3; clear n0 n2 n3; have hx2 : w1.cell? ⟨b1, 0, none⟩ = some (.int .i64 a1) := (blk_cell BK1.out 0).trans rfl) | (go_at_call 131; (with_reducible refine (fix_Mul.calls off off a1 m me _ AM.out).mono ?_); rintro ed W2 ⟨rfl, hb⟩; have n0 := Aside0.mk (below_then HB.out (Nat.le_trans HN.out HB.out.size) hb); have n2 := Aside0.mk (blk_below BK1.out hb); have n3 := Aside0.mk (blk_below BK2.out hb); clear HB BK1 BK2 hb; have HB := n0; have BK1 := n2; have BK2 := n3; clear n0 n2 n3; have hz3 : W2.cell? ⟨b2, 0, none⟩ = some (.int .i64 s) := (blk_cell BK2.out 0).trans rfl; have hf3 : W2.frozen? ⟨b2, 0, none⟩ = false := blk_frozen BK2.out 0))
    go_ret
    exact ⟨rfl, HB.out, BK1.out, BK2.out⟩
def lossI (n0 b1 b2 : Nat) (f : Int) (_ : Nat) (W : World) (s : Int) : Prop := I64 s ∧ n0 ≤ W.heap.size ∧ W.heap[b1]? = some (.cells #[.int .i64 f] 3 (0, 0)) ∧ W.heap[b2]? = some (.cells #[.int .i64 s] 2 (0, 0))
theorem lossI.keep {n0 b1 b2 : Nat} {f : Int} (k : Nat) (W W' : World) (s : Int) (h : lossI n0 b1 b2 f k W s) (hb : Below W.heap.size W W') : lossI n0 b1 b2 f k W' s :=
  ⟨h.1, Nat.le_trans h.2.1 hb.size, blk_below h.2.2.1 hb, blk_below h.2.2.2 hb⟩
theorem walk_sum (w : List Int) (f : Int) : ∀ (l : List S26) (s : Int),
    sumV (l.map fun x => lossS w f (sm x)) s = if (walkGo (fun x : S26 => offL w x.f0 x.f1 f) (lossStp f) l s).2 = 0 then ((walkGo (fun x : S26 => offL w x.f0 x.f1 f) (lossStp f) l s).1, 0) else (0, (walkGo (fun x : S26 => offL w x.f0 x.f1 f) (lossStp f) l s).2)
  | [], s => rfl
  | x :: l, s => by
    have hbd : lossS w f (sm x) = if (offL w x.f0 x.f1 f).2 = 0 then mulF (offL w x.f0 x.f1 f).1 (offL w x.f0 x.f1 f).1 f else (0, (offL w x.f0 x.f1 f).2) := rfl
    simp only [walkGo, List.map_cons, sumV]
    by_cases c : (offL w x.f0 x.f1 f).2 = 0
    · rw [if_pos c] at hbd
      rw [if_pos c, hbd]
      by_cases c2 : (mulF (offL w x.f0 x.f1 f).1 (offL w x.f0 x.f1 f).1 f).2 = 0
      · have hst : lossStp f s x (offL w x.f0 x.f1 f).1 = res (s + (mulF (offL w x.f0 x.f1 f).1 (offL w x.f0 x.f1 f).1 f).1) := if_pos c2
        rw [if_pos c2, hst]
        by_cases c3 : (res (s + (mulF (offL w x.f0 x.f1 f).1 (offL w x.f0 x.f1 f).1 f).1)).2 = 0
        · rw [if_pos c3, if_pos c3]; exact walk_sum w f l _
        · rw [if_neg c3, if_neg c3, if_neg c3]
      · have hst : lossStp f s x (offL w x.f0 x.f1 f).1 = (s, (mulF (offL w x.f0 x.f1 f).1 (offL w x.f0 x.f1 f).1 f).2) := if_neg c2
        rw [if_neg c2, hst]
        rw [if_neg c2, if_neg c2]
    · rw [if_neg c] at hbd
      rw [if_neg c, hbd]
      rw [if_neg c, if_neg c]
theorem lossL_walk (w : List Int) (f : Int) (l : List S26) : lossL w f (l.map sm) = if (walkF w f l (lossStp f) 0).2 = 0 then ((walkF w f l (lossStp f) 0).1, 0) else (0, (walkF w f l (lossStp f) 0).2) := by
  unfold lossL walkF
  by_cases c : checkL (wrap64 ((w.length : Int) - 1)) w (l.map sm) = 0
  · rw [if_pos c, if_pos c, List.map_map]
    exact walk_sum w f l 0
  · rw [if_neg c, if_neg c, if_neg c]
def linear_Loss.f (l0 : List Int) (a1 : Int) (l2 : List S26) : Option (Int × Int) := if V64 l0 ∧ ∀ s ∈ l2, Sm64 s then some (lossL l0 a1 (l2.map sm)) else none
theorem linear_Loss.of (l0 : List Int) (a1 : Int) (l2 : List S26)  (h_ : V64 l0 ∧ ∀ s ∈ l2, Sm64 s) : linear_Loss.f l0 a1 l2 = some (lossL l0 a1 (l2.map sm)) := if_pos h_
set_option maxHeartbeats 4000000 in
set_option maxRecDepth 100000 in
theorem linear_Loss.calls (A0 : Option Addr) (c0 : Nat) (l0 : List Int) (a1 : Int) (A2 : Option Addr) (c2 : Nat) (l2 : List (S26)) (r1 : Int) (r2 : Int) (w : World) (hr0 : Kd.C (Kd.int .i64) w A0 l0.length l0) (hc0 : l0.length ≤ c0) (hr2 : Kd.C k26 w A2 l2.length l2) (hc2 : l2.length ≤ c2) (h : linear_Loss.f l0 a1 l2 = some (r1, r2)) :
    Calls Try.prog 73 #[.slice A0 l0.length c0, .int .i64 a1, .slice A2 l2.length c2] w fun e w' => e = .returned (.tuple #[.int .i64 r1, .int .i64 r2]) ∧ Below w.heap.size w w' := by
  unfold linear_Loss.f at h
  split at h
  case isFalse => cases h
  rename_i hv
  have h := Option.some.inj h
  rw [lossL_walk] at h
  obtain ⟨⟨sf, ef⟩, hw⟩ : ∃ p, walkF l0 a1 l2 (lossStp a1) 0 = p := ⟨_, rfl⟩
  rw [hw] at h
  simp only [] at h
  have HW := Aside0.mk hw
  have HR0 := Aside0.mk hr0
  have HC0 := Aside0.mk hc0
  have HR2 := Aside0.mk hr2
  have HC2 := Aside0.mk hc2
  have HV := Aside0.mk hv
  have HB := Aside0.mk (Below.refl w.heap.size w)
  have HG := Aside0.mk h
  have hu3 := Try.underlying3
  clear hw hr0 hc0 hr2 hc2 hv h
  by_cases hef : ef = 0
  · subst hef
    have hG := HG.out
    rw [if_pos rfl] at hG
    obtain ⟨h1, h2⟩ : sf = r1 ∧ 0 = r2 := by cases hG; exact ⟨rfl, rfl⟩
    subst h1
    subst h2
    clear hG HG
    go_enter Try.func73, Try.ntmps73
    go_wp2_with (first | ((with_reducible refine gate_dst (N := 4) rfl ?_); refine box_event ?hg (N := 4) ?hd (cs := #[.int .i64 a1]) (t := 3) ?hr ?_; (case hd => rfl); (case hg => rfl); (case hr => first | (go_simp; done) | (go_simp; rfl)); intro b1 hg w1 hbox hb; have n0 := Aside0.mk (below_then HB.out (Nat.le_refl _) hb); have BK1 := Aside0.mk hbox; have G1 : Aside0 (w.heap.size ≤ b1) := ⟨by rw [hg]; exact Nat.le_refl _⟩; have L1 := Aside0.mk (blk_lt hbox); clear HB hbox hb hg; have HB := n0; clear n0; have hz1 : w1.cell? ⟨b1, 0, none⟩ = some (.int .i64 a1) := (blk_cell BK1.out 0).trans rfl) | ((with_reducible refine gate_dst (N := 8) rfl ?_); refine box_event ?hg (N := 8) ?hd (cs := #[.int .i64 0]) (t := 2) ?hr ?_; (case hd => rfl); (case hg => rfl); (case hr => first | (go_simp; done) | (go_simp; rfl)); intro b2 hg w2 hbox hb; have n0 := Aside0.mk (below_then HB.out HB.out.size hb); have BK2 := Aside0.mk hbox; have n1 := Aside0.mk (blk_below BK1.out hb); have G2 : Aside0 (w.heap.size ≤ b2) := ⟨by rw [hg]; exact HB.out.size⟩; have HNE : Aside0 (b1 ≠ b2) := ⟨by have := L1.out; omega⟩; clear HB BK1 hbox hb hg; have HB := n0; have BK1 := n1; clear n0 n1; have hz1 : w2.cell? ⟨b1, 0, none⟩ = some (.int .i64 a1) := (blk_cell BK1.out 0).trans rfl) | (go_at_call 127; (with_reducible refine (linear_walk.calls (σ := Int) 130 #[.pointer (some ⟨b1, 0, none⟩), .pointer (some ⟨b2, 0, none⟩)] (lossI w.heap.size b1 b2 a1) (lossStp a1) A0 c0 l0 a1 A2 c2 l2 w _ 0 sf 0 ?ent HR0.out HC0.out HR2.out HC2.out HV.out HB.out ?I0 ?st ?K HW.out).mono ?_); (case ent => exact enters_of Try.func130 rfl rfl); (case I0 => exact ⟨i64_zero, HB.out.size, BK1.out, BK2.out⟩); (case st => exact lossI.keep); (case K => intro k W s x A c o hk hl hx ho hB hI hC hc; obtain ⟨q1, q2, q3, q4⟩ := hI; refine (linear_Loss_1.calls w.heap.size b1 b2 A c x.f0 x.f1 o a1 W s q3 q4 HNE.out G2.out q2 ⟨q1, ho⟩).mono ?_; rintro ed W' ⟨rfl, hb, k1, k2⟩; exact ⟨rfl, ⟨lossStp_i64 q1, Nat.le_trans q2 hb.size, k1, k2⟩, hB.trans hb⟩); rintro ed W3 ⟨rfl, ⟨k, hI⟩, hb⟩; obtain ⟨-, -, k1, k2⟩ := hI; clear HB; have HB := Aside0.mk hb; have hzS : W3.cell? ⟨b2, 0, none⟩ = some (.int .i64 sf) := (blk_cell k2 0).trans rfl; clear k1 k2 hb))
    go_ret2
    exact ⟨rfl, HB.out⟩
  · have hG := HG.out
    rw [if_neg hef] at hG
    obtain ⟨h1, h2⟩ : 0 = r1 ∧ ef = r2 := by cases hG; exact ⟨rfl, rfl⟩
    have he0 : (ef == 0) = false := beq_eq_false_iff_ne.2 hef
    have he1 : (ef != 0) = true := bne_iff_ne.2 hef
    subst h1
    subst h2
    clear hG HG hef
    go_enter Try.func73, Try.ntmps73
    go_wp2_with (first | ((with_reducible refine gate_dst (N := 4) rfl ?_); refine box_event ?hg (N := 4) ?hd (cs := #[.int .i64 a1]) (t := 3) ?hr ?_; (case hd => rfl); (case hg => rfl); (case hr => first | (go_simp; done) | (go_simp; rfl)); intro b1 hg w1 hbox hb; have n0 := Aside0.mk (below_then HB.out (Nat.le_refl _) hb); have BK1 := Aside0.mk hbox; have G1 : Aside0 (w.heap.size ≤ b1) := ⟨by rw [hg]; exact Nat.le_refl _⟩; have L1 := Aside0.mk (blk_lt hbox); clear HB hbox hb hg; have HB := n0; clear n0; have hz1 : w1.cell? ⟨b1, 0, none⟩ = some (.int .i64 a1) := (blk_cell BK1.out 0).trans rfl) | ((with_reducible refine gate_dst (N := 8) rfl ?_); refine box_event ?hg (N := 8) ?hd (cs := #[.int .i64 0]) (t := 2) ?hr ?_; (case hd => rfl); (case hg => rfl); (case hr => first | (go_simp; done) | (go_simp; rfl)); intro b2 hg w2 hbox hb; have n0 := Aside0.mk (below_then HB.out HB.out.size hb); have BK2 := Aside0.mk hbox; have n1 := Aside0.mk (blk_below BK1.out hb); have G2 : Aside0 (w.heap.size ≤ b2) := ⟨by rw [hg]; exact HB.out.size⟩; have HNE : Aside0 (b1 ≠ b2) := ⟨by have := L1.out; omega⟩; clear HB BK1 hbox hb hg; have HB := n0; have BK1 := n1; clear n0 n1; have hz1 : w2.cell? ⟨b1, 0, none⟩ = some (.int .i64 a1) := (blk_cell BK1.out 0).trans rfl) | (go_at_call 127; (with_reducible refine (linear_walk.calls (σ := Int) 130 #[.pointer (some ⟨b1, 0, none⟩), .pointer (some ⟨b2, 0, none⟩)] (lossI w.heap.size b1 b2 a1) (lossStp a1) A0 c0 l0 a1 A2 c2 l2 w _ 0 sf ef ?ent HR0.out HC0.out HR2.out HC2.out HV.out HB.out ?I0 ?st ?K HW.out).mono ?_); (case ent => exact enters_of Try.func130 rfl rfl); (case I0 => exact ⟨i64_zero, HB.out.size, BK1.out, BK2.out⟩); (case st => exact lossI.keep); (case K => intro k W s x A c o hk hl hx ho hB hI hC hc; obtain ⟨q1, q2, q3, q4⟩ := hI; refine (linear_Loss_1.calls w.heap.size b1 b2 A c x.f0 x.f1 o a1 W s q3 q4 HNE.out G2.out q2 ⟨q1, ho⟩).mono ?_; rintro ed W' ⟨rfl, hb, k1, k2⟩; exact ⟨rfl, ⟨lossStp_i64 q1, Nat.le_trans q2 hb.size, k1, k2⟩, hB.trans hb⟩); rintro ed W3 ⟨rfl, ⟨k, hI⟩, hb⟩; obtain ⟨-, -, k1, k2⟩ := hI; clear HB; have HB := Aside0.mk hb; have hzS : W3.cell? ⟨b2, 0, none⟩ = some (.int .i64 sf) := (blk_cell k2 0).trans rfl; clear k1 k2 hb))
    go_ret2
    exact ⟨rfl, HB.out⟩


end Go.Proofs.Ytfbdalnjijdknaa.HL
