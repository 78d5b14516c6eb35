/- What Go functions do, each as a plain Lean function with the same answers, and the proof of it, in every world: printed by the session's driver over the kit's print, with texts by hand. -/
import Derived.Test.YtfbdalnjijdknaaHSx0
import Derived.Test.YtfbdalnjijdknaaHSx1
import Derived.Test.YtfbdalnjijdknaaHSx11
import Derived.Test.YtfbdalnjijdknaaHSx12
import Derived.Test.YtfbdalnjijdknaaHSx13
import Derived.Test.YtfbdalnjijdknaaHSx14
namespace Go.Proofs.Ytfbdalnjijdknaa.HS
open Go.RowKit Go.Proofs.YtfbdalnjijdknaaW.PrintWords Go.Proofs.YtfbdalnjijdknaaW.PrintLast Go.Proofs.YtfbdalnjijdknaaW.PrintMore
attribute [local go_sem] max2_int min2_int max_two min_two max_three min_three max_four min_four   -- for this text's walks alone
open Go.Proofs.Ytfbdalnjijdknaa.Sp
attribute [local go_sem] Go.Proofs.Ytfbdalnjijdknaa.Sp.u64_not
set_option linter.unusedVariables false
set_option linter.unusedSimpArgs false

/-! ### soft_GradP: function 92 -/
def soft_GradP.l0 : Nat → Int → List Int → Int → List (S26) → Int → List (List Int) → List (S26) → Int → Int → Option (List Int × Int)
 | 0, _, _, _, _, _, _, _, _, _ => none
 | k + 1, x0, x1, x2, x3, x10, x11, x20, x21, x22 => if x22 < x21 then (if 0 ≤ x22 then (if x22 < (x20.length : Int) then (if x10 = 0 then ((soft_Off.f x0 x1 ((rd_T26 x20 x22).f0) ((rd_T26 x20 x22).f1) x2).bind fun bt207 => (if bt207.2 = 0 then ((soft_bend.f ((rd_T26 x20 x22).f0) ((rd_T26 x20 x22).f1) bt207.1 x2).bind fun bt211 => (if x11.length < 5864062014805 then (soft_GradP.l0 k x0 x1 x2 x3 bt211.2 (x11 ++ [bt211.1]) x20 x21 (wrap64 (x22 + 1))) else (none))) else (if x11.length < 5864062014805 then (soft_GradP.l0 k x0 x1 x2 x3 bt207.2 (x11 ++ [([] : List Int)]) x20 x21 (wrap64 (x22 + 1))) else (none)))) else (if x11.length < 5864062014805 then (soft_GradP.l0 k x0 x1 x2 x3 x10 (x11 ++ [([] : List Int)]) x20 x21 (wrap64 (x22 + 1))) else (none))) else (none)) else (none)) else (if x10 = 0 then ((linear_Mean.f (x3.length : Int) x11).bind fun bt201 => (some (bt201.1, bt201.2))) else (some (([] : List Int), x10)))
def soft_GradP.f (k : Nat) (a0 : Int) (l1 : List Int) (a2 : Int) (l3 : List (S26)) : Option (List Int × Int) := (soft_fits.f a0 l1 l3).bind fun t200 => (soft_GradP.l0 k a0 l1 a2 l3 t200 ([] : List (List Int)) l3 (l3.length : Int) 0)
theorem soft_GradP.mono_l : ∀ k, (∀ y0 y1 y2 y3 y4 y5 y6 y7 y8, LeO (soft_GradP.l0 k y0 y1 y2 y3 y4 y5 y6 y7 y8) (soft_GradP.l0 (k + 1) y0 y1 y2 y3 y4 y5 y6 y7 y8))
 | 0 => fun _ _ _ _ _ _ _ _ _ r h => by simp [soft_GradP.l0] at h
 | k + 1 => by
  have ih0 := soft_GradP.mono_l k
  ·
   intro y0 y1 y2 y3 y4 y5 y6 y7 y8
   unfold soft_GradP.l0
   repeat' first
   | (with_reducible exact ih0 _ _ _ _ _ _ _ _ _)
   | (with_reducible exact LeO.refl _)
   | (with_reducible exact LeO.none _)
   | (with_reducible refine LeO.ite ?_ ?_)
   | (with_reducible refine LeO.bind ?_ (fun _ => ?_))
   | exact ih0 _ _ _ _ _ _ _ _ _
   | exact LeO.none _
   | refine LeO.ite ?_ ?_
   | refine LeO.bind ?_ (fun _ => ?_)
theorem soft_GradP.mono : ∀ a0 a1 a2 a3 k, LeO (soft_GradP.f k a0 a1 a2 a3) (soft_GradP.f (k + 1) a0 a1 a2 a3) := by
 intro a0 a1 a2 a3 k
 have ih0 := soft_GradP.mono_l k
 unfold soft_GradP.f
 repeat' first
   | (with_reducible exact ih0 _ _ _ _ _ _ _ _ _)
   | (with_reducible exact LeO.refl _)
   | (with_reducible exact LeO.none _)
   | (with_reducible refine LeO.ite ?_ ?_)
   | (with_reducible refine LeO.bind ?_ (fun _ => ?_))
   | exact ih0 _ _ _ _ _ _ _ _ _
   | exact LeO.none _
   | refine LeO.ite ?_ ?_
   | refine LeO.bind ?_ (fun _ => ?_)
set_option maxHeartbeats 8000000 in
set_option maxRecDepth 100000 in
theorem soft_GradP.calls (k : Nat) (a0 : Int) (A1 : Option Addr) (c1 : Nat) (l1 : List Int) (a2 : Int) (A3 : Option Addr) (c3 : Nat) (l3 : List (S26)) (r1 : List Int) (r2 : Int) (w : World) (hr1 : Kd.C (Kd.int .i64) w A1 l1.length l1) (hc1 : l1.length ≤ c1) (hr3 : Kd.C k26 w A3 l3.length l3) (hc3 : l3.length ≤ c3) (h : soft_GradP.f k a0 l1 a2 l3 = some (r1, r2)) :
  Calls Try.prog 92 #[.int .i64 a0, .slice A1 l1.length c1, .int .i64 a2, .slice A3 l3.length c3] w fun e w' => ∃ v0_ : Value, e = .returned (.tuple #[v0_, .int .i64 r2]) ∧ Kd.R (Kd.int .i64) 2 w' w.heap.size (fun _ => True) v0_ r1 ∧ Below w.heap.size w w' := by
 have hu26 := Try.underlying26
 have HR1 := Aside0.mk hr1
 have HC1 := Aside0.mk hc1
 clear hr1 hc1
 have HR3 := Aside0.mk hr3
 have HC3 := Aside0.mk hc3
 clear hr3 hc3
 have HB := Aside0.mk (Below.refl w.heap.size w)
 have H : ((soft_fits.f a0 l1 l3).bind fun t200 => (soft_GradP.l0 k a0 l1 a2 l3 t200 ([] : List (List Int)) l3 (l3.length : Int) 0)) = some (r1, r2) := h
 clear h
 replace H := Option.bind_eq_some_iff.mp H
 obtain ⟨t200, A50, H⟩ := H
 replace H : (soft_GradP.l0 k a0 l1 a2 l3 t200 ([] : List (List Int)) l3 (l3.length : Int) 0) = some (r1, r2) := H
 have A5 := Aside0.mk A50
 clear A50
 have H' := Aside0.mk H
 clear H
 go_enter Try.func92, Try.ntmps92
 go_wp2_with (first | ((with_reducible refine gate_callee (f := 144) rfl ?_); refine goesL_ (some 19) rfl rfl Try.func144 (by kernel_rfl) rfl #[.int .i64 a0, .slice A1 l1.length c1, .slice A3 l3.length c3] rfl (by (try simp only [List.map_toArray, List.map_cons, List.map_nil]); first | done | rfl | (simp only [List.length_drop, List.length_take]; rfl)) ?_; (with_reducible refine (soft_fits.calls a0 _ _ l1 _ _ l3 t200 _ ?side1 ?side2 ?side3 ?side4 A5.out).mono ?_); (case side1 => repeat (first | exact HR1.out | (with_reducible refine ccA ?_ _) | (with_reducible refine ccN ?_ _) | (with_reducible refine ccD ?_))); (case side2 => exact HC1.out); (case side3 => repeat (first | exact HR3.out | (with_reducible refine ccA ?_ _) | (with_reducible refine ccN ?_ _) | (with_reducible refine ccD ?_))); (case side4 => exact HC3.out); rintro e w6 ⟨rfl, hb⟩; refine ⟨_, rfl, ?_⟩; have n0_ := Aside0.mk (zzT (by repeat (first | (with_reducible first | exact HB.out | apply zzA | apply zzN | apply zzD) | exact HB.out)) hb); clear HB; have HB := n0_; clear n0_; (try clear hb); (try clear hb2); (try clear hk); (try clear hi)))
 go_loopg [10, 11, 22] k (fun kq v10 v11 v22 w' => ∃ (x10_1 : Int) (x11_1 : List (List Int)) (x22_1 : Int), v10 = .int .i64 x10_1 ∧ v22 = .int .i64 x22_1 ∧ Aside0 (soft_GradP.l0 kq a0 l1 a2 l3 x10_1 x11_1 l3 (l3.length : Int) x22_1 = some (r1, r2)) ∧ Aside0 (kq ≤ k) ∧ Aside0 (Kd.S (Kd.slice 2 (Kd.int .i64)) 22 w' w.heap.size (fun _ => True) v11 x11_1) ∧ Aside0 (Below w.heap.size w w'))
 case atStart => exact ⟨(t200), (([] : List (List Int))), (0), (by first | rfl | (simp; done) | (simp [*]; done)), (by first | rfl | (simp; done) | (simp [*]; done)), H', ⟨Nat.le_refl _⟩, ⟨by first | exact Kd.S_nil _ _ _ _ _ | exact Kd.N_nil _ _ _ _ _ | exact Kd.V_nil _ _ _ _ _ | exact Kd.Q_nil _ _ _ _ _ | exact Kd.R_nil _ _ _ _ _⟩, ⟨by repeat (first | (with_reducible first | exact HB.out | apply zzA | apply zzN | apply zzD) | exact HB.out)⟩⟩
 case round =>
  clear H'
  try clear c1
  try clear p2
  try clear c3
  obtain ⟨x10_1, x11_1, x22_1, rfl, rfl, HA, HK1, HO_11, HB⟩ := hrel
  cases gk with
  | zero => exact absurd HA.out (by simp [soft_GradP.l0])
  | succ k1 =>
   have H := HA.out
   clear HA
   simp only [soft_GradP.l0] at H
   by_cases c7 : x22_1 < (l3.length : Int)
   ·
    rw [if_pos c7] at H
    have c7b0 : decide (x22_1 < (l3.length : Int)) = true := decide_eq_true c7
    clear c7
    by_cases c8 : 0 ≤ x22_1
    ·
     rw [if_pos c8] at H
     have c8b0 : decide (0 ≤ x22_1) = true := decide_eq_true c8
     clear c8
     by_cases c9 : x22_1 < (l3.length : Int)
     ·
      rw [if_pos c9] at H
      have c9b0 : decide (x22_1 < (l3.length : Int)) = true := decide_eq_true c9
      clear c9
      by_cases c10 : x10_1 = 0
      ·
       rw [if_pos c10] at H
       have c10b0 : (x10_1 == 0) = true := beq_iff_eq.mpr c10
       have c10b1 : (x10_1 != 0) = false := bne_eq_false_iff_eq.mpr c10
       clear c10
       replace H := Option.bind_eq_some_iff.mp H
       obtain ⟨⟨t207, t210⟩, A110, H⟩ := H
       replace H : (if t210 = 0 then ((soft_bend.f ((rd_T26 l3 x22_1).f0) ((rd_T26 l3 x22_1).f1) t207 a2).bind fun bt211 => (if x11_1.length < 5864062014805 then (soft_GradP.l0 k1 a0 l1 a2 l3 bt211.2 (x11_1 ++ [bt211.1]) l3 (l3.length : Int) (wrap64 (x22_1 + 1))) else (none))) else (if x11_1.length < 5864062014805 then (soft_GradP.l0 k1 a0 l1 a2 l3 t210 (x11_1 ++ [([] : List Int)]) l3 (l3.length : Int) (wrap64 (x22_1 + 1))) else (none))) = some (r1, r2) := H
       have A11 := Aside0.mk A110
       clear A110
       by_cases c12 : t210 = 0
       ·
        rw [if_pos c12] at H
        have c12b0 : (t210 == 0) = true := beq_iff_eq.mpr c12
        have c12b1 : (t210 != 0) = false := bne_eq_false_iff_eq.mpr c12
        clear c12
        replace H := Option.bind_eq_some_iff.mp H
        obtain ⟨⟨t211, t214⟩, A130, H⟩ := H
        replace H : (if x11_1.length < 5864062014805 then (soft_GradP.l0 k1 a0 l1 a2 l3 t214 (x11_1 ++ [t211]) l3 (l3.length : Int) (wrap64 (x22_1 + 1))) else (none)) = some (r1, r2) := H
        have A13 := Aside0.mk A130
        clear A130
        by_cases c14 : x11_1.length < 5864062014805
        ·
         rw [if_pos c14] at H
         have LMc14 := Aside0.mk c14
         clear c14
         obtain ⟨y215, hy215⟩ : ∃ y_ : List (List Int), y_ = (x11_1 ++ [t211]) := ⟨_, rfl⟩
         replace H : (soft_GradP.l0 k1 a0 l1 a2 l3 t214 y215 l3 (l3.length : Int) (wrap64 (x22_1 + 1))) = some (r1, r2) := by first | (rw [hy215]; with_reducible exact H) | (have H2_ := (Option.bind_some _ _).symm.trans H; rw [hy215]; with_reducible exact H2_) | (have H2_ := (Option.bind_some _ _).symm.trans H; with_reducible exact H2_) | with_reducible exact H | (rw [hy215]; exact H) | exact H
         have Ny215 := Aside0.mk hy215
         clear hy215
         have H' := Aside0.mk H
         clear H
         have p205 : 0 ≤ (x22_1 : Int) := of_decide_eq_true (by first | (with_reducible assumption) | assumption)
         have q205 : x22_1 < (l3.length : Int) := of_decide_eq_true (by first | (with_reducible assumption) | assumption)
         obtain ⟨ad205, A205_0, c205_0, e205, hx205_0, hx205_1, hl205_0, hi205_0⟩ := at_T26 HR3.out x22_1 p205 q205
         cases e205
         replace hx205_0 := (HB.out.cell (World.block_lt_of_cell? w _ hx205_0)).trans hx205_0
         replace hx205_1 := (HB.out.cell (World.block_lt_of_cell? w _ hx205_1)).trans hx205_1
         have HR205_0 := Aside0.mk hi205_0
         have HC205_0 := Aside0.mk hl205_0
         clear hi205_0 hl205_0
         replace p205 := eq_true p205
         replace q205 := eq_true q205
         go_wp2_with (first | ((with_reducible refine gate_dst (N := 13) rfl ?_); refine box_event ?hg (N := 13) ?hd (cs := #[.slice none 0 0, .int .i64 0]) (t := 26) ?hr ?_; (case hd => rfl); (case hg => rfl); (case hr => first | (go_simp; done) | (go_simp; rfl)); intro gb206 hg w15 hbox hb; have n0_ := Aside0.mk (Kd.S_below (by (with_reducible repeat (first | apply Kd.S_alloc | apply Kd.S_drewN | apply Kd.S_drew)); exact HO_11.out) hb); have n1_ := Aside0.mk (zzT (by repeat (first | (with_reducible first | exact HB.out | apply zzA | apply zzN | apply zzD) | exact HB.out)) hb); have n2_ := Aside0.mk (hbox); have n3_ := Aside0.mk ((by rw [hg]; exact (zzS (by repeat (first | (with_reducible first | exact HB.out | apply zzA | apply zzN | apply zzD) | exact HB.out))) : w.heap.size ≤ gb206)); have n4_ := Aside0.mk ((by rw [hg]; exact (zzS (by repeat (first | (with_reducible first | exact HB.out | apply zzA | apply zzN | apply zzD) | exact HB.out))) : w.heap.size ≤ gb206)); clear HO_11; clear HB; have HO_11 := n0_; have HB := n1_; have BK206 := n2_; have GW206 := n3_; have GE206 := n4_; clear n0_ n1_ n2_ n3_ n4_; clear hb hbox hg; have hcz16_0 : w15.cell? ⟨gb206, 0, none⟩ = some (.slice none 0 0) := (blk_cell BK206.out 0).trans rfl; have hcz16_1 : w15.cell? ⟨gb206, 1, none⟩ = some (.int .i64 0) := (blk_cell BK206.out 1).trans rfl; have hfz16_0 := blk_frozen BK206.out 0; have hfz16_1 := blk_frozen BK206.out 1) | ((with_reducible refine gate_callee (f := 80) rfl ?_); refine goesL_ (some 33) rfl rfl Try.func80 (by kernel_rfl) rfl #[.int .i64 a0, .slice A1 l1.length c1, .agg #[.slice A205_0 ((rd_T26 l3 x22_1).f0).length c205_0, .int .i64 ((rd_T26 l3 x22_1).f1)], .int .i64 a2] rfl (by (try simp only [List.map_toArray, List.map_cons, List.map_nil]); first | done | rfl | (simp only [List.length_drop, List.length_take]; rfl)) ?_; (with_reducible refine (soft_Off.calls a0 _ _ l1 _ _ ((rd_T26 l3 x22_1).f0) ((rd_T26 l3 x22_1).f1) a2 t207 t210 _ ?side1 ?side2 ?side3 ?side4 A11.out).mono ?_); (case side1 => exact Kd.C_below HR1.out (by repeat (first | (with_reducible first | exact HB.out | apply zzA | apply zzN | apply zzD | refine below_set ?_ GE206.out) | exact HB.out))); (case side2 => exact HC1.out); (case side3 => exact Kd.C_below HR205_0.out (by repeat (first | (with_reducible first | exact HB.out | apply zzA | apply zzN | apply zzD | refine below_set ?_ GE206.out) | exact HB.out))); (case side4 => exact HC205_0.out); rintro e w17 ⟨v208, rfl, ho0, hb⟩; refine ⟨_, rfl, ?_⟩; have n0_ := Aside0.mk (Kd.S_elder' (by (with_reducible repeat (first | apply Kd.S_alloc | apply Kd.S_drewN | apply Kd.S_drew)); exact (Kd.S_mono (Kd.S_far (p := ⟨gb206, 1, none⟩) (Kd.S_far (p := ⟨gb206, 0, none⟩) (Kd.S_types HO_11.out BK206.out (by decide)) (fun _ hk => hk.2) (.slice A205_0 ((rd_T26 l3 x22_1).f0).length c205_0)) (fun _ hk => hk.2) (.int .i64 ((rd_T26 l3 x22_1).f1))) (fun _ h_ => h_.1))) (Kd.R_base ho0) hb); have n1_ := Aside0.mk (Kd.R_lower ho0 (zzS (by repeat (first | (with_reducible first | exact HB.out | apply zzA | apply zzN | apply zzD | refine below_set ?_ GE206.out) | exact HB.out)))); have n2_ := Aside0.mk (blk_below (g := gb206) (o := .cells #[.slice A205_0 ((rd_T26 l3 x22_1).f0).length c205_0, .int .i64 ((rd_T26 l3 x22_1).f1)] 26 (0, 0)) (by (with_reducible repeat (first | refine kkN ?_ _ | refine kkD ?_ | refine kkA ?_ _)); refine blk_put (cs := #[.slice A205_0 ((rd_T26 l3 x22_1).f0).length c205_0, .int .i64 0]) ?_ 1 _ rfl; (with_reducible repeat (first | refine kkN ?_ _ | refine kkD ?_ | refine kkA ?_ _)); refine blk_put (cs := #[.slice none 0 0, .int .i64 0]) ?_ 0 _ rfl; (with_reducible repeat (first | refine kkN ?_ _ | refine kkD ?_ | refine kkA ?_ _)); exact BK206.out) hb); have n3_ := Aside0.mk (zzT (by repeat (first | (with_reducible first | exact HB.out | apply zzA | apply zzN | apply zzD | refine below_set ?_ GE206.out) | exact HB.out)) hb); clear HO_11; clear BK206; clear HB; have HO_11 := n0_; have HO209 := n1_; have BK206 := n2_; have HB := n3_; clear n0_ n1_ n2_ n3_; (try clear hb); (try clear hb2); (try clear hk); (try clear hi); (try clear ho0); have hcz18_0 : w17.cell? ⟨gb206, 0, none⟩ = some (.slice A205_0 ((rd_T26 l3 x22_1).f0).length c205_0) := (blk_cell BK206.out 0).trans rfl; have hcz18_1 : w17.cell? ⟨gb206, 1, none⟩ = some (.int .i64 ((rd_T26 l3 x22_1).f1)) := (blk_cell BK206.out 1).trans rfl; have hfz18_0 := blk_frozen BK206.out 0; have hfz18_1 := blk_frozen BK206.out 1; obtain ⟨Ao19, co19, eo19⟩ := Kd.R_slice HO209.out; subst eo19) | ((with_reducible refine gate_callee (f := 145) rfl ?_); refine goesL_ (some 42) rfl rfl Try.func145 (by kernel_rfl) rfl #[.agg #[.slice A205_0 ((rd_T26 l3 x22_1).f0).length c205_0, .int .i64 ((rd_T26 l3 x22_1).f1)], .slice Ao19 t207.length co19, .int .i64 a2] rfl (by (try simp only [List.map_toArray, List.map_cons, List.map_nil]); first | done | rfl | (simp only [List.length_drop, List.length_take]; rfl)) ?_; (with_reducible refine (soft_bend.calls _ _ ((rd_T26 l3 x22_1).f0) ((rd_T26 l3 x22_1).f1) _ _ t207 a2 t211 t214 _ ?side1 ?side2 ?side3 ?side4 A13.out).mono ?_); (case side1 => repeat (first | exact (Kd.C_below HR205_0.out HB.out) | (with_reducible refine ccA ?_ _) | (with_reducible refine ccN ?_ _) | (with_reducible refine ccD ?_))); (case side2 => exact HC205_0.out); (case side3 => repeat (first | exact (Kd.R_reads' HO209.out).2.2 | (with_reducible refine ccA ?_ _) | (with_reducible refine ccN ?_ _) | (with_reducible refine ccD ?_))); (case side4 => exact (Kd.R_reads' HO209.out).2.1); rintro e w20 ⟨v212, rfl, ho0, hb⟩; refine ⟨_, rfl, ?_⟩; have n0_ := Aside0.mk (Kd.S_elder' (by (with_reducible repeat (first | apply Kd.S_alloc | apply Kd.S_drewN | apply Kd.S_drew)); exact HO_11.out) (Kd.R_base ho0) hb); have n1_ := Aside0.mk (Kd.R_elder' (by (with_reducible repeat (first | apply rrA | apply rrN | apply rrD)); exact HO209.out) (Kd.R_base ho0) hb); have n2_ := Aside0.mk (Kd.R_lower (Kd.R_new' ho0 (Kd.R_lt (by (with_reducible repeat (first | apply rrA | apply rrN | apply rrD)); exact HO209.out))) (zzS (by repeat (first | (with_reducible first | exact HB.out | apply zzA | apply zzN | apply zzD | refine below_set ?_ GE206.out) | exact HB.out)))); have n3_ := Aside0.mk (blk_below (g := gb206) (o := .cells #[.slice A205_0 ((rd_T26 l3 x22_1).f0).length c205_0, .int .i64 ((rd_T26 l3 x22_1).f1)] 26 (0, 0)) (by (with_reducible repeat (first | refine kkN ?_ _ | refine kkD ?_ | refine kkA ?_ _)); exact BK206.out) hb); have n4_ := Aside0.mk (zzT (by repeat (first | (with_reducible first | exact HB.out | apply zzA | apply zzN | apply zzD | refine below_set ?_ GE206.out) | exact HB.out)) hb); clear HO_11; clear HO209; clear BK206; clear HB; have HO_11 := n0_; have HO209 := n1_; have HO213 := n2_; have BK206 := n3_; have HB := n4_; clear n0_ n1_ n2_ n3_ n4_; (try clear hb); (try clear hb2); (try clear hk); (try clear hi); (try clear ho0); obtain ⟨Ao22, co22, eo22⟩ := Kd.R_slice HO213.out; subst eo22) | ((with_reducible refine gate_builtin (b := .append) (xs := #[.tmp 45, .tmp 47]) rfl ?_); at_builtin; refine Kd.S_append (Kd.slice 2 (Kd.int .i64)) (w0 := w) w.heap.size rfl (.tmp 45) (.tmp 47) 30 22 (.slice none 0 0) 24 rfl Try.underlying30 info22 rfl (by decide) (by omega) u11 x11_1 t211 [.slice Ao22 t211.length co22] (fun k_ => some k_ ≠ (.slice Ao19 t207.length co19 : Value).ownBlock) (fun k_ => some k_ = (.slice Ao22 t211.length co22 : Value).ownBlock) rfl rfl ?aP (fun k_ hk_ => ((Kd.R_mono (ok' := fun k_ => ((fun k_ => some k_ ≠ (.slice Ao19 t207.length co19 : Value).ownBlock)) k_ ∧ some k_ ≠ (u11 : Value).ownBlock) (Kd.R_apart' (HO213.out) (Kd.S_typed HO_11.out) (by decide)) (fun k_ hk => ⟨hk.1.2, hk.2⟩))).1 k_ hk_.symm) ?aF ?aO ?aB ?aS ?aL ?_; (case aP => exact Kd.M_row (Kd.R_mono (Kd.R_tight rfl (Kd.R_mono (ok' := fun k_ => ((fun k_ => some k_ ≠ (.slice Ao19 t207.length co19 : Value).ownBlock)) k_ ∧ some k_ ≠ (u11 : Value).ownBlock) (Kd.R_apart' (HO213.out) (Kd.S_typed HO_11.out) (by decide)) (fun k_ hk => ⟨hk.1.2, hk.2⟩))) (fun _ h_ => h_))); (case aB => exact (by repeat (first | (with_reducible first | exact HB.out | apply zzA | apply zzN | apply zzD | refine below_set ?_ GE206.out) | exact HB.out))); (case aF => exact (fun k_ hk => Kd.fresh' (Kd.R_lt (by (with_reducible repeat (first | apply rrA | apply rrN | apply rrD)); exact HO209.out)) k_ hk)); (case aO => exact (by (with_reducible repeat (first | apply Kd.S_alloc | apply Kd.S_drewN | apply Kd.S_drew)); exact Kd.S_mono HO_11.out (fun k_ hk => ⟨hk.1.2, fun e_ => hk.2 e_⟩))); (case aS => exact (zzS (by repeat (first | (with_reducible first | exact HB.out | apply zzA | apply zzN | apply zzD | refine below_set ?_ GE206.out) | exact HB.out)))); (case aL => have := LMc14.out; omega); intro v216 w21 ho hb hg hat; rw [← Ny215.out] at ho; have n0_ := Aside0.mk (blk_grown (g := gb206) (o := .cells #[.slice A205_0 ((rd_T26 l3 x22_1).f0).length c205_0, .int .i64 ((rd_T26 l3 x22_1).f1)] 26 (0, 0)) (by (with_reducible repeat (first | refine kkN ?_ _ | refine kkD ?_ | refine kkA ?_ _)); exact BK206.out) hg (Kd.S_ne HO_11.out BK206.out (by decide))); have n1_ := Aside0.mk (Kd.R_over' (by (with_reducible repeat (first | apply rrA | apply rrN | apply rrD)); exact HO209.out) (Kd.S_typed (by (with_reducible repeat (first | apply Kd.S_alloc | apply Kd.S_drewN | apply Kd.S_drew)); exact HO_11.out)) (by decide) hg); have n2_ := Aside0.mk (hb); have n3_ := Aside0.mk (ho); clear BK206; clear HO209; clear HB; clear HO_11; clear HO213; have BK206 := n0_; have HO209 := n1_; have HB := n2_; have HO217 := n3_; clear n0_ n1_ n2_ n3_; clear ho hb hg hat))
         go_roundg k1
         case measure => have := HK1.out; omega
         case rel => exact ⟨(t214), (y215), (wrap64 (x22_1 + 1)), (by first | rfl | (simp; done) | (simp [*]; done)), (by first | rfl | (simp; done) | (simp [*]; done)), H', ⟨by have := HK1.out; omega⟩, ⟨by (with_reducible repeat (first | apply Kd.S_alloc | apply Kd.S_drewN | apply Kd.S_drew)); exact Kd.S_mono HO217.out (fun _ hk => trivial)⟩, ⟨by repeat (first | (with_reducible first | exact HB.out | apply zzA | apply zzN | apply zzD | refine below_set ?_ GE206.out) | exact HB.out)⟩⟩
        ·
         rw [if_neg c14] at H
         exact absurd H (by simp)
       ·
        rw [if_neg c12] at H
        have c12b0 : (t210 == 0) = false := beq_eq_false_iff_ne.mpr c12
        have c12b1 : (t210 != 0) = true := bne_iff_ne.mpr c12
        by_cases c23 : x11_1.length < 5864062014805
        ·
         rw [if_pos c23] at H
         have LMc23 := Aside0.mk c23
         clear c23
         obtain ⟨y218, hy218⟩ : ∃ y_ : List (List Int), y_ = (x11_1 ++ [([] : List Int)]) := ⟨_, rfl⟩
         replace H : (soft_GradP.l0 k1 a0 l1 a2 l3 t210 y218 l3 (l3.length : Int) (wrap64 (x22_1 + 1))) = some (r1, r2) := by first | (rw [hy218]; with_reducible exact H) | (have H2_ := (Option.bind_some _ _).symm.trans H; rw [hy218]; with_reducible exact H2_) | (have H2_ := (Option.bind_some _ _).symm.trans H; with_reducible exact H2_) | with_reducible exact H | (rw [hy218]; exact H) | exact H
         have Ny218 := Aside0.mk hy218
         clear hy218
         have H' := Aside0.mk H
         clear H
         have p205 : 0 ≤ (x22_1 : Int) := of_decide_eq_true (by first | (with_reducible assumption) | assumption)
         have q205 : x22_1 < (l3.length : Int) := of_decide_eq_true (by first | (with_reducible assumption) | assumption)
         obtain ⟨ad205, A205_0, c205_0, e205, hx205_0, hx205_1, hl205_0, hi205_0⟩ := at_T26 HR3.out x22_1 p205 q205
         cases e205
         replace hx205_0 := (HB.out.cell (World.block_lt_of_cell? w _ hx205_0)).trans hx205_0
         replace hx205_1 := (HB.out.cell (World.block_lt_of_cell? w _ hx205_1)).trans hx205_1
         have HR205_0 := Aside0.mk hi205_0
         have HC205_0 := Aside0.mk hl205_0
         clear hi205_0 hl205_0
         replace p205 := eq_true p205
         replace q205 := eq_true q205
         go_wp2_with (first | ((with_reducible refine gate_dst (N := 13) rfl ?_); refine box_event ?hg (N := 13) ?hd (cs := #[.slice none 0 0, .int .i64 0]) (t := 26) ?hr ?_; (case hd => rfl); (case hg => rfl); (case hr => first | (go_simp; done) | (go_simp; rfl)); intro gb206 hg w24 hbox hb; have n0_ := Aside0.mk (Kd.S_below (by (with_reducible repeat (first | apply Kd.S_alloc | apply Kd.S_drewN | apply Kd.S_drew)); exact HO_11.out) hb); have n1_ := Aside0.mk (zzT (by repeat (first | (with_reducible first | exact HB.out | apply zzA | apply zzN | apply zzD) | exact HB.out)) hb); have n2_ := Aside0.mk (hbox); have n3_ := Aside0.mk ((by rw [hg]; exact (zzS (by repeat (first | (with_reducible first | exact HB.out | apply zzA | apply zzN | apply zzD) | exact HB.out))) : w.heap.size ≤ gb206)); have n4_ := Aside0.mk ((by rw [hg]; exact (zzS (by repeat (first | (with_reducible first | exact HB.out | apply zzA | apply zzN | apply zzD) | exact HB.out))) : w.heap.size ≤ gb206)); clear HO_11; clear HB; have HO_11 := n0_; have HB := n1_; have BK206 := n2_; have GW206 := n3_; have GE206 := n4_; clear n0_ n1_ n2_ n3_ n4_; clear hb hbox hg; have hcz25_0 : w24.cell? ⟨gb206, 0, none⟩ = some (.slice none 0 0) := (blk_cell BK206.out 0).trans rfl; have hcz25_1 : w24.cell? ⟨gb206, 1, none⟩ = some (.int .i64 0) := (blk_cell BK206.out 1).trans rfl; have hfz25_0 := blk_frozen BK206.out 0; have hfz25_1 := blk_frozen BK206.out 1) | ((with_reducible refine gate_callee (f := 80) rfl ?_); refine goesL_ (some 33) rfl rfl Try.func80 (by kernel_rfl) rfl #[.int .i64 a0, .slice A1 l1.length c1, .agg #[.slice A205_0 ((rd_T26 l3 x22_1).f0).length c205_0, .int .i64 ((rd_T26 l3 x22_1).f1)], .int .i64 a2] rfl (by (try simp only [List.map_toArray, List.map_cons, List.map_nil]); first | done | rfl | (simp only [List.length_drop, List.length_take]; rfl)) ?_; (with_reducible refine (soft_Off.calls a0 _ _ l1 _ _ ((rd_T26 l3 x22_1).f0) ((rd_T26 l3 x22_1).f1) a2 t207 t210 _ ?side1 ?side2 ?side3 ?side4 A11.out).mono ?_); (case side1 => exact Kd.C_below HR1.out (by repeat (first | (with_reducible first | exact HB.out | apply zzA | apply zzN | apply zzD | refine below_set ?_ GE206.out) | exact HB.out))); (case side2 => exact HC1.out); (case side3 => exact Kd.C_below HR205_0.out (by repeat (first | (with_reducible first | exact HB.out | apply zzA | apply zzN | apply zzD | refine below_set ?_ GE206.out) | exact HB.out))); (case side4 => exact HC205_0.out); rintro e w26 ⟨v208, rfl, ho0, hb⟩; refine ⟨_, rfl, ?_⟩; have n0_ := Aside0.mk (Kd.S_elder' (by (with_reducible repeat (first | apply Kd.S_alloc | apply Kd.S_drewN | apply Kd.S_drew)); exact (Kd.S_mono (Kd.S_far (p := ⟨gb206, 1, none⟩) (Kd.S_far (p := ⟨gb206, 0, none⟩) (Kd.S_types HO_11.out BK206.out (by decide)) (fun _ hk => hk.2) (.slice A205_0 ((rd_T26 l3 x22_1).f0).length c205_0)) (fun _ hk => hk.2) (.int .i64 ((rd_T26 l3 x22_1).f1))) (fun _ h_ => h_.1))) (Kd.R_base ho0) hb); have n1_ := Aside0.mk (Kd.R_lower ho0 (zzS (by repeat (first | (with_reducible first | exact HB.out | apply zzA | apply zzN | apply zzD | refine below_set ?_ GE206.out) | exact HB.out)))); have n2_ := Aside0.mk (blk_below (g := gb206) (o := .cells #[.slice A205_0 ((rd_T26 l3 x22_1).f0).length c205_0, .int .i64 ((rd_T26 l3 x22_1).f1)] 26 (0, 0)) (by (with_reducible repeat (first | refine kkN ?_ _ | refine kkD ?_ | refine kkA ?_ _)); refine blk_put (cs := #[.slice A205_0 ((rd_T26 l3 x22_1).f0).length c205_0, .int .i64 0]) ?_ 1 _ rfl; (with_reducible repeat (first | refine kkN ?_ _ | refine kkD ?_ | refine kkA ?_ _)); refine blk_put (cs := #[.slice none 0 0, .int .i64 0]) ?_ 0 _ rfl; (with_reducible repeat (first | refine kkN ?_ _ | refine kkD ?_ | refine kkA ?_ _)); exact BK206.out) hb); have n3_ := Aside0.mk (zzT (by repeat (first | (with_reducible first | exact HB.out | apply zzA | apply zzN | apply zzD | refine below_set ?_ GE206.out) | exact HB.out)) hb); clear HO_11; clear BK206; clear HB; have HO_11 := n0_; have HO209 := n1_; have BK206 := n2_; have HB := n3_; clear n0_ n1_ n2_ n3_; (try clear hb); (try clear hb2); (try clear hk); (try clear hi); (try clear ho0)) | ((with_reducible refine gate_builtin (b := .append) (xs := #[.tmp 45, .tmp 47]) rfl ?_); at_builtin; refine Kd.S_append (Kd.slice 2 (Kd.int .i64)) (w0 := w) w.heap.size rfl (.tmp 45) (.tmp 47) 30 22 (.slice none 0 0) 24 rfl Try.underlying30 info22 rfl (by decide) (by omega) u11 x11_1 ([] : List Int) [.slice none 0 0] (fun k_ => some k_ ≠ (v208 : Value).ownBlock) (fun _ => False) rfl rfl ?aP (fun k_ hk_ => hk_.elim) ?aF ?aO ?aB ?aS ?aL ?_; (case aP => exact Kd.M_row (Kd.R_nil _ _ _ _ _)); (case aB => exact (by repeat (first | (with_reducible first | exact HB.out | apply zzA | apply zzN | apply zzD | refine below_set ?_ GE206.out) | exact HB.out))); (case aF => exact (fun k_ hk => Kd.fresh' (Kd.R_lt (by (with_reducible repeat (first | apply rrA | apply rrN | apply rrD)); exact HO209.out)) k_ hk)); (case aO => exact (by (with_reducible repeat (first | apply Kd.S_alloc | apply Kd.S_drewN | apply Kd.S_drew)); exact Kd.S_mono HO_11.out (fun k_ hk => ⟨hk.2, fun e_ => e_⟩))); (case aS => exact (zzS (by repeat (first | (with_reducible first | exact HB.out | apply zzA | apply zzN | apply zzD | refine below_set ?_ GE206.out) | exact HB.out)))); (case aL => have := LMc23.out; omega); intro v219 w27 ho hb hg hat; rw [← Ny218.out] at ho; have n0_ := Aside0.mk (blk_grown (g := gb206) (o := .cells #[.slice A205_0 ((rd_T26 l3 x22_1).f0).length c205_0, .int .i64 ((rd_T26 l3 x22_1).f1)] 26 (0, 0)) (by (with_reducible repeat (first | refine kkN ?_ _ | refine kkD ?_ | refine kkA ?_ _)); exact BK206.out) hg (Kd.S_ne HO_11.out BK206.out (by decide))); have n1_ := Aside0.mk (Kd.R_over' (by (with_reducible repeat (first | apply rrA | apply rrN | apply rrD)); exact HO209.out) (Kd.S_typed (by (with_reducible repeat (first | apply Kd.S_alloc | apply Kd.S_drewN | apply Kd.S_drew)); exact HO_11.out)) (by decide) hg); have n2_ := Aside0.mk (hb); have n3_ := Aside0.mk (ho); clear BK206; clear HO209; clear HB; clear HO_11; have BK206 := n0_; have HO209 := n1_; have HB := n2_; have HO220 := n3_; clear n0_ n1_ n2_ n3_; clear ho hb hg hat))
         go_roundg k1
         case measure => have := HK1.out; omega
         case rel => exact ⟨(t210), (y218), (wrap64 (x22_1 + 1)), (by first | rfl | (simp; done) | (simp [*]; done)), (by first | rfl | (simp; done) | (simp [*]; done)), H', ⟨by have := HK1.out; omega⟩, ⟨by (with_reducible repeat (first | apply Kd.S_alloc | apply Kd.S_drewN | apply Kd.S_drew)); exact Kd.S_mono HO220.out (fun _ hk => trivial)⟩, ⟨by repeat (first | (with_reducible first | exact HB.out | apply zzA | apply zzN | apply zzD | refine below_set ?_ GE206.out) | exact HB.out)⟩⟩
        ·
         rw [if_neg c23] at H
         exact absurd H (by simp)
      ·
       rw [if_neg c10] at H
       have c10b0 : (x10_1 == 0) = false := beq_eq_false_iff_ne.mpr c10
       have c10b1 : (x10_1 != 0) = true := bne_iff_ne.mpr c10
       by_cases c28 : x11_1.length < 5864062014805
       ·
        rw [if_pos c28] at H
        have LMc28 := Aside0.mk c28
        clear c28
        obtain ⟨y221, hy221⟩ : ∃ y_ : List (List Int), y_ = (x11_1 ++ [([] : List Int)]) := ⟨_, rfl⟩
        replace H : (soft_GradP.l0 k1 a0 l1 a2 l3 x10_1 y221 l3 (l3.length : Int) (wrap64 (x22_1 + 1))) = some (r1, r2) := by first | (rw [hy221]; with_reducible exact H) | (have H2_ := (Option.bind_some _ _).symm.trans H; rw [hy221]; with_reducible exact H2_) | (have H2_ := (Option.bind_some _ _).symm.trans H; with_reducible exact H2_) | with_reducible exact H | (rw [hy221]; exact H) | exact H
        have Ny221 := Aside0.mk hy221
        clear hy221
        have H' := Aside0.mk H
        clear H
        have p205 : 0 ≤ (x22_1 : Int) := of_decide_eq_true (by first | (with_reducible assumption) | assumption)
        have q205 : x22_1 < (l3.length : Int) := of_decide_eq_true (by first | (with_reducible assumption) | assumption)
        obtain ⟨ad205, A205_0, c205_0, e205, hx205_0, hx205_1, hl205_0, hi205_0⟩ := at_T26 HR3.out x22_1 p205 q205
        cases e205
        replace hx205_0 := (HB.out.cell (World.block_lt_of_cell? w _ hx205_0)).trans hx205_0
        replace hx205_1 := (HB.out.cell (World.block_lt_of_cell? w _ hx205_1)).trans hx205_1
        have HR205_0 := Aside0.mk hi205_0
        have HC205_0 := Aside0.mk hl205_0
        clear hi205_0 hl205_0
        replace p205 := eq_true p205
        replace q205 := eq_true q205
        go_wp2_with (first | ((with_reducible refine gate_dst (N := 13) rfl ?_); refine box_event ?hg (N := 13) ?hd (cs := #[.slice none 0 0, .int .i64 0]) (t := 26) ?hr ?_; (case hd => rfl); (case hg => rfl); (case hr => first | (go_simp; done) | (go_simp; rfl)); intro gb206 hg w29 hbox hb; have n0_ := Aside0.mk (Kd.S_below (by (with_reducible repeat (first | apply Kd.S_alloc | apply Kd.S_drewN | apply Kd.S_drew)); exact HO_11.out) hb); have n1_ := Aside0.mk (zzT (by repeat (first | (with_reducible first | exact HB.out | apply zzA | apply zzN | apply zzD) | exact HB.out)) hb); have n2_ := Aside0.mk (hbox); have n3_ := Aside0.mk ((by rw [hg]; exact (zzS (by repeat (first | (with_reducible first | exact HB.out | apply zzA | apply zzN | apply zzD) | exact HB.out))) : w.heap.size ≤ gb206)); have n4_ := Aside0.mk ((by rw [hg]; exact (zzS (by repeat (first | (with_reducible first | exact HB.out | apply zzA | apply zzN | apply zzD) | exact HB.out))) : w.heap.size ≤ gb206)); clear HO_11; clear HB; have HO_11 := n0_; have HB := n1_; have BK206 := n2_; have GW206 := n3_; have GE206 := n4_; clear n0_ n1_ n2_ n3_ n4_; clear hb hbox hg; have hcz30_0 : w29.cell? ⟨gb206, 0, none⟩ = some (.slice none 0 0) := (blk_cell BK206.out 0).trans rfl; have hcz30_1 : w29.cell? ⟨gb206, 1, none⟩ = some (.int .i64 0) := (blk_cell BK206.out 1).trans rfl; have hfz30_0 := blk_frozen BK206.out 0; have hfz30_1 := blk_frozen BK206.out 1) | ((with_reducible refine gate_builtin (b := .append) (xs := #[.tmp 45, .tmp 47]) rfl ?_); at_builtin; refine Kd.S_append (Kd.slice 2 (Kd.int .i64)) (w0 := w) w.heap.size rfl (.tmp 45) (.tmp 47) 30 22 (.slice none 0 0) 24 rfl Try.underlying30 info22 rfl (by decide) (by omega) u11 x11_1 ([] : List Int) [.slice none 0 0] (fun _ => True) (fun _ => False) rfl (by first | (go_simp; done) | (go_simp; rfl)) ?aP (fun k_ hk_ => hk_.elim) ?aF ?aO ?aB ?aS ?aL ?_; (case aP => exact Kd.M_row (Kd.R_nil _ _ _ _ _)); (case aB => exact (by repeat (first | (with_reducible first | exact HB.out | apply zzA | apply zzN | apply zzD | refine below_set ?_ GE206.out) | exact HB.out))); (case aF => exact (fun _ _ => trivial)); (case aO => exact (by (with_reducible repeat (first | apply Kd.S_alloc | apply Kd.S_drewN | apply Kd.S_drew)); exact Kd.S_mono (Kd.S_far (p := ⟨gb206, 1, none⟩) (Kd.S_far (p := ⟨gb206, 0, none⟩) (Kd.S_types HO_11.out BK206.out (by decide)) (fun _ hk => hk.2) (.slice A205_0 ((rd_T26 l3 x22_1).f0).length c205_0)) (fun _ hk => hk.2) (.int .i64 ((rd_T26 l3 x22_1).f1))) (fun k_ hk => ⟨trivial, fun e_ => e_⟩))); (case aS => exact (zzS (by repeat (first | (with_reducible first | exact HB.out | apply zzA | apply zzN | apply zzD | refine below_set ?_ GE206.out) | exact HB.out)))); (case aL => have := LMc28.out; omega); intro v222 w31 ho hb hg hat; rw [← Ny221.out] at ho; have n0_ := Aside0.mk (blk_grown (g := gb206) (o := .cells #[.slice A205_0 ((rd_T26 l3 x22_1).f0).length c205_0, .int .i64 ((rd_T26 l3 x22_1).f1)] 26 (0, 0)) (by (with_reducible repeat (first | refine kkN ?_ _ | refine kkD ?_ | refine kkA ?_ _)); refine blk_put (cs := #[.slice A205_0 ((rd_T26 l3 x22_1).f0).length c205_0, .int .i64 0]) ?_ 1 _ rfl; (with_reducible repeat (first | refine kkN ?_ _ | refine kkD ?_ | refine kkA ?_ _)); refine blk_put (cs := #[.slice none 0 0, .int .i64 0]) ?_ 0 _ rfl; (with_reducible repeat (first | refine kkN ?_ _ | refine kkD ?_ | refine kkA ?_ _)); exact BK206.out) hg (Kd.S_ne HO_11.out BK206.out (by decide))); have n1_ := Aside0.mk (hb); have n2_ := Aside0.mk (ho); clear BK206; clear HB; clear HO_11; have BK206 := n0_; have HB := n1_; have HO223 := n2_; clear n0_ n1_ n2_; clear ho hb hg hat))
        go_roundg k1
        case measure => have := HK1.out; omega
        case rel => exact ⟨(x10_1), (y221), (wrap64 (x22_1 + 1)), (by first | rfl | (simp; done) | (simp [*]; done)), (by first | rfl | (simp; done) | (simp [*]; done)), H', ⟨by have := HK1.out; omega⟩, ⟨by (with_reducible repeat (first | apply Kd.S_alloc | apply Kd.S_drewN | apply Kd.S_drew)); exact HO223.out⟩, ⟨by repeat (first | (with_reducible first | exact HB.out | apply zzA | apply zzN | apply zzD | refine below_set ?_ GE206.out) | exact HB.out)⟩⟩
       ·
        rw [if_neg c28] at H
        exact absurd H (by simp)
     ·
      rw [if_neg c9] at H
      exact absurd H (by simp)
    ·
     rw [if_neg c8] at H
     exact absurd H (by simp)
   ·
    rw [if_neg c7] at H
    have c7b0 : decide (x22_1 < (l3.length : Int)) = false := decide_eq_false c7
    clear c7
    by_cases c32 : x10_1 = 0
    ·
     rw [if_pos c32] at H
     have c32b0 : (x10_1 == 0) = true := beq_iff_eq.mpr c32
     have c32b1 : (x10_1 != 0) = false := bne_eq_false_iff_eq.mpr c32
     clear c32
     replace H := Option.bind_eq_some_iff.mp H
     obtain ⟨⟨t201, t202⟩, A330, H⟩ := H
     replace H : (some (t201, t202)) = some (r1, r2) := H
     have A33 := Aside0.mk A330
     clear A330
     simp only [Option.some.injEq, Prod.mk.injEq] at H
     obtain ⟨rfl, rfl⟩ := H
     obtain ⟨Ao34, co34, eo34⟩ := Kd.S_slice HO_11.out
     subst eo34
     go_wp2_with (first | ((with_reducible refine gate_callee (f := 65) rfl ?_); refine goesL_ (some 56) rfl rfl Try.func65 (by kernel_rfl) rfl #[.int .i64 (l3.length : Int), .slice Ao34 x11_1.length co34] rfl (by (try simp only [List.map_toArray, List.map_cons, List.map_nil]); first | done | rfl | (simp only [List.length_drop, List.length_take]; rfl)) ?_; (with_reducible refine (linear_Mean.calls (l3.length : Int) _ _ x11_1 t201 t202 _ ?side1 ?side2 A33.out).mono ?_); (case side1 => repeat (first | exact (Kd.S_reads' HO_11.out).2.2 | (with_reducible refine ccA ?_ _) | (with_reducible refine ccN ?_ _) | (with_reducible refine ccD ?_))); (case side2 => exact (Kd.S_reads' HO_11.out).2.1); rintro e w35 ⟨v203, rfl, ho0, hb⟩; refine ⟨_, rfl, ?_⟩; have n0_ := Aside0.mk (Kd.S_elder' (by (with_reducible repeat (first | apply Kd.S_alloc | apply Kd.S_drewN | apply Kd.S_drew)); exact HO_11.out) (Kd.R_base ho0) hb); have n1_ := Aside0.mk (Kd.R_lower ho0 (zzS (by repeat (first | (with_reducible first | exact HB.out | apply zzA | apply zzN | apply zzD) | exact HB.out)))); have n2_ := Aside0.mk (zzT (by repeat (first | (with_reducible first | exact HB.out | apply zzA | apply zzN | apply zzD) | exact HB.out)) hb); clear HO_11; clear HB; have HO_11 := n0_; have HO204 := n1_; have HB := n2_; clear n0_ n1_ n2_; (try clear hb); (try clear hb2); (try clear hk); (try clear hi); (try clear ho0)))
     go_ret2
     exact ⟨_, by first | rfl | (simp [errW_none, errW_some] <;> rfl) | (simp [*, errW_none, errW_some] <;> rfl), by (with_reducible repeat (first | apply rrA | apply rrN | apply rrD)); exact HO204.out, by repeat (first | (with_reducible first | exact HB.out | apply zzA | apply zzN | apply zzD) | exact HB.out)⟩
    ·
     rw [if_neg c32] at H
     have c32b0 : (x10_1 == 0) = false := beq_eq_false_iff_ne.mpr c32
     have c32b1 : (x10_1 != 0) = true := bne_iff_ne.mpr c32
     simp only [Option.some.injEq, Prod.mk.injEq] at H
     obtain ⟨rfl, rfl⟩ := H
     go_wp2
     go_ret2
     exact ⟨_, by first | rfl | (simp [errW_none, errW_some] <;> rfl) | (simp [*, errW_none, errW_some] <;> rfl), by first | exact Kd.R_nil _ _ _ _ _ | exact Kd.N_nil _ _ _ _ _ | exact Kd.V_nil _ _ _ _ _ | exact Kd.Q_nil _ _ _ _ _ | exact Kd.S_nil _ _ _ _ _, by repeat (first | (with_reducible first | exact HB.out | apply zzA | apply zzN | apply zzD) | exact HB.out)⟩

def soft_Grad.f (a0 : Int) (l1 : List Int) (a2 : Int) (l3 : List S26) : Option (List Int × Int) := if V64 l1 ∧ (∀ s ∈ l3, Sm64 s) ∧ l3.length ≤ 1000000 then some (gradS a0 l1 a2 (l3.map sm)) else none
theorem soft_Grad.of (a0 : Int) (l1 : List Int) (a2 : Int) (l3 : List S26)  (h_ : V64 l1 ∧ (∀ s ∈ l3, Sm64 s) ∧ l3.length ≤ 1000000) : soft_Grad.f a0 l1 a2 l3 = some (gradS a0 l1 a2 (l3.map sm)) := if_pos h_
theorem soft_GradP.bad (o : Int) (w : List Int) (f : Int) (l : List S26) (e : Int) (he : e ≠ 0) (hb : l.length ≤ 1000000) : ∀ (d i : Nat) (acc : List (List Int)), d + i = l.length → acc.length ≤ i →
    soft_GradP.l0 (d + 1) o w f l e acc l (l.length : Int) (i : Int) = some ([], e) := by
  intro d
  induction d with
  | zero => intro i acc hd ha; rw [soft_GradP.l0, if_neg (by omega), if_neg he]
  | succ d ih =>
    intro i acc hd ha
    rw [soft_GradP.l0, if_pos (by omega), if_pos (by omega), if_pos (by omega), if_neg he, if_pos (by omega), wrap64_of (by unfold I64; omega), show (i : Int) + 1 = ((i + 1 : Nat) : Int) by omega, ih (i + 1) _ (by omega) (by rw [List.length_append, List.length_singleton]; omega)]
theorem soft_GradP.good (o : Int) (w : List Int) (f : Int) (l : List S26) (hw : V64 w) (hs : ∀ s ∈ l, Sm64 s) (hx : ∀ s ∈ l, s.f0.length ≤ 16) (hb : l.length ≤ 64) : ∀ (d i : Nat) (acc : List (List Int)), d + i = l.length → acc.length ≤ i → (∀ v ∈ acc, V64 v ∧ v.length ≤ 136) →
    soft_GradP.l0 (d + 1) o w f l 0 acc l (l.length : Int) (i : Int) = some (if (rowsFrom (fun s : S26 => bendS o w f (sm s)) (l.drop i) acc).2 = 0 then meanL l.length (rowsFrom (fun s : S26 => bendS o w f (sm s)) (l.drop i) acc).1 else ([], (rowsFrom (fun s : S26 => bendS o w f (sm s)) (l.drop i) acc).2)) := by
  intro d
  induction d with
  | zero =>
    intro i acc hd ha hv
    rw [soft_GradP.l0, if_neg (by omega), if_pos rfl, List.drop_eq_nil_of_le (by omega), rowsFrom_nil, linear_Mean.of _ _ ⟨by unfold I64; omega, fun v h => (hv v h).1, List.all_eq_true.2 fun v h => decide_eq_true (by have := (hv v h).2; omega)⟩]
    rfl
  | succ d ih =>
    intro i acc hd ha hv
    have hi : i < l.length := by omega
    have hm := List.getElem_mem hi
    have h1 := hs _ hm
    have hbd : bendS o w f (sm l[i]) = if (offS o w l[i].f0 l[i].f1 f).2 = 0 then bendRows l[i].f0 f (offS o w l[i].f0 l[i].f1 f).1 else ([], (offS o w l[i].f0 l[i].f1 f).2) := rfl
    have hbg := bendS_good o w f (sm l[i])
    have hxl : (sm l[i]).1.length ≤ 16 := hx _ hm
    rw [soft_GradP.l0, if_pos (by omega), if_pos (by omega), if_pos (by omega), if_pos rfl, rd_sm hi, soft_Off.of _ _ _ _ _ ⟨hw, h1.1⟩, Option.bind_some, List.drop_eq_getElem_cons hi]
    by_cases c : (offS o w l[i].f0 l[i].f1 f).2 = 0
    · rw [if_pos c] at hbd
      obtain ⟨hl, h2, h8, hov⟩ := offS_good c
      rw [if_pos c, soft_bend.of _ _ _ _ ⟨h1.1, hov, by omega⟩, Option.bind_some, if_pos (by omega), wrap64_of (by unfold I64; omega), show (i : Int) + 1 = ((i + 1 : Nat) : Int) by omega]
      by_cases c2 : (bendRows l[i].f0 f (offS o w l[i].f0 l[i].f1 f).1).2 = 0
      · rw [c2, rowsFrom_ok (g := fun s : S26 => bendS o w f (sm s)) (by simp only [hbd]; exact c2)]
        simp only [hbd]
        rw [hbd] at hbg
        refine ih (i + 1) _ (by omega) (by rw [List.length_append, List.length_singleton]; omega) ?_
        intro v hv'
        rcases List.mem_append.1 hv' with e | e
        · exact hv v e
        · rw [List.mem_singleton.1 e]; exact ⟨hbg.1, by have := hbg.2; omega⟩
      · rw [soft_GradP.bad o w f l _ c2 (by omega) d (i + 1) _ (by omega) (by rw [List.length_append, List.length_singleton]; omega), rowsFrom_bad (g := fun s : S26 => bendS o w f (sm s)) (by simp only [hbd]; exact c2)]
        simp only [hbd, if_neg c2]
    · rw [if_neg c] at hbd
      rw [if_neg c, if_pos (by omega), wrap64_of (by unfold I64; omega), show (i : Int) + 1 = ((i + 1 : Nat) : Int) by omega, soft_GradP.bad o w f l _ c (by omega) d (i + 1) _ (by omega) (by rw [List.length_append, List.length_singleton]; omega), rowsFrom_bad (g := fun s : S26 => bendS o w f (sm s)) (by simp only [hbd]; exact c)]
      simp only [hbd, if_neg c]
theorem rowsL_smS (o : Int) (w : List Int) (f : Int) : ∀ l : List S26, rowsL (bendS o w f) (l.map sm) = rowsL (fun s => bendS o w f (sm s)) l
  | [] => rfl
  | x :: l => by simp only [List.map_cons, rowsL, rowsL_smS o w f l]
theorem soft_GradP.is (o : Int) (w : List Int) (f : Int) (l : List S26) (hw : V64 w) (hs : ∀ s ∈ l, Sm64 s) (hb : l.length ≤ 1000000) : soft_GradP.f (l.length + 1) o w f l = some (gradS o w f (l.map sm)) := by
  unfold soft_GradP.f gradS soft_fits.f
  rw [Option.bind_some]
  by_cases c : fitS o w (l.map sm) = 0
  · obtain ⟨h1, h2⟩ := fitS_ok c
    rw [List.length_map] at h1
    have hk := soft_GradP.good o w f l hw hs (fun s h => h2 (sm s) (List.mem_map_of_mem h)) h1 l.length 0 [] (by omega) (by simp) (fun v hv => by cases hv)
    rw [List.drop_zero, rowsFrom_start, show ((0 : Nat) : Int) = 0 from rfl] at hk
    rw [c, if_pos rfl, List.length_map, rowsL_smS]
    exact hk
  · have hk := soft_GradP.bad o w f l _ c hb l.length 0 [] (by omega) (by simp)
    rw [show ((0 : Nat) : Int) = 0 from rfl] at hk
    rw [if_neg c, hk]
theorem soft_Grad.calls (a0 : Int) (A1 : Option Addr) (c1 : Nat) (l1 : List Int) (a2 : Int) (A3 : Option Addr) (c3 : Nat) (l3 : List (S26)) (r1 : List Int) (r2 : Int) (w : World) (hr1 : Kd.C (Kd.int .i64) w A1 l1.length l1) (hc1 : l1.length ≤ c1) (hr3 : Kd.C k26 w A3 l3.length l3) (hc3 : l3.length ≤ c3) (h : soft_Grad.f a0 l1 a2 l3 = some (r1, r2)) :
    Calls Try.prog 92 #[.int .i64 a0, .slice A1 l1.length c1, .int .i64 a2, .slice A3 l3.length c3] w fun e w' => ∃ v0_ : Value, e = .returned (.tuple #[v0_, .int .i64 r2]) ∧ Kd.R (Kd.int .i64) 2 w' w.heap.size (fun _ => True) v0_ r1 ∧ Below w.heap.size w w' := by
  unfold soft_Grad.f at h
  split at h
  case isFalse => cases h
  rename_i hv
  exact soft_GradP.calls (l3.length + 1) a0 A1 c1 l1 a2 A3 c3 l3 r1 r2 w hr1 hc1 hr3 hc3 ((soft_GradP.is a0 l1 a2 l3 hv.1 hv.2.1 hv.2.2).trans h)


end Go.Proofs.Ytfbdalnjijdknaa.HS
