/- What Go functions do, each as a plain Lean function with the same answers, and the proof of it, in every world: printed by the session's driver over the kit's print, with texts by hand. -/
import Derived.Test.YtbnfejaeekljcaaHDx0
import Derived.Test.YtbnfejaeekljcaaHDx1
import Derived.Test.YtbnfejaeekljcaaHDx3
import Derived.Test.YtbnfejaeekljcaaHDx6
import Derived.Test.YtbnfejaeekljcaaHDx8
namespace Go.Proofs.Ytbnfejaeekljcaa.HD
open Go.RowKit Go.Proofs.YtbnfejaeekljcaaW.PrintWords Go.Proofs.YtbnfejaeekljcaaW.PrintLast Go.Proofs.YtbnfejaeekljcaaW.PrintMore
attribute [local go_sem] max2_int min2_int max_two min_two max_three min_three max_four min_four   -- for this text's walks alone
open Go.Proofs.Ytbnfejaeekljcaa.Sp
attribute [local go_sem] Go.Proofs.Ytbnfejaeekljcaa.Sp.u64_not
set_option linter.unusedVariables false
set_option linter.unusedSimpArgs false

/-! ### soft_bendP: function 35 -/
def soft_bendP.l0 : Nat → Int → List Int → List Int → Int → Int → List Int → Int → Option (List Int × Int)
 | 0, _, _, _, _, _, _, _ => none
 | k + 1, x2, x6, x12, x13, x14, x240000, x240001 => if x14 < x13 then (if 0 ≤ x14 then (if x14 < (x12.length : Int) then ((vec_Scale.f x240000 (rd x12 x14) x2).bind fun bt241 => (if bt241.2 = 0 then (if x6.length + bt241.1.length < 17592186044416 then ((some (x6 ++ bt241.1 : List Int)).bind fun y245 => (if y245.length < 17592186044416 then (soft_bendP.l0 k x2 (y245 ++ [rd x12 x14]) x12 x13 (wrap64 (x14 + 1)) x240000 x240001) else (none))) else (none)) else (some (([] : List Int), bt241.2)))) else (none)) else (none)) else (some (x6, 0))
def soft_bendP.f (k : Nat) (l0_0 : List Int) (a0_1 : Int) (l1 : List Int) (a2 : Int) : Option (List Int × Int) := soft_bendP.l0 k a2 ([] : List Int) l1 (l1.length : Int) 0 l0_0 a0_1
theorem soft_bendP.mono_l : ∀ k, (∀ y0 y1 y2 y3 y4 y5 y6, LeO (soft_bendP.l0 k y0 y1 y2 y3 y4 y5 y6) (soft_bendP.l0 (k + 1) y0 y1 y2 y3 y4 y5 y6))
 | 0 => fun _ _ _ _ _ _ _ r h => by simp [soft_bendP.l0] at h
 | k + 1 => by
  have ih0 := soft_bendP.mono_l k
  ·
   intro y0 y1 y2 y3 y4 y5 y6
   unfold soft_bendP.l0
   repeat' first
   | (with_reducible exact ih0 _ _ _ _ _ _ _)
   | (with_reducible exact LeO.refl _)
   | (with_reducible exact LeO.none _)
   | (with_reducible refine LeO.ite ?_ ?_)
   | (with_reducible refine LeO.bind ?_ (fun _ => ?_))
   | exact ih0 _ _ _ _ _ _ _
   | exact LeO.none _
   | refine LeO.ite ?_ ?_
   | refine LeO.bind ?_ (fun _ => ?_)
theorem soft_bendP.mono : ∀ a0 a1 a2 a3 k, LeO (soft_bendP.f k a0 a1 a2 a3) (soft_bendP.f (k + 1) a0 a1 a2 a3) := by
 intro a0 a1 a2 a3 k
 have ih0 := soft_bendP.mono_l k
 unfold soft_bendP.f
 repeat' first
   | (with_reducible exact ih0 _ _ _ _ _ _ _)
   | (with_reducible exact LeO.refl _)
   | (with_reducible exact LeO.none _)
   | (with_reducible refine LeO.ite ?_ ?_)
   | (with_reducible refine LeO.bind ?_ (fun _ => ?_))
   | exact ih0 _ _ _ _ _ _ _
   | exact LeO.none _
   | refine LeO.ite ?_ ?_
   | refine LeO.bind ?_ (fun _ => ?_)
set_option maxHeartbeats 8000000 in
set_option maxRecDepth 100000 in
theorem soft_bendP.calls (k : Nat) (A0_0 : Option Addr) (c0_0 : Nat) (l0_0 : List Int) (a0_1 : Int) (A1 : Option Addr) (c1 : Nat) (l1 : List Int) (a2 : Int) (r1 : List Int) (r2 : Int) (w : World) (hr0_0 : Kd.C (Kd.int .i64) w A0_0 l0_0.length l0_0) (hc0_0 : l0_0.length ≤ c0_0) (hr1 : Kd.C (Kd.int .i64) w A1 l1.length l1) (hc1 : l1.length ≤ c1) (h : soft_bendP.f k l0_0 a0_1 l1 a2 = some (r1, r2)) :
  Calls Try.prog 35 #[.agg #[.slice A0_0 l0_0.length c0_0, .int .i64 a0_1], .slice A1 l1.length c1, .int .i64 a2] w fun e w' => ∃ v0_ : Value, e = .returned (.tuple #[v0_, .int .i64 r2]) ∧ Kd.R (Kd.int .i64) 2 w' w.heap.size (fun _ => True) v0_ r1 ∧ Below w.heap.size w w' := by
 have hu37 := Try.underlying37
 have HR0_0 := Aside0.mk hr0_0
 have HC0_0 := Aside0.mk hc0_0
 clear hr0_0 hc0_0
 have HR1 := Aside0.mk hr1
 have HC1 := Aside0.mk hc1
 clear hr1 hc1
 have HB := Aside0.mk (Below.refl w.heap.size w)
 have H : (soft_bendP.l0 k a2 ([] : List Int) l1 (l1.length : Int) 0 l0_0 a0_1) = some (r1, r2) := h
 clear h
 have H' := Aside0.mk H
 clear H
 go_enter Try.func35, Try.ntmps35
 go_wp2_with (first | ((with_reducible refine gate_dst (N := 3) rfl ?_); refine box_event ?hg (N := 3) ?hd (cs := #[.slice A0_0 l0_0.length c0_0, .int .i64 a0_1]) (t := 37) ?hr ?_; (case hd => rfl); (case hg => rfl); (case hr => first | (go_simp; done) | (go_simp; rfl)); intro gb239 hg w4 hbox hb; have n0_ := Aside0.mk (zzT (by repeat (first | (with_reducible first | exact HB.out | apply zzA | apply zzN | apply zzD) | exact HB.out)) hb); have n1_ := Aside0.mk (hbox); have n2_ := Aside0.mk ((by rw [hg]; exact (zzS (by repeat (first | (with_reducible first | exact HB.out | apply zzA | apply zzN | apply zzD) | exact HB.out))) : w.heap.size ≤ gb239)); have n3_ := Aside0.mk ((by rw [hg]; exact (zzS (by repeat (first | (with_reducible first | exact HB.out | apply zzA | apply zzN | apply zzD) | exact HB.out))) : w.heap.size ≤ gb239)); clear HB; have HB := n0_; have BK239 := n1_; have GW239 := n2_; have GE239 := n3_; clear n0_ n1_ n2_ n3_; clear hb hbox hg))
 go_loopg [6, 14] k (fun kq v6 v14 w' => ∃ (x6_1 : List Int) (x14_1 : Int), v14 = .int .i64 x14_1 ∧ Aside0 (soft_bendP.l0 kq a2 x6_1 l1 (l1.length : Int) x14_1 l0_0 a0_1 = some (r1, r2)) ∧ Aside0 (kq ≤ k) ∧ Aside0 (Kd.R (Kd.int .i64) 2 w' w.heap.size (fun _ => True) v6 x6_1) ∧ Aside0 (w'.heap[gb239]? = some (.cells #[(.slice A0_0 l0_0.length c0_0), .int .i64 a0_1] 37 (0, 0))) ∧ Aside0 (Below w.heap.size w w'))
 case atStart => exact ⟨(([] : List Int)), (0), (by first | rfl | (simp; done) | (simp [*]; done)), H', ⟨Nat.le_refl _⟩, ⟨by first | exact Kd.R_nil _ _ _ _ _ | exact Kd.N_nil _ _ _ _ _ | exact Kd.V_nil _ _ _ _ _ | exact Kd.Q_nil _ _ _ _ _ | exact Kd.S_nil _ _ _ _ _⟩, ⟨by (with_reducible repeat (first | refine kkN ?_ _ | refine kkD ?_ | refine kkA ?_ _)); exact BK239.out⟩, ⟨by repeat (first | (with_reducible first | exact HB.out | apply zzA | apply zzN | apply zzD | refine below_set ?_ GE239.out) | exact HB.out)⟩⟩
 case round =>
  clear H'
  try clear c1
  try clear p2
  try clear c3
  obtain ⟨x6_1, x14_1, rfl, HA, HK1, HO_6, BK239, HB⟩ := hrel
  cases gk with
  | zero => exact absurd HA.out (by simp [soft_bendP.l0])
  | succ k1 =>
   have H := HA.out
   clear HA
   simp only [soft_bendP.l0] at H
   by_cases c5 : x14_1 < (l1.length : Int)
   ·
    rw [if_pos c5] at H
    have c5b0 : decide (x14_1 < (l1.length : Int)) = true := decide_eq_true c5
    clear c5
    by_cases c6 : 0 ≤ x14_1
    ·
     rw [if_pos c6] at H
     have c6b0 : decide (0 ≤ x14_1) = true := decide_eq_true c6
     clear c6
     by_cases c7 : x14_1 < (l1.length : Int)
     ·
      rw [if_pos c7] at H
      have c7b0 : decide (x14_1 < (l1.length : Int)) = true := decide_eq_true c7
      clear c7
      replace H := Option.bind_eq_some_iff.mp H
      obtain ⟨⟨t241, t242⟩, A80, H⟩ := H
      replace H : (if t242 = 0 then (if x6_1.length + t241.length < 17592186044416 then ((some (x6_1 ++ t241 : List Int)).bind fun y245 => (if y245.length < 17592186044416 then (soft_bendP.l0 k1 a2 (y245 ++ [rd l1 x14_1]) l1 (l1.length : Int) (wrap64 (x14_1 + 1)) l0_0 a0_1) else (none))) else (none)) else (some (([] : List Int), t242))) = some (r1, r2) := H
      have A8 := Aside0.mk A80
      clear A80
      by_cases c9 : t242 = 0
      ·
       rw [if_pos c9] at H
       have c9b0 : (t242 == 0) = true := beq_iff_eq.mpr c9
       have c9b1 : (t242 != 0) = false := bne_eq_false_iff_eq.mpr c9
       clear c9
       by_cases c10 : x6_1.length + t241.length < 17592186044416
       ·
        rw [if_pos c10] at H
        have LMc10 := Aside0.mk c10
        clear c10
        obtain ⟨y245, hy245⟩ : ∃ y_ : List Int, y_ = (x6_1 ++ t241) := ⟨_, rfl⟩
        replace H : (if y245.length < 17592186044416 then (soft_bendP.l0 k1 a2 (y245 ++ [rd l1 x14_1]) l1 (l1.length : Int) (wrap64 (x14_1 + 1)) l0_0 a0_1) else (none)) = some (r1, r2) := by first | (rw [hy245]; with_reducible exact H) | (have H2_ := (Option.bind_some _ _).symm.trans H; rw [hy245]; with_reducible exact H2_) | (have H2_ := (Option.bind_some _ _).symm.trans H; with_reducible exact H2_) | with_reducible exact H | (rw [hy245]; exact H) | exact H
        have Ny245 := Aside0.mk hy245
        clear hy245
        by_cases c11 : y245.length < 17592186044416
        ·
         rw [if_pos c11] at H
         have LMc11 := Aside0.mk c11
         clear c11
         obtain ⟨y248, hy248⟩ : ∃ y_ : List Int, y_ = (y245 ++ [rd l1 x14_1]) := ⟨_, rfl⟩
         replace H : (soft_bendP.l0 k1 a2 y248 l1 (l1.length : Int) (wrap64 (x14_1 + 1)) l0_0 a0_1) = some (r1, r2) := by first | (rw [hy248]; with_reducible exact H) | (have H2_ := (Option.bind_some _ _).symm.trans H; rw [hy248]; with_reducible exact H2_) | (have H2_ := (Option.bind_some _ _).symm.trans H; with_reducible exact H2_) | with_reducible exact H | (rw [hy248]; exact H) | exact H
         have Ny248 := Aside0.mk hy248
         clear hy248
         have H' := Aside0.mk H
         clear H
         have p240 : 0 ≤ (x14_1 : Int) := of_decide_eq_true (by first | (with_reducible assumption) | assumption)
         have q240 : x14_1 < (l1.length : Int) := of_decide_eq_true (by first | (with_reducible assumption) | assumption)
         obtain ⟨ad240, e240, hx240_0⟩ := Kd.at_int HR1.out x14_1 p240 q240
         cases e240
         replace hx240_0 := (HB.out.cell (World.block_lt_of_cell? w _ hx240_0)).trans hx240_0
         replace p240 := eq_true p240
         replace q240 := eq_true q240
         have hcz12_0 : wr.cell? ⟨gb239, 0, none⟩ = some (.slice A0_0 l0_0.length c0_0) := (blk_cell BK239.out 0).trans rfl
         have hcz12_1 : wr.cell? ⟨gb239, 1, none⟩ = some (.int .i64 a0_1) := (blk_cell BK239.out 1).trans rfl
         have hfz12_0 := blk_frozen BK239.out 0
         have hfz12_1 := blk_frozen BK239.out 1
         go_wp2_with (first | ((with_reducible refine gate_callee (f := 31) rfl ?_); refine goesL_ (some 23) rfl rfl Try.func31 (by kernel_rfl) rfl #[.slice A0_0 l0_0.length c0_0, .int .i64 (rd l1 x14_1), .int .i64 a2] rfl (by (try simp only [List.map_toArray, List.map_cons, List.map_nil]); first | done | rfl | (simp only [List.length_drop, List.length_take]; rfl)) ?_; (with_reducible refine (vec_Scale.calls _ _ l0_0 (rd l1 x14_1) a2 t241 t242 _ ?side1 ?side2 A8.out).mono ?_); (case side1 => repeat (first | exact (Kd.C_below HR0_0.out HB.out) | (with_reducible refine ccA ?_ _) | (with_reducible refine ccN ?_ _) | (with_reducible refine ccD ?_))); (case side2 => exact HC0_0.out); rintro e w13 ⟨v243, rfl, ho0, hb⟩; refine ⟨_, rfl, ?_⟩; have n0_ := Aside0.mk (Kd.R_elder' (by (with_reducible repeat (first | apply rrA | apply rrN | apply rrD)); exact HO_6.out) (Kd.R_base ho0) hb); have n1_ := Aside0.mk (Kd.R_lower (Kd.R_new' ho0 (Kd.R_lt (by (with_reducible repeat (first | apply rrA | apply rrN | apply rrD)); exact HO_6.out))) (zzS (by repeat (first | (with_reducible first | exact HB.out | apply zzA | apply zzN | apply zzD | refine below_set ?_ GE239.out) | exact HB.out)))); have n2_ := Aside0.mk (blk_below (g := gb239) (o := .cells #[.slice A0_0 l0_0.length c0_0, .int .i64 a0_1] 37 (0, 0)) (by (with_reducible repeat (first | refine kkN ?_ _ | refine kkD ?_ | refine kkA ?_ _)); exact BK239.out) hb); have n3_ := Aside0.mk (zzT (by repeat (first | (with_reducible first | exact HB.out | apply zzA | apply zzN | apply zzD | refine below_set ?_ GE239.out) | exact HB.out)) hb); clear HO_6; clear BK239; clear HB; have HO_6 := n0_; have HO244 := n1_; have BK239 := n2_; have HB := n3_; clear n0_ n1_ n2_ n3_; (try clear hb); (try clear hb2); (try clear hk); (try clear hi); (try clear ho0); obtain ⟨Ao15, co15, eo15⟩ := Kd.R_slice HO244.out; subst eo15) | ((with_reducible refine gate_builtin (b := .append) (xs := #[.tmp 29, .tmp 30]) rfl ?_); at_builtin; refine Kd.R_append_rows (Kd.int .i64) (w0 := w) w.heap.size rfl (.tmp 29) (.tmp 30) 26 2 (.int .i64 0) 8 rfl Try.underlying26 info2 rfl (by decide) (by omega) u6 x6_1 t241 _ _ _ (fun k_ => some k_ ≠ (.slice Ao15 t241.length co15 : Value).ownBlock) (fun _ => False) rfl rfl ?aO ?aR (fun _ _ h => h) (fun _ h => h.elim) ?aF ?aB ?aS ?aL ?_; (case aR => repeat (first | exact (Kd.R_reads' HO244.out).2.2 | (with_reducible refine ccA ?_ _) | (with_reducible refine ccN ?_ _) | (with_reducible refine ccD ?_))); (case aB => exact (by repeat (first | (with_reducible first | exact HB.out | apply zzA | apply zzN | apply zzD | refine below_set ?_ GE239.out) | exact HB.out))); (case aF => exact (fun k_ hk => Kd.fresh' (Kd.R_lt (by (with_reducible repeat (first | apply rrA | apply rrN | apply rrD)); exact HO244.out)) k_ hk)); (case aO => exact (by (with_reducible repeat (first | apply rrA | apply rrN | apply rrD)); exact Kd.R_mono HO_6.out (fun _ hk => hk.2))); (case aS => exact (zzS (by repeat (first | (with_reducible first | exact HB.out | apply zzA | apply zzN | apply zzD | refine below_set ?_ GE239.out) | exact HB.out)))); (case aL => have := LMc10.out; omega); intro v246 w14 ho hb hg hat; rw [← Ny245.out] at ho; have n0_ := Aside0.mk (blk_grown (g := gb239) (o := .cells #[.slice A0_0 l0_0.length c0_0, .int .i64 a0_1] 37 (0, 0)) (by (with_reducible repeat (first | refine kkN ?_ _ | refine kkD ?_ | refine kkA ?_ _)); exact BK239.out) hg (Kd.R_ne HO_6.out BK239.out (by decide))); have n1_ := Aside0.mk (Kd.R_after (ok := (fun _ => True)) (by (with_reducible repeat (first | apply rrA | apply rrN | apply rrD)); exact HO244.out) hg hat); have n2_ := Aside0.mk (hb); have n3_ := Aside0.mk (ho); clear BK239; clear HO244; clear HB; clear HO_6; have BK239 := n0_; have HO244 := n1_; have HB := n2_; have HO247 := n3_; clear n0_ n1_ n2_ n3_; clear ho hb hg hat) | ((with_reducible refine gate_builtin (b := .append) (xs := #[.tmp 31, .tmp 33]) rfl ?_); at_builtin; refine Kd.R_append (Kd.int .i64) (w0 := w) w.heap.size rfl (.tmp 31) (.tmp 33) 26 2 (.int .i64 0) 8 rfl Try.underlying26 info2 rfl (by decide) (by omega) v246 y245 (rd l1 x14_1) [.int .i64 (rd l1 x14_1)] (fun k_ => some k_ ≠ (.slice Ao15 t241.length co15 : Value).ownBlock) (fun _ => False) rfl rfl ?aP (fun _ hk => hk.elim) ?aF ?aO ?aB ?aS ?aL ?_; (case aP => exact rfl); (case aB => exact (by repeat (first | (with_reducible first | exact HB.out | apply zzA | apply zzN | apply zzD | refine below_set ?_ GE239.out) | exact HB.out))); (case aF => exact (fun k_ hk => Kd.fresh' (Kd.R_lt (by (with_reducible repeat (first | apply rrA | apply rrN | apply rrD)); exact HO244.out)) k_ hk)); (case aO => exact (by (with_reducible repeat (first | apply rrA | apply rrN | apply rrD)); exact HO247.out)); (case aS => exact (zzS (by repeat (first | (with_reducible first | exact HB.out | apply zzA | apply zzN | apply zzD | refine below_set ?_ GE239.out) | exact HB.out)))); (case aL => have := LMc11.out; omega); intro v249 w16 ho hb hg hat; rw [← Ny248.out] at ho; have n0_ := Aside0.mk (blk_grown (g := gb239) (o := .cells #[.slice A0_0 l0_0.length c0_0, .int .i64 a0_1] 37 (0, 0)) (by (with_reducible repeat (first | refine kkN ?_ _ | refine kkD ?_ | refine kkA ?_ _)); exact BK239.out) hg (Kd.R_ne HO247.out BK239.out (by decide))); have n1_ := Aside0.mk (Kd.R_after (ok := (fun _ => True)) (by (with_reducible repeat (first | apply rrA | apply rrN | apply rrD)); exact HO244.out) hg hat); have n2_ := Aside0.mk (hb); have n3_ := Aside0.mk (ho); clear BK239; clear HO244; clear HB; clear HO247; have BK239 := n0_; have HO244 := n1_; have HB := n2_; have HO250 := n3_; clear n0_ n1_ n2_ n3_; clear ho hb hg hat))
         go_roundg k1
         case measure => have := HK1.out; omega
         case rel => exact ⟨(y248), (wrap64 (x14_1 + 1)), (by first | rfl | (simp; done) | (simp [*]; done)), H', ⟨by have := HK1.out; omega⟩, ⟨by (with_reducible repeat (first | apply rrA | apply rrN | apply rrD)); exact Kd.R_mono HO250.out (fun _ hk => trivial)⟩, ⟨by (with_reducible repeat (first | refine kkN ?_ _ | refine kkD ?_ | refine kkA ?_ _)); exact BK239.out⟩, ⟨by repeat (first | (with_reducible first | exact HB.out | apply zzA | apply zzN | apply zzD | refine below_set ?_ GE239.out) | exact HB.out)⟩⟩
        ·
         rw [if_neg c11] at H
         exact absurd H (by simp)
       ·
        rw [if_neg c10] at H
        exact absurd H (by simp)
      ·
       rw [if_neg c9] at H
       have c9b0 : (t242 == 0) = false := beq_eq_false_iff_ne.mpr c9
       have c9b1 : (t242 != 0) = true := bne_iff_ne.mpr c9
       simp only [Option.some.injEq, Prod.mk.injEq] at H
       obtain ⟨rfl, rfl⟩ := H
       have p240 : 0 ≤ (x14_1 : Int) := of_decide_eq_true (by first | (with_reducible assumption) | assumption)
       have q240 : x14_1 < (l1.length : Int) := of_decide_eq_true (by first | (with_reducible assumption) | assumption)
       obtain ⟨ad240, e240, hx240_0⟩ := Kd.at_int HR1.out x14_1 p240 q240
       cases e240
       replace hx240_0 := (HB.out.cell (World.block_lt_of_cell? w _ hx240_0)).trans hx240_0
       replace p240 := eq_true p240
       replace q240 := eq_true q240
       have hcz17_0 : wr.cell? ⟨gb239, 0, none⟩ = some (.slice A0_0 l0_0.length c0_0) := (blk_cell BK239.out 0).trans rfl
       have hcz17_1 : wr.cell? ⟨gb239, 1, none⟩ = some (.int .i64 a0_1) := (blk_cell BK239.out 1).trans rfl
       have hfz17_0 := blk_frozen BK239.out 0
       have hfz17_1 := blk_frozen BK239.out 1
       go_wp2_with (first | ((with_reducible refine gate_callee (f := 31) rfl ?_); refine goesL_ (some 23) rfl rfl Try.func31 (by kernel_rfl) rfl #[.slice A0_0 l0_0.length c0_0, .int .i64 (rd l1 x14_1), .int .i64 a2] rfl (by (try simp only [List.map_toArray, List.map_cons, List.map_nil]); first | done | rfl | (simp only [List.length_drop, List.length_take]; rfl)) ?_; (with_reducible refine (vec_Scale.calls _ _ l0_0 (rd l1 x14_1) a2 t241 t242 _ ?side1 ?side2 A8.out).mono ?_); (case side1 => repeat (first | exact (Kd.C_below HR0_0.out HB.out) | (with_reducible refine ccA ?_ _) | (with_reducible refine ccN ?_ _) | (with_reducible refine ccD ?_))); (case side2 => exact HC0_0.out); rintro e w18 ⟨v243, rfl, ho0, hb⟩; refine ⟨_, rfl, ?_⟩; have n0_ := Aside0.mk (Kd.R_elder' (by (with_reducible repeat (first | apply rrA | apply rrN | apply rrD)); exact HO_6.out) (Kd.R_base ho0) hb); have n1_ := Aside0.mk (Kd.R_lower (Kd.R_new' ho0 (Kd.R_lt (by (with_reducible repeat (first | apply rrA | apply rrN | apply rrD)); exact HO_6.out))) (zzS (by repeat (first | (with_reducible first | exact HB.out | apply zzA | apply zzN | apply zzD | refine below_set ?_ GE239.out) | exact HB.out)))); have n2_ := Aside0.mk (blk_below (g := gb239) (o := .cells #[.slice A0_0 l0_0.length c0_0, .int .i64 a0_1] 37 (0, 0)) (by (with_reducible repeat (first | refine kkN ?_ _ | refine kkD ?_ | refine kkA ?_ _)); exact BK239.out) hb); have n3_ := Aside0.mk (zzT (by repeat (first | (with_reducible first | exact HB.out | apply zzA | apply zzN | apply zzD | refine below_set ?_ GE239.out) | exact HB.out)) hb); clear HO_6; clear BK239; clear HB; have HO_6 := n0_; have HO244 := n1_; have BK239 := n2_; have HB := n3_; clear n0_ n1_ n2_ n3_; (try clear hb); (try clear hb2); (try clear hk); (try clear hi); (try clear ho0)))
       go_ret2
       exact ⟨_, by first | rfl | (simp [errW_none, errW_some] <;> rfl) | (simp [*, errW_none, errW_some] <;> rfl), by first | exact Kd.R_nil _ _ _ _ _ | exact Kd.N_nil _ _ _ _ _ | exact Kd.V_nil _ _ _ _ _ | exact Kd.Q_nil _ _ _ _ _ | exact Kd.S_nil _ _ _ _ _, by repeat (first | (with_reducible first | exact HB.out | apply zzA | apply zzN | apply zzD | refine below_set ?_ GE239.out) | exact HB.out)⟩
     ·
      rw [if_neg c7] at H
      exact absurd H (by simp)
    ·
     rw [if_neg c6] at H
     exact absurd H (by simp)
   ·
    rw [if_neg c5] at H
    have c5b0 : decide (x14_1 < (l1.length : Int)) = false := decide_eq_false c5
    clear c5
    simp only [Option.some.injEq, Prod.mk.injEq] at H
    obtain ⟨rfl, rfl⟩ := H
    go_wp2
    go_ret2
    exact ⟨_, by first | rfl | (simp [errW_none, errW_some] <;> rfl) | (simp [*, errW_none, errW_some] <;> rfl), by (with_reducible repeat (first | apply rrA | apply rrN | apply rrD)); exact HO_6.out, by repeat (first | (with_reducible first | exact HB.out | apply zzA | apply zzN | apply zzD | refine below_set ?_ GE239.out) | exact HB.out)⟩

def soft_bend.f (l0_0 : List Int) (a0_1 : Int) (l1 : List Int) (a2 : Int) : Option (List Int × Int) := if V64 l0_0 ∧ V64 l1 ∧ l1.length ≤ 4096 then some (bendRows l0_0 a2 l1) else none
theorem soft_bend.of (l0_0 : List Int) (a0_1 : Int) (l1 : List Int) (a2 : Int)  (h_ : V64 l0_0 ∧ V64 l1 ∧ l1.length ≤ 4096) : soft_bend.f l0_0 a0_1 l1 a2 = some (bendRows l0_0 a2 l1) := if_pos h_
theorem soft_bendP.loop (x : List Int) (y f : Int) (off : List Int) (hx : V64 x) (ho : V64 off) (hl : off.length ≤ 4096) : ∀ (d i : Nat) (acc : List Int), d + i = off.length → acc.length ≤ 4097 * i →
    soft_bendP.l0 (d + 1) f acc off (off.length : Int) (i : Int) x y = some (if (bendRows x f (off.drop i)).2 = 0 then (acc ++ (bendRows x f (off.drop i)).1, 0) else ([], (bendRows x f (off.drop i)).2)) := by
  intro d
  induction d with
  | zero =>
    intro i acc hd ha
    rw [soft_bendP.l0, if_neg (by omega), List.drop_eq_nil_of_le (by omega), bendRows, if_pos rfl, List.append_nil]
  | succ d ih =>
    intro i acc hd ha
    have hi : i < off.length := by omega
    have hrd : rd off (i : Int) = off[i] := by unfold rd; rw [Int.toNat_natCast, List.getD_eq_getElem?_getD, List.getElem?_eq_getElem hi, Option.getD_some]
    rw [soft_bendP.l0, if_pos (by omega), if_pos (by omega), if_pos (by omega), hrd, vec_Scale.of _ _ _ ⟨hx, ho _ (List.getElem_mem hi)⟩, Option.bind_some, List.drop_eq_getElem_cons hi, bendRows]
    have hle := scaleV_lle x off[i] f
    by_cases c : (scaleV x off[i] f).2 = 0
    · rw [if_pos c, if_pos c, if_pos (by omega), Option.bind_some, if_pos (by rw [List.length_append]; omega), wrap64_of (by unfold I64; omega), show (i : Int) + 1 = ((i + 1 : Nat) : Int) by omega,
        ih (i + 1) _ (by omega) (by rw [List.length_append, List.length_append, List.length_singleton]; omega)]
      by_cases c2 : (bendRows x f (off.drop (i + 1))).2 = 0
      · rw [if_pos c2, if_pos c2, if_pos rfl, List.append_assoc, List.append_assoc]; rfl
      · rw [if_neg c2, if_neg c2, if_neg c2]
    · rw [if_neg c, if_neg c, if_neg c]
theorem bendRows_err {x : List Int} {f : Int} : ∀ {os : List Int}, (bendRows x f os).2 ≠ 0 → (bendRows x f os).1 = []
  | [], h => absurd rfl h
  | o :: os, h => by
    rw [bendRows] at h ⊢
    split
    · rename_i c
      rw [if_pos c] at h
      split
      · rename_i c2; rw [if_pos c2] at h; exact absurd rfl h
      · rfl
    · rfl
theorem soft_bendP.is (x : List Int) (y : Int) (off : List Int) (f : Int) (hx : V64 x) (ho : V64 off) (hl : off.length ≤ 4096) : soft_bendP.f (off.length + 1) x y off f = some (bendRows x f off) := by
  unfold soft_bendP.f
  have := soft_bendP.loop x y f off hx ho hl off.length 0 [] (by omega) (by simp)
  rw [show ((0 : Nat) : Int) = 0 from rfl, List.drop_zero, List.nil_append] at this
  rw [this]
  by_cases c : (bendRows x f off).2 = 0
  · rw [if_pos c, ← c]
  · rw [if_neg c, ← bendRows_err c]
theorem soft_bend.calls (A0_0 : Option Addr) (c0_0 : Nat) (l0_0 : List Int) (a0_1 : Int) (A1 : Option Addr) (c1 : Nat) (l1 : List Int) (a2 : Int) (r1 : List Int) (r2 : Int) (w : World) (hr0_0 : Kd.C (Kd.int .i64) w A0_0 l0_0.length l0_0) (hc0_0 : l0_0.length ≤ c0_0) (hr1 : Kd.C (Kd.int .i64) w A1 l1.length l1) (hc1 : l1.length ≤ c1) (h : soft_bend.f l0_0 a0_1 l1 a2 = some (r1, r2)) :
    Calls Try.prog 35 #[.agg #[.slice A0_0 l0_0.length c0_0, .int .i64 a0_1], .slice A1 l1.length c1, .int .i64 a2] w fun e w' => ∃ v0_ : Value, e = .returned (.tuple #[v0_, .int .i64 r2]) ∧ Kd.R (Kd.int .i64) 2 w' w.heap.size (fun _ => True) v0_ r1 ∧ Below w.heap.size w w' := by
  unfold soft_bend.f at h
  split at h
  case isFalse => cases h
  rename_i hv
  exact soft_bendP.calls (l1.length + 1) A0_0 c0_0 l0_0 a0_1 A1 c1 l1 a2 r1 r2 w hr0_0 hc0_0 hr1 hc1 ((soft_bendP.is l0_0 a0_1 l1 a2 hv.1 hv.2.1 hv.2.2).trans h)


/-! ### soft_GradP: function 17 -/
def soft_GradP.l0 : Nat → Int → List Int → Int → List (S37) → Int → List (List Int) → List (S37) → Int → Int → Option (List Int × Int)
 | 0, _, _, _, _, _, _, _, _, _ => none
 | k + 1, x0, x1, x2, x3, x10, x11, x20, x21, x22 => if x22 < x21 then (if 0 ≤ x22 then (if x22 < (x20.length : Int) then (if x10 = 0 then ((soft_Off.f x0 x1 ((rd_T37 x20 x22).f0) ((rd_T37 x20 x22).f1) x2).bind fun bt258 => (if bt258.2 = 0 then ((soft_bend.f ((rd_T37 x20 x22).f0) ((rd_T37 x20 x22).f1) bt258.1 x2).bind fun bt262 => (if x11.length < 5864062014805 then (soft_GradP.l0 k x0 x1 x2 x3 bt262.2 (x11 ++ [bt262.1]) x20 x21 (wrap64 (x22 + 1))) else (none))) else (if x11.length < 5864062014805 then (soft_GradP.l0 k x0 x1 x2 x3 bt258.2 (x11 ++ [([] : List Int)]) x20 x21 (wrap64 (x22 + 1))) else (none)))) else (if x11.length < 5864062014805 then (soft_GradP.l0 k x0 x1 x2 x3 x10 (x11 ++ [([] : List Int)]) x20 x21 (wrap64 (x22 + 1))) else (none))) else (none)) else (none)) else (if x10 = 0 then ((linear_Mean.f (x3.length : Int) x11).bind fun bt252 => (some (bt252.1, bt252.2))) else (some (([] : List Int), x10)))
def soft_GradP.f (k : Nat) (a0 : Int) (l1 : List Int) (a2 : Int) (l3 : List (S37)) : Option (List Int × Int) := (soft_fits.f a0 l1 l3).bind fun t251 => (soft_GradP.l0 k a0 l1 a2 l3 t251 ([] : List (List Int)) l3 (l3.length : Int) 0)
theorem soft_GradP.mono_l : ∀ k, (∀ y0 y1 y2 y3 y4 y5 y6 y7 y8, LeO (soft_GradP.l0 k y0 y1 y2 y3 y4 y5 y6 y7 y8) (soft_GradP.l0 (k + 1) y0 y1 y2 y3 y4 y5 y6 y7 y8))
 | 0 => fun _ _ _ _ _ _ _ _ _ r h => by simp [soft_GradP.l0] at h
 | k + 1 => by
  have ih0 := soft_GradP.mono_l k
  ·
   intro y0 y1 y2 y3 y4 y5 y6 y7 y8
   unfold soft_GradP.l0
   repeat' first
   | (with_reducible exact ih0 _ _ _ _ _ _ _ _ _)
   | (with_reducible exact LeO.refl _)
   | (with_reducible exact LeO.none _)
   | (with_reducible refine LeO.ite ?_ ?_)
   | (with_reducible refine LeO.bind ?_ (fun _ => ?_))
   | exact ih0 _ _ _ _ _ _ _ _ _
   | exact LeO.none _
   | refine LeO.ite ?_ ?_
   | refine LeO.bind ?_ (fun _ => ?_)
theorem soft_GradP.mono : ∀ a0 a1 a2 a3 k, LeO (soft_GradP.f k a0 a1 a2 a3) (soft_GradP.f (k + 1) a0 a1 a2 a3) := by
 intro a0 a1 a2 a3 k
 have ih0 := soft_GradP.mono_l k
 unfold soft_GradP.f
 repeat' first
   | (with_reducible exact ih0 _ _ _ _ _ _ _ _ _)
   | (with_reducible exact LeO.refl _)
   | (with_reducible exact LeO.none _)
   | (with_reducible refine LeO.ite ?_ ?_)
   | (with_reducible refine LeO.bind ?_ (fun _ => ?_))
   | exact ih0 _ _ _ _ _ _ _ _ _
   | exact LeO.none _
   | refine LeO.ite ?_ ?_
   | refine LeO.bind ?_ (fun _ => ?_)
set_option maxHeartbeats 8000000 in
set_option maxRecDepth 100000 in
theorem soft_GradP.calls (k : Nat) (a0 : Int) (A1 : Option Addr) (c1 : Nat) (l1 : List Int) (a2 : Int) (A3 : Option Addr) (c3 : Nat) (l3 : List (S37)) (r1 : List Int) (r2 : Int) (w : World) (hr1 : Kd.C (Kd.int .i64) w A1 l1.length l1) (hc1 : l1.length ≤ c1) (hr3 : Kd.C k37 w A3 l3.length l3) (hc3 : l3.length ≤ c3) (h : soft_GradP.f k a0 l1 a2 l3 = some (r1, r2)) :
  Calls Try.prog 17 #[.int .i64 a0, .slice A1 l1.length c1, .int .i64 a2, .slice A3 l3.length c3] w fun e w' => ∃ v0_ : Value, e = .returned (.tuple #[v0_, .int .i64 r2]) ∧ Kd.R (Kd.int .i64) 2 w' w.heap.size (fun _ => True) v0_ r1 ∧ Below w.heap.size w w' := by
 have hu37 := Try.underlying37
 have HR1 := Aside0.mk hr1
 have HC1 := Aside0.mk hc1
 clear hr1 hc1
 have HR3 := Aside0.mk hr3
 have HC3 := Aside0.mk hc3
 clear hr3 hc3
 have HB := Aside0.mk (Below.refl w.heap.size w)
 have H : ((soft_fits.f a0 l1 l3).bind fun t251 => (soft_GradP.l0 k a0 l1 a2 l3 t251 ([] : List (List Int)) l3 (l3.length : Int) 0)) = some (r1, r2) := h
 clear h
 replace H := Option.bind_eq_some_iff.mp H
 obtain ⟨t251, A50, H⟩ := H
 replace H : (soft_GradP.l0 k a0 l1 a2 l3 t251 ([] : List (List Int)) l3 (l3.length : Int) 0) = some (r1, r2) := H
 have A5 := Aside0.mk A50
 clear A50
 have H' := Aside0.mk H
 clear H
 go_enter Try.func17, Try.ntmps17
 go_wp2_with (first | ((with_reducible refine gate_callee (f := 33) rfl ?_); refine goesL_ (some 19) rfl rfl Try.func33 (by kernel_rfl) rfl #[.int .i64 a0, .slice A1 l1.length c1, .slice A3 l3.length c3] rfl (by (try simp only [List.map_toArray, List.map_cons, List.map_nil]); first | done | rfl | (simp only [List.length_drop, List.length_take]; rfl)) ?_; (with_reducible refine (soft_fits.calls a0 _ _ l1 _ _ l3 t251 _ ?side1 ?side2 ?side3 ?side4 A5.out).mono ?_); (case side1 => repeat (first | exact HR1.out | (with_reducible refine ccA ?_ _) | (with_reducible refine ccN ?_ _) | (with_reducible refine ccD ?_))); (case side2 => exact HC1.out); (case side3 => repeat (first | exact HR3.out | (with_reducible refine ccA ?_ _) | (with_reducible refine ccN ?_ _) | (with_reducible refine ccD ?_))); (case side4 => exact HC3.out); rintro e w6 ⟨rfl, hb⟩; refine ⟨_, rfl, ?_⟩; have n0_ := Aside0.mk (zzT (by repeat (first | (with_reducible first | exact HB.out | apply zzA | apply zzN | apply zzD) | exact HB.out)) hb); clear HB; have HB := n0_; clear n0_; (try clear hb); (try clear hb2); (try clear hk); (try clear hi)))
 go_loopg [10, 11, 22] k (fun kq v10 v11 v22 w' => ∃ (x10_1 : Int) (x11_1 : List (List Int)) (x22_1 : Int), v10 = .int .i64 x10_1 ∧ v22 = .int .i64 x22_1 ∧ Aside0 (soft_GradP.l0 kq a0 l1 a2 l3 x10_1 x11_1 l3 (l3.length : Int) x22_1 = some (r1, r2)) ∧ Aside0 (kq ≤ k) ∧ Aside0 (Kd.S (Kd.slice 2 (Kd.int .i64)) 26 w' w.heap.size (fun _ => True) v11 x11_1) ∧ Aside0 (Below w.heap.size w w'))
 case atStart => exact ⟨(t251), (([] : List (List Int))), (0), (by first | rfl | (simp; done) | (simp [*]; done)), (by first | rfl | (simp; done) | (simp [*]; done)), H', ⟨Nat.le_refl _⟩, ⟨by first | exact Kd.S_nil _ _ _ _ _ | exact Kd.N_nil _ _ _ _ _ | exact Kd.V_nil _ _ _ _ _ | exact Kd.Q_nil _ _ _ _ _ | exact Kd.R_nil _ _ _ _ _⟩, ⟨by repeat (first | (with_reducible first | exact HB.out | apply zzA | apply zzN | apply zzD) | exact HB.out)⟩⟩
 case round =>
  clear H'
  try clear c1
  try clear p2
  try clear c3
  obtain ⟨x10_1, x11_1, x22_1, rfl, rfl, HA, HK1, HO_11, HB⟩ := hrel
  cases gk with
  | zero => exact absurd HA.out (by simp [soft_GradP.l0])
  | succ k1 =>
   have H := HA.out
   clear HA
   simp only [soft_GradP.l0] at H
   by_cases c7 : x22_1 < (l3.length : Int)
   ·
    rw [if_pos c7] at H
    have c7b0 : decide (x22_1 < (l3.length : Int)) = true := decide_eq_true c7
    clear c7
    by_cases c8 : 0 ≤ x22_1
    ·
     rw [if_pos c8] at H
     have c8b0 : decide (0 ≤ x22_1) = true := decide_eq_true c8
     clear c8
     by_cases c9 : x22_1 < (l3.length : Int)
     ·
      rw [if_pos c9] at H
      have c9b0 : decide (x22_1 < (l3.length : Int)) = true := decide_eq_true c9
      clear c9
      by_cases c10 : x10_1 = 0
      ·
       rw [if_pos c10] at H
       have c10b0 : (x10_1 == 0) = true := beq_iff_eq.mpr c10
       have c10b1 : (x10_1 != 0) = false := bne_eq_false_iff_eq.mpr c10
       clear c10
       replace H := Option.bind_eq_some_iff.mp H
       obtain ⟨⟨t258, t261⟩, A110, H⟩ := H
       replace H : (if t261 = 0 then ((soft_bend.f ((rd_T37 l3 x22_1).f0) ((rd_T37 l3 x22_1).f1) t258 a2).bind fun bt262 => (if x11_1.length < 5864062014805 then (soft_GradP.l0 k1 a0 l1 a2 l3 bt262.2 (x11_1 ++ [bt262.1]) l3 (l3.length : Int) (wrap64 (x22_1 + 1))) else (none))) else (if x11_1.length < 5864062014805 then (soft_GradP.l0 k1 a0 l1 a2 l3 t261 (x11_1 ++ [([] : List Int)]) l3 (l3.length : Int) (wrap64 (x22_1 + 1))) else (none))) = some (r1, r2) := H
       have A11 := Aside0.mk A110
       clear A110
       by_cases c12 : t261 = 0
       ·
        rw [if_pos c12] at H
        have c12b0 : (t261 == 0) = true := beq_iff_eq.mpr c12
        have c12b1 : (t261 != 0) = false := bne_eq_false_iff_eq.mpr c12
        clear c12
        replace H := Option.bind_eq_some_iff.mp H
        obtain ⟨⟨t262, t265⟩, A130, H⟩ := H
        replace H : (if x11_1.length < 5864062014805 then (soft_GradP.l0 k1 a0 l1 a2 l3 t265 (x11_1 ++ [t262]) l3 (l3.length : Int) (wrap64 (x22_1 + 1))) else (none)) = some (r1, r2) := H
        have A13 := Aside0.mk A130
        clear A130
        by_cases c14 : x11_1.length < 5864062014805
        ·
         rw [if_pos c14] at H
         have LMc14 := Aside0.mk c14
         clear c14
         obtain ⟨y266, hy266⟩ : ∃ y_ : List (List Int), y_ = (x11_1 ++ [t262]) := ⟨_, rfl⟩
         replace H : (soft_GradP.l0 k1 a0 l1 a2 l3 t265 y266 l3 (l3.length : Int) (wrap64 (x22_1 + 1))) = some (r1, r2) := by first | (rw [hy266]; with_reducible exact H) | (have H2_ := (Option.bind_some _ _).symm.trans H; rw [hy266]; with_reducible exact H2_) | (have H2_ := (Option.bind_some _ _).symm.trans H; with_reducible exact H2_) | with_reducible exact H | (rw [hy266]; exact H) | exact H
         have Ny266 := Aside0.mk hy266
         clear hy266
         have H' := Aside0.mk H
         clear H
         have p256 : 0 ≤ (x22_1 : Int) := of_decide_eq_true (by first | (with_reducible assumption) | assumption)
         have q256 : x22_1 < (l3.length : Int) := of_decide_eq_true (by first | (with_reducible assumption) | assumption)
         obtain ⟨ad256, A256_0, c256_0, e256, hx256_0, hx256_1, hl256_0, hi256_0⟩ := at_T37 HR3.out x22_1 p256 q256
         cases e256
         replace hx256_0 := (HB.out.cell (World.block_lt_of_cell? w _ hx256_0)).trans hx256_0
         replace hx256_1 := (HB.out.cell (World.block_lt_of_cell? w _ hx256_1)).trans hx256_1
         have HR256_0 := Aside0.mk hi256_0
         have HC256_0 := Aside0.mk hl256_0
         clear hi256_0 hl256_0
         replace p256 := eq_true p256
         replace q256 := eq_true q256
         go_wp2_with (first | ((with_reducible refine gate_dst (N := 13) rfl ?_); refine box_event ?hg (N := 13) ?hd (cs := #[.slice none 0 0, .int .i64 0]) (t := 37) ?hr ?_; (case hd => rfl); (case hg => rfl); (case hr => first | (go_simp; done) | (go_simp; rfl)); intro gb257 hg w15 hbox hb; have n0_ := Aside0.mk (Kd.S_below (by (with_reducible repeat (first | apply Kd.S_alloc | apply Kd.S_drewN | apply Kd.S_drew)); exact HO_11.out) hb); have n1_ := Aside0.mk (zzT (by repeat (first | (with_reducible first | exact HB.out | apply zzA | apply zzN | apply zzD) | exact HB.out)) hb); have n2_ := Aside0.mk (hbox); have n3_ := Aside0.mk ((by rw [hg]; exact (zzS (by repeat (first | (with_reducible first | exact HB.out | apply zzA | apply zzN | apply zzD) | exact HB.out))) : w.heap.size ≤ gb257)); have n4_ := Aside0.mk ((by rw [hg]; exact (zzS (by repeat (first | (with_reducible first | exact HB.out | apply zzA | apply zzN | apply zzD) | exact HB.out))) : w.heap.size ≤ gb257)); clear HO_11; clear HB; have HO_11 := n0_; have HB := n1_; have BK257 := n2_; have GW257 := n3_; have GE257 := n4_; clear n0_ n1_ n2_ n3_ n4_; clear hb hbox hg; have hcz16_0 : w15.cell? ⟨gb257, 0, none⟩ = some (.slice none 0 0) := (blk_cell BK257.out 0).trans rfl; have hcz16_1 : w15.cell? ⟨gb257, 1, none⟩ = some (.int .i64 0) := (blk_cell BK257.out 1).trans rfl; have hfz16_0 := blk_frozen BK257.out 0; have hfz16_1 := blk_frozen BK257.out 1) | ((with_reducible refine gate_callee (f := 34) rfl ?_); refine goesL_ (some 33) rfl rfl Try.func34 (by kernel_rfl) rfl #[.int .i64 a0, .slice A1 l1.length c1, .agg #[.slice A256_0 ((rd_T37 l3 x22_1).f0).length c256_0, .int .i64 ((rd_T37 l3 x22_1).f1)], .int .i64 a2] rfl (by (try simp only [List.map_toArray, List.map_cons, List.map_nil]); first | done | rfl | (simp only [List.length_drop, List.length_take]; rfl)) ?_; (with_reducible refine (soft_Off.calls a0 _ _ l1 _ _ ((rd_T37 l3 x22_1).f0) ((rd_T37 l3 x22_1).f1) a2 t258 t261 _ ?side1 ?side2 ?side3 ?side4 A11.out).mono ?_); (case side1 => exact Kd.C_below HR1.out (by repeat (first | (with_reducible first | exact HB.out | apply zzA | apply zzN | apply zzD | refine below_set ?_ GE257.out) | exact HB.out))); (case side2 => exact HC1.out); (case side3 => exact Kd.C_below HR256_0.out (by repeat (first | (with_reducible first | exact HB.out | apply zzA | apply zzN | apply zzD | refine below_set ?_ GE257.out) | exact HB.out))); (case side4 => exact HC256_0.out); rintro e w17 ⟨v259, rfl, ho0, hb⟩; refine ⟨_, rfl, ?_⟩; have n0_ := Aside0.mk (Kd.S_elder' (by (with_reducible repeat (first | apply Kd.S_alloc | apply Kd.S_drewN | apply Kd.S_drew)); exact (Kd.S_mono (Kd.S_far (p := ⟨gb257, 1, none⟩) (Kd.S_far (p := ⟨gb257, 0, none⟩) (Kd.S_types HO_11.out BK257.out (by decide)) (fun _ hk => hk.2) (.slice A256_0 ((rd_T37 l3 x22_1).f0).length c256_0)) (fun _ hk => hk.2) (.int .i64 ((rd_T37 l3 x22_1).f1))) (fun _ h_ => h_.1))) (Kd.R_base ho0) hb); have n1_ := Aside0.mk (Kd.R_lower ho0 (zzS (by repeat (first | (with_reducible first | exact HB.out | apply zzA | apply zzN | apply zzD | refine below_set ?_ GE257.out) | exact HB.out)))); have n2_ := Aside0.mk (blk_below (g := gb257) (o := .cells #[.slice A256_0 ((rd_T37 l3 x22_1).f0).length c256_0, .int .i64 ((rd_T37 l3 x22_1).f1)] 37 (0, 0)) (by (with_reducible repeat (first | refine kkN ?_ _ | refine kkD ?_ | refine kkA ?_ _)); refine blk_put (cs := #[.slice A256_0 ((rd_T37 l3 x22_1).f0).length c256_0, .int .i64 0]) ?_ 1 _ rfl; (with_reducible repeat (first | refine kkN ?_ _ | refine kkD ?_ | refine kkA ?_ _)); refine blk_put (cs := #[.slice none 0 0, .int .i64 0]) ?_ 0 _ rfl; (with_reducible repeat (first | refine kkN ?_ _ | refine kkD ?_ | refine kkA ?_ _)); exact BK257.out) hb); have n3_ := Aside0.mk (zzT (by repeat (first | (with_reducible first | exact HB.out | apply zzA | apply zzN | apply zzD | refine below_set ?_ GE257.out) | exact HB.out)) hb); clear HO_11; clear BK257; clear HB; have HO_11 := n0_; have HO260 := n1_; have BK257 := n2_; have HB := n3_; clear n0_ n1_ n2_ n3_; (try clear hb); (try clear hb2); (try clear hk); (try clear hi); (try clear ho0); have hcz18_0 : w17.cell? ⟨gb257, 0, none⟩ = some (.slice A256_0 ((rd_T37 l3 x22_1).f0).length c256_0) := (blk_cell BK257.out 0).trans rfl; have hcz18_1 : w17.cell? ⟨gb257, 1, none⟩ = some (.int .i64 ((rd_T37 l3 x22_1).f1)) := (blk_cell BK257.out 1).trans rfl; have hfz18_0 := blk_frozen BK257.out 0; have hfz18_1 := blk_frozen BK257.out 1; obtain ⟨Ao19, co19, eo19⟩ := Kd.R_slice HO260.out; subst eo19) | ((with_reducible refine gate_callee (f := 35) rfl ?_); refine goesL_ (some 42) rfl rfl Try.func35 (by kernel_rfl) rfl #[.agg #[.slice A256_0 ((rd_T37 l3 x22_1).f0).length c256_0, .int .i64 ((rd_T37 l3 x22_1).f1)], .slice Ao19 t258.length co19, .int .i64 a2] rfl (by (try simp only [List.map_toArray, List.map_cons, List.map_nil]); first | done | rfl | (simp only [List.length_drop, List.length_take]; rfl)) ?_; (with_reducible refine (soft_bend.calls _ _ ((rd_T37 l3 x22_1).f0) ((rd_T37 l3 x22_1).f1) _ _ t258 a2 t262 t265 _ ?side1 ?side2 ?side3 ?side4 A13.out).mono ?_); (case side1 => repeat (first | exact (Kd.C_below HR256_0.out HB.out) | (with_reducible refine ccA ?_ _) | (with_reducible refine ccN ?_ _) | (with_reducible refine ccD ?_))); (case side2 => exact HC256_0.out); (case side3 => repeat (first | exact (Kd.R_reads' HO260.out).2.2 | (with_reducible refine ccA ?_ _) | (with_reducible refine ccN ?_ _) | (with_reducible refine ccD ?_))); (case side4 => exact (Kd.R_reads' HO260.out).2.1); rintro e w20 ⟨v263, rfl, ho0, hb⟩; refine ⟨_, rfl, ?_⟩; have n0_ := Aside0.mk (Kd.S_elder' (by (with_reducible repeat (first | apply Kd.S_alloc | apply Kd.S_drewN | apply Kd.S_drew)); exact HO_11.out) (Kd.R_base ho0) hb); have n1_ := Aside0.mk (Kd.R_elder' (by (with_reducible repeat (first | apply rrA | apply rrN | apply rrD)); exact HO260.out) (Kd.R_base ho0) hb); have n2_ := Aside0.mk (Kd.R_lower (Kd.R_new' ho0 (Kd.R_lt (by (with_reducible repeat (first | apply rrA | apply rrN | apply rrD)); exact HO260.out))) (zzS (by repeat (first | (with_reducible first | exact HB.out | apply zzA | apply zzN | apply zzD | refine below_set ?_ GE257.out) | exact HB.out)))); have n3_ := Aside0.mk (blk_below (g := gb257) (o := .cells #[.slice A256_0 ((rd_T37 l3 x22_1).f0).length c256_0, .int .i64 ((rd_T37 l3 x22_1).f1)] 37 (0, 0)) (by (with_reducible repeat (first | refine kkN ?_ _ | refine kkD ?_ | refine kkA ?_ _)); exact BK257.out) hb); have n4_ := Aside0.mk (zzT (by repeat (first | (with_reducible first | exact HB.out | apply zzA | apply zzN | apply zzD | refine below_set ?_ GE257.out) | exact HB.out)) hb); clear HO_11; clear HO260; clear BK257; clear HB; have HO_11 := n0_; have HO260 := n1_; have HO264 := n2_; have BK257 := n3_; have HB := n4_; clear n0_ n1_ n2_ n3_ n4_; (try clear hb); (try clear hb2); (try clear hk); (try clear hi); (try clear ho0); obtain ⟨Ao22, co22, eo22⟩ := Kd.R_slice HO264.out; subst eo22) | ((with_reducible refine gate_builtin (b := .append) (xs := #[.tmp 45, .tmp 47]) rfl ?_); at_builtin; refine Kd.S_append (Kd.slice 2 (Kd.int .i64)) (w0 := w) w.heap.size rfl (.tmp 45) (.tmp 47) 63 26 (.slice none 0 0) 24 rfl Try.underlying63 info26 rfl (by decide) (by omega) u11 x11_1 t262 [.slice Ao22 t262.length co22] (fun k_ => some k_ ≠ (.slice Ao19 t258.length co19 : Value).ownBlock) (fun k_ => some k_ = (.slice Ao22 t262.length co22 : Value).ownBlock) rfl rfl ?aP (fun k_ hk_ => ((Kd.R_mono (ok' := fun k_ => ((fun k_ => some k_ ≠ (.slice Ao19 t258.length co19 : Value).ownBlock)) k_ ∧ some k_ ≠ (u11 : Value).ownBlock) (Kd.R_apart' (HO264.out) (Kd.S_typed HO_11.out) (by decide)) (fun k_ hk => ⟨hk.1.2, hk.2⟩))).1 k_ hk_.symm) ?aF ?aO ?aB ?aS ?aL ?_; (case aP => exact Kd.M_row (Kd.R_mono (Kd.R_tight rfl (Kd.R_mono (ok' := fun k_ => ((fun k_ => some k_ ≠ (.slice Ao19 t258.length co19 : Value).ownBlock)) k_ ∧ some k_ ≠ (u11 : Value).ownBlock) (Kd.R_apart' (HO264.out) (Kd.S_typed HO_11.out) (by decide)) (fun k_ hk => ⟨hk.1.2, hk.2⟩))) (fun _ h_ => h_))); (case aB => exact (by repeat (first | (with_reducible first | exact HB.out | apply zzA | apply zzN | apply zzD | refine below_set ?_ GE257.out) | exact HB.out))); (case aF => exact (fun k_ hk => Kd.fresh' (Kd.R_lt (by (with_reducible repeat (first | apply rrA | apply rrN | apply rrD)); exact HO260.out)) k_ hk)); (case aO => exact (by (with_reducible repeat (first | apply Kd.S_alloc | apply Kd.S_drewN | apply Kd.S_drew)); exact Kd.S_mono HO_11.out (fun k_ hk => ⟨hk.1.2, fun e_ => hk.2 e_⟩))); (case aS => exact (zzS (by repeat (first | (with_reducible first | exact HB.out | apply zzA | apply zzN | apply zzD | refine below_set ?_ GE257.out) | exact HB.out)))); (case aL => have := LMc14.out; omega); intro v267 w21 ho hb hg hat; rw [← Ny266.out] at ho; have n0_ := Aside0.mk (blk_grown (g := gb257) (o := .cells #[.slice A256_0 ((rd_T37 l3 x22_1).f0).length c256_0, .int .i64 ((rd_T37 l3 x22_1).f1)] 37 (0, 0)) (by (with_reducible repeat (first | refine kkN ?_ _ | refine kkD ?_ | refine kkA ?_ _)); exact BK257.out) hg (Kd.S_ne HO_11.out BK257.out (by decide))); have n1_ := Aside0.mk (Kd.R_over' (by (with_reducible repeat (first | apply rrA | apply rrN | apply rrD)); exact HO260.out) (Kd.S_typed (by (with_reducible repeat (first | apply Kd.S_alloc | apply Kd.S_drewN | apply Kd.S_drew)); exact HO_11.out)) (by decide) hg); have n2_ := Aside0.mk (hb); have n3_ := Aside0.mk (ho); clear BK257; clear HO260; clear HB; clear HO_11; clear HO264; have BK257 := n0_; have HO260 := n1_; have HB := n2_; have HO268 := n3_; clear n0_ n1_ n2_ n3_; clear ho hb hg hat))
         go_roundg k1
         case measure => have := HK1.out; omega
         case rel => exact ⟨(t265), (y266), (wrap64 (x22_1 + 1)), (by first | rfl | (simp; done) | (simp [*]; done)), (by first | rfl | (simp; done) | (simp [*]; done)), H', ⟨by have := HK1.out; omega⟩, ⟨by (with_reducible repeat (first | apply Kd.S_alloc | apply Kd.S_drewN | apply Kd.S_drew)); exact Kd.S_mono HO268.out (fun _ hk => trivial)⟩, ⟨by repeat (first | (with_reducible first | exact HB.out | apply zzA | apply zzN | apply zzD | refine below_set ?_ GE257.out) | exact HB.out)⟩⟩
        ·
         rw [if_neg c14] at H
         exact absurd H (by simp)
       ·
        rw [if_neg c12] at H
        have c12b0 : (t261 == 0) = false := beq_eq_false_iff_ne.mpr c12
        have c12b1 : (t261 != 0) = true := bne_iff_ne.mpr c12
        by_cases c23 : x11_1.length < 5864062014805
        ·
         rw [if_pos c23] at H
         have LMc23 := Aside0.mk c23
         clear c23
         obtain ⟨y269, hy269⟩ : ∃ y_ : List (List Int), y_ = (x11_1 ++ [([] : List Int)]) := ⟨_, rfl⟩
         replace H : (soft_GradP.l0 k1 a0 l1 a2 l3 t261 y269 l3 (l3.length : Int) (wrap64 (x22_1 + 1))) = some (r1, r2) := by first | (rw [hy269]; with_reducible exact H) | (have H2_ := (Option.bind_some _ _).symm.trans H; rw [hy269]; with_reducible exact H2_) | (have H2_ := (Option.bind_some _ _).symm.trans H; with_reducible exact H2_) | with_reducible exact H | (rw [hy269]; exact H) | exact H
         have Ny269 := Aside0.mk hy269
         clear hy269
         have H' := Aside0.mk H
         clear H
         have p256 : 0 ≤ (x22_1 : Int) := of_decide_eq_true (by first | (with_reducible assumption) | assumption)
         have q256 : x22_1 < (l3.length : Int) := of_decide_eq_true (by first | (with_reducible assumption) | assumption)
         obtain ⟨ad256, A256_0, c256_0, e256, hx256_0, hx256_1, hl256_0, hi256_0⟩ := at_T37 HR3.out x22_1 p256 q256
         cases e256
         replace hx256_0 := (HB.out.cell (World.block_lt_of_cell? w _ hx256_0)).trans hx256_0
         replace hx256_1 := (HB.out.cell (World.block_lt_of_cell? w _ hx256_1)).trans hx256_1
         have HR256_0 := Aside0.mk hi256_0
         have HC256_0 := Aside0.mk hl256_0
         clear hi256_0 hl256_0
         replace p256 := eq_true p256
         replace q256 := eq_true q256
         go_wp2_with (first | ((with_reducible refine gate_dst (N := 13) rfl ?_); refine box_event ?hg (N := 13) ?hd (cs := #[.slice none 0 0, .int .i64 0]) (t := 37) ?hr ?_; (case hd => rfl); (case hg => rfl); (case hr => first | (go_simp; done) | (go_simp; rfl)); intro gb257 hg w24 hbox hb; have n0_ := Aside0.mk (Kd.S_below (by (with_reducible repeat (first | apply Kd.S_alloc | apply Kd.S_drewN | apply Kd.S_drew)); exact HO_11.out) hb); have n1_ := Aside0.mk (zzT (by repeat (first | (with_reducible first | exact HB.out | apply zzA | apply zzN | apply zzD) | exact HB.out)) hb); have n2_ := Aside0.mk (hbox); have n3_ := Aside0.mk ((by rw [hg]; exact (zzS (by repeat (first | (with_reducible first | exact HB.out | apply zzA | apply zzN | apply zzD) | exact HB.out))) : w.heap.size ≤ gb257)); have n4_ := Aside0.mk ((by rw [hg]; exact (zzS (by repeat (first | (with_reducible first | exact HB.out | apply zzA | apply zzN | apply zzD) | exact HB.out))) : w.heap.size ≤ gb257)); clear HO_11; clear HB; have HO_11 := n0_; have HB := n1_; have BK257 := n2_; have GW257 := n3_; have GE257 := n4_; clear n0_ n1_ n2_ n3_ n4_; clear hb hbox hg; have hcz25_0 : w24.cell? ⟨gb257, 0, none⟩ = some (.slice none 0 0) := (blk_cell BK257.out 0).trans rfl; have hcz25_1 : w24.cell? ⟨gb257, 1, none⟩ = some (.int .i64 0) := (blk_cell BK257.out 1).trans rfl; have hfz25_0 := blk_frozen BK257.out 0; have hfz25_1 := blk_frozen BK257.out 1) | ((with_reducible refine gate_callee (f := 34) rfl ?_); refine goesL_ (some 33) rfl rfl Try.func34 (by kernel_rfl) rfl #[.int .i64 a0, .slice A1 l1.length c1, .agg #[.slice A256_0 ((rd_T37 l3 x22_1).f0).length c256_0, .int .i64 ((rd_T37 l3 x22_1).f1)], .int .i64 a2] rfl (by (try simp only [List.map_toArray, List.map_cons, List.map_nil]); first | done | rfl | (simp only [List.length_drop, List.length_take]; rfl)) ?_; (with_reducible refine (soft_Off.calls a0 _ _ l1 _ _ ((rd_T37 l3 x22_1).f0) ((rd_T37 l3 x22_1).f1) a2 t258 t261 _ ?side1 ?side2 ?side3 ?side4 A11.out).mono ?_); (case side1 => exact Kd.C_below HR1.out (by repeat (first | (with_reducible first | exact HB.out | apply zzA | apply zzN | apply zzD | refine below_set ?_ GE257.out) | exact HB.out))); (case side2 => exact HC1.out); (case side3 => exact Kd.C_below HR256_0.out (by repeat (first | (with_reducible first | exact HB.out | apply zzA | apply zzN | apply zzD | refine below_set ?_ GE257.out) | exact HB.out))); (case side4 => exact HC256_0.out); rintro e w26 ⟨v259, rfl, ho0, hb⟩; refine ⟨_, rfl, ?_⟩; have n0_ := Aside0.mk (Kd.S_elder' (by (with_reducible repeat (first | apply Kd.S_alloc | apply Kd.S_drewN | apply Kd.S_drew)); exact (Kd.S_mono (Kd.S_far (p := ⟨gb257, 1, none⟩) (Kd.S_far (p := ⟨gb257, 0, none⟩) (Kd.S_types HO_11.out BK257.out (by decide)) (fun _ hk => hk.2) (.slice A256_0 ((rd_T37 l3 x22_1).f0).length c256_0)) (fun _ hk => hk.2) (.int .i64 ((rd_T37 l3 x22_1).f1))) (fun _ h_ => h_.1))) (Kd.R_base ho0) hb); have n1_ := Aside0.mk (Kd.R_lower ho0 (zzS (by repeat (first | (with_reducible first | exact HB.out | apply zzA | apply zzN | apply zzD | refine below_set ?_ GE257.out) | exact HB.out)))); have n2_ := Aside0.mk (blk_below (g := gb257) (o := .cells #[.slice A256_0 ((rd_T37 l3 x22_1).f0).length c256_0, .int .i64 ((rd_T37 l3 x22_1).f1)] 37 (0, 0)) (by (with_reducible repeat (first | refine kkN ?_ _ | refine kkD ?_ | refine kkA ?_ _)); refine blk_put (cs := #[.slice A256_0 ((rd_T37 l3 x22_1).f0).length c256_0, .int .i64 0]) ?_ 1 _ rfl; (with_reducible repeat (first | refine kkN ?_ _ | refine kkD ?_ | refine kkA ?_ _)); refine blk_put (cs := #[.slice none 0 0, .int .i64 0]) ?_ 0 _ rfl; (with_reducible repeat (first | refine kkN ?_ _ | refine kkD ?_ | refine kkA ?_ _)); exact BK257.out) hb); have n3_ := Aside0.mk (zzT (by repeat (first | (with_reducible first | exact HB.out | apply zzA | apply zzN | apply zzD | refine below_set ?_ GE257.out) | exact HB.out)) hb); clear HO_11; clear BK257; clear HB; have HO_11 := n0_; have HO260 := n1_; have BK257 := n2_; have HB := n3_; clear n0_ n1_ n2_ n3_; (try clear hb); (try clear hb2); (try clear hk); (try clear hi); (try clear ho0)) | ((with_reducible refine gate_builtin (b := .append) (xs := #[.tmp 45, .tmp 47]) rfl ?_); at_builtin; refine Kd.S_append (Kd.slice 2 (Kd.int .i64)) (w0 := w) w.heap.size rfl (.tmp 45) (.tmp 47) 63 26 (.slice none 0 0) 24 rfl Try.underlying63 info26 rfl (by decide) (by omega) u11 x11_1 ([] : List Int) [.slice none 0 0] (fun k_ => some k_ ≠ (v259 : Value).ownBlock) (fun _ => False) rfl rfl ?aP (fun k_ hk_ => hk_.elim) ?aF ?aO ?aB ?aS ?aL ?_; (case aP => exact Kd.M_row (Kd.R_nil _ _ _ _ _)); (case aB => exact (by repeat (first | (with_reducible first | exact HB.out | apply zzA | apply zzN | apply zzD | refine below_set ?_ GE257.out) | exact HB.out))); (case aF => exact (fun k_ hk => Kd.fresh' (Kd.R_lt (by (with_reducible repeat (first | apply rrA | apply rrN | apply rrD)); exact HO260.out)) k_ hk)); (case aO => exact (by (with_reducible repeat (first | apply Kd.S_alloc | apply Kd.S_drewN | apply Kd.S_drew)); exact Kd.S_mono HO_11.out (fun k_ hk => ⟨hk.2, fun e_ => e_⟩))); (case aS => exact (zzS (by repeat (first | (with_reducible first | exact HB.out | apply zzA | apply zzN | apply zzD | refine below_set ?_ GE257.out) | exact HB.out)))); (case aL => have := LMc23.out; omega); intro v270 w27 ho hb hg hat; rw [← Ny269.out] at ho; have n0_ := Aside0.mk (blk_grown (g := gb257) (o := .cells #[.slice A256_0 ((rd_T37 l3 x22_1).f0).length c256_0, .int .i64 ((rd_T37 l3 x22_1).f1)] 37 (0, 0)) (by (with_reducible repeat (first | refine kkN ?_ _ | refine kkD ?_ | refine kkA ?_ _)); exact BK257.out) hg (Kd.S_ne HO_11.out BK257.out (by decide))); have n1_ := Aside0.mk (Kd.R_over' (by (with_reducible repeat (first | apply rrA | apply rrN | apply rrD)); exact HO260.out) (Kd.S_typed (by (with_reducible repeat (first | apply Kd.S_alloc | apply Kd.S_drewN | apply Kd.S_drew)); exact HO_11.out)) (by decide) hg); have n2_ := Aside0.mk (hb); have n3_ := Aside0.mk (ho); clear BK257; clear HO260; clear HB; clear HO_11; have BK257 := n0_; have HO260 := n1_; have HB := n2_; have HO271 := n3_; clear n0_ n1_ n2_ n3_; clear ho hb hg hat))
         go_roundg k1
         case measure => have := HK1.out; omega
         case rel => exact ⟨(t261), (y269), (wrap64 (x22_1 + 1)), (by first | rfl | (simp; done) | (simp [*]; done)), (by first | rfl | (simp; done) | (simp [*]; done)), H', ⟨by have := HK1.out; omega⟩, ⟨by (with_reducible repeat (first | apply Kd.S_alloc | apply Kd.S_drewN | apply Kd.S_drew)); exact Kd.S_mono HO271.out (fun _ hk => trivial)⟩, ⟨by repeat (first | (with_reducible first | exact HB.out | apply zzA | apply zzN | apply zzD | refine below_set ?_ GE257.out) | exact HB.out)⟩⟩
        ·
         rw [if_neg c23] at H
         exact absurd H (by simp)
      ·
       rw [if_neg c10] at H
       have c10b0 : (x10_1 == 0) = false := beq_eq_false_iff_ne.mpr c10
       have c10b1 : (x10_1 != 0) = true := bne_iff_ne.mpr c10
       by_cases c28 : x11_1.length < 5864062014805
       ·
        rw [if_pos c28] at H
        have LMc28 := Aside0.mk c28
        clear c28
        obtain ⟨y272, hy272⟩ : ∃ y_ : List (List Int), y_ = (x11_1 ++ [([] : List Int)]) := ⟨_, rfl⟩
        replace H : (soft_GradP.l0 k1 a0 l1 a2 l3 x10_1 y272 l3 (l3.length : Int) (wrap64 (x22_1 + 1))) = some (r1, r2) := by first | (rw [hy272]; with_reducible exact H) | (have H2_ := (Option.bind_some _ _).symm.trans H; rw [hy272]; with_reducible exact H2_) | (have H2_ := (Option.bind_some _ _).symm.trans H; with_reducible exact H2_) | with_reducible exact H | (rw [hy272]; exact H) | exact H
        have Ny272 := Aside0.mk hy272
        clear hy272
        have H' := Aside0.mk H
        clear H
        have p256 : 0 ≤ (x22_1 : Int) := of_decide_eq_true (by first | (with_reducible assumption) | assumption)
        have q256 : x22_1 < (l3.length : Int) := of_decide_eq_true (by first | (with_reducible assumption) | assumption)
        obtain ⟨ad256, A256_0, c256_0, e256, hx256_0, hx256_1, hl256_0, hi256_0⟩ := at_T37 HR3.out x22_1 p256 q256
        cases e256
        replace hx256_0 := (HB.out.cell (World.block_lt_of_cell? w _ hx256_0)).trans hx256_0
        replace hx256_1 := (HB.out.cell (World.block_lt_of_cell? w _ hx256_1)).trans hx256_1
        have HR256_0 := Aside0.mk hi256_0
        have HC256_0 := Aside0.mk hl256_0
        clear hi256_0 hl256_0
        replace p256 := eq_true p256
        replace q256 := eq_true q256
        go_wp2_with (first | ((with_reducible refine gate_dst (N := 13) rfl ?_); refine box_event ?hg (N := 13) ?hd (cs := #[.slice none 0 0, .int .i64 0]) (t := 37) ?hr ?_; (case hd => rfl); (case hg => rfl); (case hr => first | (go_simp; done) | (go_simp; rfl)); intro gb257 hg w29 hbox hb; have n0_ := Aside0.mk (Kd.S_below (by (with_reducible repeat (first | apply Kd.S_alloc | apply Kd.S_drewN | apply Kd.S_drew)); exact HO_11.out) hb); have n1_ := Aside0.mk (zzT (by repeat (first | (with_reducible first | exact HB.out | apply zzA | apply zzN | apply zzD) | exact HB.out)) hb); have n2_ := Aside0.mk (hbox); have n3_ := Aside0.mk ((by rw [hg]; exact (zzS (by repeat (first | (with_reducible first | exact HB.out | apply zzA | apply zzN | apply zzD) | exact HB.out))) : w.heap.size ≤ gb257)); have n4_ := Aside0.mk ((by rw [hg]; exact (zzS (by repeat (first | (with_reducible first | exact HB.out | apply zzA | apply zzN | apply zzD) | exact HB.out))) : w.heap.size ≤ gb257)); clear HO_11; clear HB; have HO_11 := n0_; have HB := n1_; have BK257 := n2_; have GW257 := n3_; have GE257 := n4_; clear n0_ n1_ n2_ n3_ n4_; clear hb hbox hg; have hcz30_0 : w29.cell? ⟨gb257, 0, none⟩ = some (.slice none 0 0) := (blk_cell BK257.out 0).trans rfl; have hcz30_1 : w29.cell? ⟨gb257, 1, none⟩ = some (.int .i64 0) := (blk_cell BK257.out 1).trans rfl; have hfz30_0 := blk_frozen BK257.out 0; have hfz30_1 := blk_frozen BK257.out 1) | ((with_reducible refine gate_builtin (b := .append) (xs := #[.tmp 45, .tmp 47]) rfl ?_); at_builtin; refine Kd.S_append (Kd.slice 2 (Kd.int .i64)) (w0 := w) w.heap.size rfl (.tmp 45) (.tmp 47) 63 26 (.slice none 0 0) 24 rfl Try.underlying63 info26 rfl (by decide) (by omega) u11 x11_1 ([] : List Int) [.slice none 0 0] (fun _ => True) (fun _ => False) rfl (by first | (go_simp; done) | (go_simp; rfl)) ?aP (fun k_ hk_ => hk_.elim) ?aF ?aO ?aB ?aS ?aL ?_; (case aP => exact Kd.M_row (Kd.R_nil _ _ _ _ _)); (case aB => exact (by repeat (first | (with_reducible first | exact HB.out | apply zzA | apply zzN | apply zzD | refine below_set ?_ GE257.out) | exact HB.out))); (case aF => exact (fun _ _ => trivial)); (case aO => exact (by (with_reducible repeat (first | apply Kd.S_alloc | apply Kd.S_drewN | apply Kd.S_drew)); exact Kd.S_mono (Kd.S_far (p := ⟨gb257, 1, none⟩) (Kd.S_far (p := ⟨gb257, 0, none⟩) (Kd.S_types HO_11.out BK257.out (by decide)) (fun _ hk => hk.2) (.slice A256_0 ((rd_T37 l3 x22_1).f0).length c256_0)) (fun _ hk => hk.2) (.int .i64 ((rd_T37 l3 x22_1).f1))) (fun k_ hk => ⟨trivial, fun e_ => e_⟩))); (case aS => exact (zzS (by repeat (first | (with_reducible first | exact HB.out | apply zzA | apply zzN | apply zzD | refine below_set ?_ GE257.out) | exact HB.out)))); (case aL => have := LMc28.out; omega); intro v273 w31 ho hb hg hat; rw [← Ny272.out] at ho; have n0_ := Aside0.mk (blk_grown (g := gb257) (o := .cells #[.slice A256_0 ((rd_T37 l3 x22_1).f0).length c256_0, .int .i64 ((rd_T37 l3 x22_1).f1)] 37 (0, 0)) (by (with_reducible repeat (first | refine kkN ?_ _ | refine kkD ?_ | refine kkA ?_ _)); refine blk_put (cs := #[.slice A256_0 ((rd_T37 l3 x22_1).f0).length c256_0, .int .i64 0]) ?_ 1 _ rfl; (with_reducible repeat (first | refine kkN ?_ _ | refine kkD ?_ | refine kkA ?_ _)); refine blk_put (cs := #[.slice none 0 0, .int .i64 0]) ?_ 0 _ rfl; (with_reducible repeat (first | refine kkN ?_ _ | refine kkD ?_ | refine kkA ?_ _)); exact BK257.out) hg (Kd.S_ne HO_11.out BK257.out (by decide))); have n1_ := Aside0.mk (hb); have n2_ := Aside0.mk (ho); clear BK257; clear HB; clear HO_11; have BK257 := n0_; have HB := n1_; have HO274 := n2_; clear n0_ n1_ n2_; clear ho hb hg hat))
        go_roundg k1
        case measure => have := HK1.out; omega
        case rel => exact ⟨(x10_1), (y272), (wrap64 (x22_1 + 1)), (by first | rfl | (simp; done) | (simp [*]; done)), (by first | rfl | (simp; done) | (simp [*]; done)), H', ⟨by have := HK1.out; omega⟩, ⟨by (with_reducible repeat (first | apply Kd.S_alloc | apply Kd.S_drewN | apply Kd.S_drew)); exact HO274.out⟩, ⟨by repeat (first | (with_reducible first | exact HB.out | apply zzA | apply zzN | apply zzD | refine below_set ?_ GE257.out) | exact HB.out)⟩⟩
       ·
        rw [if_neg c28] at H
        exact absurd H (by simp)
     ·
      rw [if_neg c9] at H
      exact absurd H (by simp)
    ·
     rw [if_neg c8] at H
     exact absurd H (by simp)
   ·
    rw [if_neg c7] at H
    have c7b0 : decide (x22_1 < (l3.length : Int)) = false := decide_eq_false c7
    clear c7
    by_cases c32 : x10_1 = 0
    ·
     rw [if_pos c32] at H
     have c32b0 : (x10_1 == 0) = true := beq_iff_eq.mpr c32
     have c32b1 : (x10_1 != 0) = false := bne_eq_false_iff_eq.mpr c32
     clear c32
     replace H := Option.bind_eq_some_iff.mp H
     obtain ⟨⟨t252, t253⟩, A330, H⟩ := H
     replace H : (some (t252, t253)) = some (r1, r2) := H
     have A33 := Aside0.mk A330
     clear A330
     simp only [Option.some.injEq, Prod.mk.injEq] at H
     obtain ⟨rfl, rfl⟩ := H
     obtain ⟨Ao34, co34, eo34⟩ := Kd.S_slice HO_11.out
     subst eo34
     go_wp2_with (first | ((with_reducible refine gate_callee (f := 32) rfl ?_); refine goesL_ (some 56) rfl rfl Try.func32 (by kernel_rfl) rfl #[.int .i64 (l3.length : Int), .slice Ao34 x11_1.length co34] rfl (by (try simp only [List.map_toArray, List.map_cons, List.map_nil]); first | done | rfl | (simp only [List.length_drop, List.length_take]; rfl)) ?_; (with_reducible refine (linear_Mean.calls (l3.length : Int) _ _ x11_1 t252 t253 _ ?side1 ?side2 A33.out).mono ?_); (case side1 => repeat (first | exact (Kd.S_reads' HO_11.out).2.2 | (with_reducible refine ccA ?_ _) | (with_reducible refine ccN ?_ _) | (with_reducible refine ccD ?_))); (case side2 => exact (Kd.S_reads' HO_11.out).2.1); rintro e w35 ⟨v254, rfl, ho0, hb⟩; refine ⟨_, rfl, ?_⟩; have n0_ := Aside0.mk (Kd.S_elder' (by (with_reducible repeat (first | apply Kd.S_alloc | apply Kd.S_drewN | apply Kd.S_drew)); exact HO_11.out) (Kd.R_base ho0) hb); have n1_ := Aside0.mk (Kd.R_lower ho0 (zzS (by repeat (first | (with_reducible first | exact HB.out | apply zzA | apply zzN | apply zzD) | exact HB.out)))); have n2_ := Aside0.mk (zzT (by repeat (first | (with_reducible first | exact HB.out | apply zzA | apply zzN | apply zzD) | exact HB.out)) hb); clear HO_11; clear HB; have HO_11 := n0_; have HO255 := n1_; have HB := n2_; clear n0_ n1_ n2_; (try clear hb); (try clear hb2); (try clear hk); (try clear hi); (try clear ho0)))
     go_ret2
     exact ⟨_, by first | rfl | (simp [errW_none, errW_some] <;> rfl) | (simp [*, errW_none, errW_some] <;> rfl), by (with_reducible repeat (first | apply rrA | apply rrN | apply rrD)); exact HO255.out, by repeat (first | (with_reducible first | exact HB.out | apply zzA | apply zzN | apply zzD) | exact HB.out)⟩
    ·
     rw [if_neg c32] at H
     have c32b0 : (x10_1 == 0) = false := beq_eq_false_iff_ne.mpr c32
     have c32b1 : (x10_1 != 0) = true := bne_iff_ne.mpr c32
     simp only [Option.some.injEq, Prod.mk.injEq] at H
     obtain ⟨rfl, rfl⟩ := H
     go_wp2
     go_ret2
     exact ⟨_, by first | rfl | (simp [errW_none, errW_some] <;> rfl) | (simp [*, errW_none, errW_some] <;> rfl), by first | exact Kd.R_nil _ _ _ _ _ | exact Kd.N_nil _ _ _ _ _ | exact Kd.V_nil _ _ _ _ _ | exact Kd.Q_nil _ _ _ _ _ | exact Kd.S_nil _ _ _ _ _, by repeat (first | (with_reducible first | exact HB.out | apply zzA | apply zzN | apply zzD) | exact HB.out)⟩

def soft_Grad.f (a0 : Int) (l1 : List Int) (a2 : Int) (l3 : List S37) : Option (List Int × Int) := if V64 l1 ∧ (∀ s ∈ l3, Sm64 s) ∧ l3.length ≤ 1000000 then some (gradS a0 l1 a2 (l3.map sm)) else none
theorem soft_Grad.of (a0 : Int) (l1 : List Int) (a2 : Int) (l3 : List S37)  (h_ : V64 l1 ∧ (∀ s ∈ l3, Sm64 s) ∧ l3.length ≤ 1000000) : soft_Grad.f a0 l1 a2 l3 = some (gradS a0 l1 a2 (l3.map sm)) := if_pos h_
theorem soft_GradP.bad (o : Int) (w : List Int) (f : Int) (l : List S37) (e : Int) (he : e ≠ 0) (hb : l.length ≤ 1000000) : ∀ (d i : Nat) (acc : List (List Int)), d + i = l.length → acc.length ≤ i →
    soft_GradP.l0 (d + 1) o w f l e acc l (l.length : Int) (i : Int) = some ([], e) := by
  intro d
  induction d with
  | zero => intro i acc hd ha; rw [soft_GradP.l0, if_neg (by omega), if_neg he]
  | succ d ih =>
    intro i acc hd ha
    rw [soft_GradP.l0, if_pos (by omega), if_pos (by omega), if_pos (by omega), if_neg he, if_pos (by omega), wrap64_of (by unfold I64; omega), show (i : Int) + 1 = ((i + 1 : Nat) : Int) by omega, ih (i + 1) _ (by omega) (by rw [List.length_append, List.length_singleton]; omega)]
theorem soft_GradP.good (o : Int) (w : List Int) (f : Int) (l : List S37) (hw : V64 w) (hs : ∀ s ∈ l, Sm64 s) (hx : ∀ s ∈ l, s.f0.length ≤ 16) (hb : l.length ≤ 64) : ∀ (d i : Nat) (acc : List (List Int)), d + i = l.length → acc.length ≤ i → (∀ v ∈ acc, V64 v ∧ v.length ≤ 136) →
    soft_GradP.l0 (d + 1) o w f l 0 acc l (l.length : Int) (i : Int) = some (if (rowsFrom (fun s : S37 => bendS o w f (sm s)) (l.drop i) acc).2 = 0 then meanL l.length (rowsFrom (fun s : S37 => bendS o w f (sm s)) (l.drop i) acc).1 else ([], (rowsFrom (fun s : S37 => bendS o w f (sm s)) (l.drop i) acc).2)) := by
  intro d
  induction d with
  | zero =>
    intro i acc hd ha hv
    rw [soft_GradP.l0, if_neg (by omega), if_pos rfl, List.drop_eq_nil_of_le (by omega), rowsFrom_nil, linear_Mean.of _ _ ⟨by unfold I64; omega, fun v h => (hv v h).1, List.all_eq_true.2 fun v h => decide_eq_true (by have := (hv v h).2; omega)⟩]
    rfl
  | succ d ih =>
    intro i acc hd ha hv
    have hi : i < l.length := by omega
    have hm := List.getElem_mem hi
    have h1 := hs _ hm
    have hbd : bendS o w f (sm l[i]) = if (offS o w l[i].f0 l[i].f1 f).2 = 0 then bendRows l[i].f0 f (offS o w l[i].f0 l[i].f1 f).1 else ([], (offS o w l[i].f0 l[i].f1 f).2) := rfl
    have hbg := bendS_good o w f (sm l[i])
    have hxl : (sm l[i]).1.length ≤ 16 := hx _ hm
    rw [soft_GradP.l0, if_pos (by omega), if_pos (by omega), if_pos (by omega), if_pos rfl, rd_sm hi, soft_Off.of _ _ _ _ _ ⟨hw, h1.1⟩, Option.bind_some, List.drop_eq_getElem_cons hi]
    by_cases c : (offS o w l[i].f0 l[i].f1 f).2 = 0
    · rw [if_pos c] at hbd
      obtain ⟨hl, h2, h8, hov⟩ := offS_good c
      rw [if_pos c, soft_bend.of _ _ _ _ ⟨h1.1, hov, by omega⟩, Option.bind_some, if_pos (by omega), wrap64_of (by unfold I64; omega), show (i : Int) + 1 = ((i + 1 : Nat) : Int) by omega]
      by_cases c2 : (bendRows l[i].f0 f (offS o w l[i].f0 l[i].f1 f).1).2 = 0
      · rw [c2, rowsFrom_ok (g := fun s : S37 => bendS o w f (sm s)) (by simp only [hbd]; exact c2)]
        simp only [hbd]
        rw [hbd] at hbg
        refine ih (i + 1) _ (by omega) (by rw [List.length_append, List.length_singleton]; omega) ?_
        intro v hv'
        rcases List.mem_append.1 hv' with e | e
        · exact hv v e
        · rw [List.mem_singleton.1 e]; exact ⟨hbg.1, by have := hbg.2; omega⟩
      · rw [soft_GradP.bad o w f l _ c2 (by omega) d (i + 1) _ (by omega) (by rw [List.length_append, List.length_singleton]; omega), rowsFrom_bad (g := fun s : S37 => bendS o w f (sm s)) (by simp only [hbd]; exact c2)]
        simp only [hbd, if_neg c2]
    · rw [if_neg c] at hbd
      rw [if_neg c, if_pos (by omega), wrap64_of (by unfold I64; omega), show (i : Int) + 1 = ((i + 1 : Nat) : Int) by omega, soft_GradP.bad o w f l _ c (by omega) d (i + 1) _ (by omega) (by rw [List.length_append, List.length_singleton]; omega), rowsFrom_bad (g := fun s : S37 => bendS o w f (sm s)) (by simp only [hbd]; exact c)]
      simp only [hbd, if_neg c]
theorem rowsL_smS (o : Int) (w : List Int) (f : Int) : ∀ l : List S37, rowsL (bendS o w f) (l.map sm) = rowsL (fun s => bendS o w f (sm s)) l
  | [] => rfl
  | x :: l => by simp only [List.map_cons, rowsL, rowsL_smS o w f l]
theorem soft_GradP.is (o : Int) (w : List Int) (f : Int) (l : List S37) (hw : V64 w) (hs : ∀ s ∈ l, Sm64 s) (hb : l.length ≤ 1000000) : soft_GradP.f (l.length + 1) o w f l = some (gradS o w f (l.map sm)) := by
  unfold soft_GradP.f gradS soft_fits.f
  rw [Option.bind_some]
  by_cases c : fitS o w (l.map sm) = 0
  · obtain ⟨h1, h2⟩ := fitS_ok c
    rw [List.length_map] at h1
    have hk := soft_GradP.good o w f l hw hs (fun s h => h2 (sm s) (List.mem_map_of_mem h)) h1 l.length 0 [] (by omega) (by simp) (fun v hv => by cases hv)
    rw [List.drop_zero, rowsFrom_start, show ((0 : Nat) : Int) = 0 from rfl] at hk
    rw [c, if_pos rfl, List.length_map, rowsL_smS]
    exact hk
  · have hk := soft_GradP.bad o w f l _ c hb l.length 0 [] (by omega) (by simp)
    rw [show ((0 : Nat) : Int) = 0 from rfl] at hk
    rw [if_neg c, hk]
theorem soft_Grad.calls (a0 : Int) (A1 : Option Addr) (c1 : Nat) (l1 : List Int) (a2 : Int) (A3 : Option Addr) (c3 : Nat) (l3 : List (S37)) (r1 : List Int) (r2 : Int) (w : World) (hr1 : Kd.C (Kd.int .i64) w A1 l1.length l1) (hc1 : l1.length ≤ c1) (hr3 : Kd.C k37 w A3 l3.length l3) (hc3 : l3.length ≤ c3) (h : soft_Grad.f a0 l1 a2 l3 = some (r1, r2)) :
    Calls Try.prog 17 #[.int .i64 a0, .slice A1 l1.length c1, .int .i64 a2, .slice A3 l3.length c3] w fun e w' => ∃ v0_ : Value, e = .returned (.tuple #[v0_, .int .i64 r2]) ∧ Kd.R (Kd.int .i64) 2 w' w.heap.size (fun _ => True) v0_ r1 ∧ Below w.heap.size w w' := by
  unfold soft_Grad.f at h
  split at h
  case isFalse => cases h
  rename_i hv
  exact soft_GradP.calls (l3.length + 1) a0 A1 c1 l1 a2 A3 c3 l3 r1 r2 w hr1 hc1 hr3 hc3 ((soft_GradP.is a0 l1 a2 l3 hv.1 hv.2.1 hv.2.2).trans h)


/-! ### model_classes_grad: function 123 -/
def model_classes_grad.f (a0_0 : Int) (a0_1 : Int) (a0_2 : Int) (a0_3 : Int) (a0_4 : Int) (l1 : List Int) (l2 : List (S37)) : Option (List Int × Int) := (soft_Grad.f a0_2 l1 a0_4 l2).bind fun bt276 => (some (bt276.1, bt276.2))
set_option maxHeartbeats 8000000 in
set_option maxRecDepth 100000 in
theorem model_classes_grad.calls (a0_0 : Int) (a0_1 : Int) (a0_2 : Int) (a0_3 : Int) (a0_4 : Int) (A1 : Option Addr) (c1 : Nat) (l1 : List Int) (A2 : Option Addr) (c2 : Nat) (l2 : List (S37)) (r1 : List Int) (r2 : Int) (w : World) (hr1 : Kd.C (Kd.int .i64) w A1 l1.length l1) (hc1 : l1.length ≤ c1) (hr2 : Kd.C k37 w A2 l2.length l2) (hc2 : l2.length ≤ c2) (h : model_classes_grad.f a0_0 a0_1 a0_2 a0_3 a0_4 l1 l2 = some (r1, r2)) :
  Calls Try.prog 123 #[.agg #[.int .i64 a0_0, .int .i64 a0_1, .int .i64 a0_2, .int .i64 a0_3, .int .i64 a0_4], .slice A1 l1.length c1, .slice A2 l2.length c2] w fun e w' => ∃ v0_ : Value, e = .returned (.tuple #[v0_, .int .i64 r2]) ∧ Kd.R (Kd.int .i64) 2 w' w.heap.size (fun _ => True) v0_ r1 ∧ Below w.heap.size w w' := by
 have hu87 := Try.underlying87
 have HR1 := Aside0.mk hr1
 have HC1 := Aside0.mk hc1
 clear hr1 hc1
 have HR2 := Aside0.mk hr2
 have HC2 := Aside0.mk hc2
 clear hr2 hc2
 have HB := Aside0.mk (Below.refl w.heap.size w)
 have H : ((soft_Grad.f a0_2 l1 a0_4 l2).bind fun bt276 => (some (bt276.1, bt276.2))) = some (r1, r2) := h
 clear h
 replace H := Option.bind_eq_some_iff.mp H
 obtain ⟨⟨t276, t277⟩, A40, H⟩ := H
 replace H : (some (t276, t277)) = some (r1, r2) := H
 have A4 := Aside0.mk A40
 clear A40
 simp only [Option.some.injEq, Prod.mk.injEq] at H
 obtain ⟨rfl, rfl⟩ := H
 go_enter Try.func123, Try.ntmps123
 go_wp2_with (first | ((with_reducible refine gate_dst (N := 3) rfl ?_); refine box_event ?hg (N := 3) ?hd (cs := #[.int .i64 a0_0, .int .i64 a0_1, .int .i64 a0_2, .int .i64 a0_3, .int .i64 a0_4]) (t := 87) ?hr ?_; (case hd => rfl); (case hg => rfl); (case hr => first | (go_simp; done) | (go_simp; rfl)); intro gb275 hg w5 hbox hb; have n0_ := Aside0.mk (zzT (by repeat (first | (with_reducible first | exact HB.out | apply zzA | apply zzN | apply zzD) | exact HB.out)) hb); have n1_ := Aside0.mk (hbox); have n2_ := Aside0.mk ((by rw [hg]; exact (zzS (by repeat (first | (with_reducible first | exact HB.out | apply zzA | apply zzN | apply zzD) | exact HB.out))) : w.heap.size ≤ gb275)); have n3_ := Aside0.mk ((by rw [hg]; exact (zzS (by repeat (first | (with_reducible first | exact HB.out | apply zzA | apply zzN | apply zzD) | exact HB.out))) : w.heap.size ≤ gb275)); clear HB; have HB := n0_; have BK275 := n1_; have GW275 := n2_; have GE275 := n3_; clear n0_ n1_ n2_ n3_; clear hb hbox hg; have hcz6_0 : w5.cell? ⟨gb275, 0, none⟩ = some (.int .i64 a0_0) := (blk_cell BK275.out 0).trans rfl; have hcz6_1 : w5.cell? ⟨gb275, 1, none⟩ = some (.int .i64 a0_1) := (blk_cell BK275.out 1).trans rfl; have hcz6_2 : w5.cell? ⟨gb275, 2, none⟩ = some (.int .i64 a0_2) := (blk_cell BK275.out 2).trans rfl; have hcz6_3 : w5.cell? ⟨gb275, 3, none⟩ = some (.int .i64 a0_3) := (blk_cell BK275.out 3).trans rfl; have hcz6_4 : w5.cell? ⟨gb275, 4, none⟩ = some (.int .i64 a0_4) := (blk_cell BK275.out 4).trans rfl; have hfz6_0 := blk_frozen BK275.out 0; have hfz6_1 := blk_frozen BK275.out 1; have hfz6_2 := blk_frozen BK275.out 2; have hfz6_3 := blk_frozen BK275.out 3; have hfz6_4 := blk_frozen BK275.out 4) | ((with_reducible refine gate_callee (f := 17) rfl ?_); refine goesL_ (some 16) rfl rfl Try.func17 (by kernel_rfl) rfl #[.int .i64 a0_2, .slice A1 l1.length c1, .int .i64 a0_4, .slice A2 l2.length c2] rfl (by (try simp only [List.map_toArray, List.map_cons, List.map_nil]); first | done | rfl | (simp only [List.length_drop, List.length_take]; rfl)) ?_; (with_reducible refine (soft_Grad.calls a0_2 _ _ l1 a0_4 _ _ l2 t276 t277 _ ?side1 ?side2 ?side3 ?side4 A4.out).mono ?_); (case side1 => repeat (first | exact (Kd.C_below HR1.out HB.out) | (with_reducible refine ccA ?_ _) | (with_reducible refine ccN ?_ _) | (with_reducible refine ccD ?_))); (case side2 => exact HC1.out); (case side3 => repeat (first | exact (Kd.C_below HR2.out HB.out) | (with_reducible refine ccA ?_ _) | (with_reducible refine ccN ?_ _) | (with_reducible refine ccD ?_))); (case side4 => exact HC2.out); rintro e w7 ⟨v278, rfl, ho0, hb⟩; refine ⟨_, rfl, ?_⟩; have n0_ := Aside0.mk (Kd.R_lower ho0 (zzS (by repeat (first | (with_reducible first | exact HB.out | apply zzA | apply zzN | apply zzD | refine below_set ?_ GE275.out) | exact HB.out)))); have n1_ := Aside0.mk (blk_below (g := gb275) (o := .cells #[.int .i64 a0_0, .int .i64 a0_1, .int .i64 a0_2, .int .i64 a0_3, .int .i64 a0_4] 87 (0, 0)) (by (with_reducible repeat (first | refine kkN ?_ _ | refine kkD ?_ | refine kkA ?_ _)); exact BK275.out) hb); have n2_ := Aside0.mk (zzT (by repeat (first | (with_reducible first | exact HB.out | apply zzA | apply zzN | apply zzD | refine below_set ?_ GE275.out) | exact HB.out)) hb); clear BK275; clear HB; have HO279 := n0_; have BK275 := n1_; have HB := n2_; clear n0_ n1_ n2_; (try clear hb); (try clear hb2); (try clear hk); (try clear hi); (try clear ho0)))
 go_ret2
 exact ⟨_, by first | rfl | (simp [errW_none, errW_some] <;> rfl) | (simp [*, errW_none, errW_some] <;> rfl), by (with_reducible repeat (first | apply rrA | apply rrN | apply rrD)); exact HO279.out, by repeat (first | (with_reducible first | exact HB.out | apply zzA | apply zzN | apply zzD | refine below_set ?_ GE275.out) | exact HB.out)⟩

-- NOT PRINTED: function 66 (mlp_Check_1)

/-! ### mlp_Check: function 39 -/
set_option maxHeartbeats 4000000 in
set_option maxRecDepth 100000 in
theorem mlp_Check_1.calls (b1 : Nat) (A : Option Addr) (c : Nat) (x : List Int) (y n : Int) (W : World) (hb : W.heap[b1]? = some (.cells #[.int .i64 n] 3 (0, 0))) :
    Calls Try.prog 66 (#[.agg #[.slice A x.length c, .int .i64 y]] ++ #[.pointer (some ⟨b1, 0, none⟩)]) W fun ed W' => ed = .returned (.bool ((x.length : Int) != n)) ∧ Below W.heap.size W W' := by
  have hu := Try.underlying37
  have hlt := blk_lt hb
  have hc : W.cell? ⟨b1, 0, none⟩ = some (.int .i64 n) := (blk_cell hb 0).trans rfl
  go_enter Try.func66, Try.ntmps66
  go_wp2
  go_ret
  exact ⟨rfl, zzA (Below.refl _ _) _⟩
def mlp_Check.f (a0 a1 : Int) (l2 : List Int) (l3 : List S37) : Option Int := some (checkM a0 a1 l2 (l3.map sm))
theorem checkM_any (a0 a1 : Int) (l2 : List Int) (l3 : List S37) : checkM a0 a1 l2 (l3.map sm) =
    if (dimM a0 a1).2 ≠ 0 then 1 else if (l2.length : Int) ≠ (dimM a0 a1).1 ∨ (l3.any fun s => (s.f0.length : Int) != a0) = true then 4 else
    if l3.length = 0 ∨ l3.length > 64 then 1 else 0 := by
  unfold checkM
  have h1 : (¬ ∀ s ∈ l3.map sm, (s.1.length : Int) = a0) ↔ (l3.any fun s => (s.f0.length : Int) != a0) = true := by
    simp [List.any_eq_true, sm]
  rw [List.length_map]
  simp only [h1]
set_option maxHeartbeats 8000000 in
set_option maxRecDepth 100000 in
theorem mlp_Check.calls (a0 : Int) (a1 : Int) (A2 : Option Addr) (c2 : Nat) (l2 : List Int) (A3 : Option Addr) (c3 : Nat) (l3 : List (S37)) (r : Int) (w : World) (hr2 : Kd.C (Kd.int .i64) w A2 l2.length l2) (hc2 : l2.length ≤ c2) (hr3 : Kd.C k37 w A3 l3.length l3) (hc3 : l3.length ≤ c3) (h : mlp_Check.f a0 a1 l2 l3 = some r) :
    Calls Try.prog 39 #[.int .i64 a0, .int .i64 a1, .slice A2 l2.length c2, .slice A3 l3.length c3] w fun e w' => e = .returned (.int .i64 r) ∧ Below w.heap.size w w' := by
  have hu := Try.underlying26
  have h := Option.some.inj h
  rw [checkM_any] at h
  have A0 := mlp_Dim.is a0 a1
  have hd1 := @dimM_bad a0 a1
  generalize dimM a0 a1 = p at A0 h hd1
  obtain ⟨d, e⟩ := p
  simp only [] at h hd1
  have A0 := Aside0.mk A0
  have HR3 := Aside0.mk hr3
  have HC3 := Aside0.mk hc3
  have hB2 : Below w.heap.size w (w.alloc (.cells #[.int .i64 a0] 3)) := zzA (Below.refl _ _) _
  have HB := Aside0.mk hB2
  have bI := Aside0.mk (Boxed.new w 3 (.int .i64 a0))
  clear hr3 hc3 hB2
  have hci := bI.out.cell
  by_cases he : e = 0
  · rw [if_neg (not_not_intro he)] at h
    subst he
    clear hd1
    obtain ⟨q1, hq1⟩ : ∃ b, (l3.any fun s : S37 => (s.f0.length : Int) != a0) = b := ⟨_, rfl⟩
    rw [hq1] at h
    have Q1 := Aside0.mk hq1
    clear hq1
    by_cases hl : (l2.length : Int) = d
    · have hl0 : ((l2.length : Int) != d) = false := bne_eq_false_iff_eq.2 hl
      cases q1 with
      | true =>
        rw [if_pos (.inr rfl)] at h
        subst h
        clear hl
        go_enter Try.func39, Try.ntmps39
        go_wp2_with (first | (go_at_call 63; (with_reducible refine (mlp_Dim.calls a0 a1 _ _ _ A0.out).mono ?_); rintro ed W1 ⟨rfl, hdr⟩; have HB1 := Aside0.mk (below_then HB.out HB.out.size hdr.below); have bI1 := Aside0.mk (blk_below bI.out hdr.below); clear hdr) | (go_at_call 65; refine (slices_ContainsFuncS.calls 66 #[.pointer (some ⟨w.heap.size, 0, none⟩)] (fun s => (s.f0.length : Int) != a0) A3 c3 l3 W1 (enters_of Try.func66 (by kernel_rfl) rfl) (Kd.C_below HR3.out HB1.out) HC3.out (fun W x A c hb h0 h1 => mlp_Check_1.calls w.heap.size A c x.f0 x.f1 a0 W (blk_below bI1.out hb))).mono ?_; rintro ed W2 ⟨rfl, hb⟩; rw [Q1.out]; have HB2 := Aside0.mk (below_then HB1.out HB1.out.size hb); clear hb))
        go_ret
        exact ⟨rfl, HB2.out⟩
      | false =>
        rw [if_neg (show ¬ ((l2.length : Int) ≠ d ∨ false = true) from fun h => h.elim (fun h => h hl) (fun h => by cases h))] at h
        clear hl
        by_cases z : l3.length = 0
        · rw [if_pos (.inl z)] at h
          subst h
          have z0 : ((l3.length : Int) == 0) = true := by rw [z]; rfl
          clear z
          go_enter Try.func39, Try.ntmps39
          go_wp2_with (first | (go_at_call 63; (with_reducible refine (mlp_Dim.calls a0 a1 _ _ _ A0.out).mono ?_); rintro ed W1 ⟨rfl, hdr⟩; have HB1 := Aside0.mk (below_then HB.out HB.out.size hdr.below); have bI1 := Aside0.mk (blk_below bI.out hdr.below); clear hdr) | (go_at_call 65; refine (slices_ContainsFuncS.calls 66 #[.pointer (some ⟨w.heap.size, 0, none⟩)] (fun s => (s.f0.length : Int) != a0) A3 c3 l3 W1 (enters_of Try.func66 (by kernel_rfl) rfl) (Kd.C_below HR3.out HB1.out) HC3.out (fun W x A c hb h0 h1 => mlp_Check_1.calls w.heap.size A c x.f0 x.f1 a0 W (blk_below bI1.out hb))).mono ?_; rintro ed W2 ⟨rfl, hb⟩; rw [Q1.out]; have HB2 := Aside0.mk (below_then HB1.out HB1.out.size hb); clear hb))
          go_ret
          exact ⟨rfl, HB2.out⟩
        · have z0 : ((l3.length : Int) == 0) = false := beq_eq_false_iff_ne.2 (by omega)
          by_cases z1 : l3.length > 64
          · rw [if_pos (.inr z1)] at h
            subst h
            have z2 : ((l3.length : Int) > 64) := by omega
            clear z z1
            go_enter Try.func39, Try.ntmps39
            go_wp2_with (first | (go_at_call 63; (with_reducible refine (mlp_Dim.calls a0 a1 _ _ _ A0.out).mono ?_); rintro ed W1 ⟨rfl, hdr⟩; have HB1 := Aside0.mk (below_then HB.out HB.out.size hdr.below); have bI1 := Aside0.mk (blk_below bI.out hdr.below); clear hdr) | (go_at_call 65; refine (slices_ContainsFuncS.calls 66 #[.pointer (some ⟨w.heap.size, 0, none⟩)] (fun s => (s.f0.length : Int) != a0) A3 c3 l3 W1 (enters_of Try.func66 (by kernel_rfl) rfl) (Kd.C_below HR3.out HB1.out) HC3.out (fun W x A c hb h0 h1 => mlp_Check_1.calls w.heap.size A c x.f0 x.f1 a0 W (blk_below bI1.out hb))).mono ?_; rintro ed W2 ⟨rfl, hb⟩; rw [Q1.out]; have HB2 := Aside0.mk (below_then HB1.out HB1.out.size hb); clear hb))
            go_ret
            exact ⟨rfl, HB2.out⟩
          · have z2 : ¬ ((l3.length : Int) > 64) := by omega
            rw [if_neg (show ¬ (l3.length = 0 ∨ l3.length > 64) from fun h => h.elim z z1)] at h
            subst h
            clear z z1
            go_enter Try.func39, Try.ntmps39
            go_wp2_with (first | (go_at_call 63; (with_reducible refine (mlp_Dim.calls a0 a1 _ _ _ A0.out).mono ?_); rintro ed W1 ⟨rfl, hdr⟩; have HB1 := Aside0.mk (below_then HB.out HB.out.size hdr.below); have bI1 := Aside0.mk (blk_below bI.out hdr.below); clear hdr) | (go_at_call 65; refine (slices_ContainsFuncS.calls 66 #[.pointer (some ⟨w.heap.size, 0, none⟩)] (fun s => (s.f0.length : Int) != a0) A3 c3 l3 W1 (enters_of Try.func66 (by kernel_rfl) rfl) (Kd.C_below HR3.out HB1.out) HC3.out (fun W x A c hb h0 h1 => mlp_Check_1.calls w.heap.size A c x.f0 x.f1 a0 W (blk_below bI1.out hb))).mono ?_; rintro ed W2 ⟨rfl, hb⟩; rw [Q1.out]; have HB2 := Aside0.mk (below_then HB1.out HB1.out.size hb); clear hb))
            go_ret
            exact ⟨rfl, HB2.out⟩
    · rw [if_pos (.inl hl)] at h
      subst h
      have hl0 : ((l2.length : Int) != d) = true := bne_iff_ne.2 hl
      clear hl
      go_enter Try.func39, Try.ntmps39
      go_wp2_with (first | (go_at_call 63; (with_reducible refine (mlp_Dim.calls a0 a1 _ _ _ A0.out).mono ?_); rintro ed W1 ⟨rfl, hdr⟩; have HB1 := Aside0.mk (below_then HB.out HB.out.size hdr.below); have bI1 := Aside0.mk (blk_below bI.out hdr.below); clear hdr))
      go_ret
      exact ⟨rfl, HB1.out⟩
  · rw [if_pos he] at h
    have he1 := hd1 he
    subst he1
    subst h
    clear hd1 he
    go_enter Try.func39, Try.ntmps39
    go_wp2_with (first | (go_at_call 63; (with_reducible refine (mlp_Dim.calls a0 a1 _ _ _ A0.out).mono ?_); rintro ed W1 ⟨rfl, hdr⟩; have HB1 := Aside0.mk (below_then HB.out HB.out.size hdr.below); have bI1 := Aside0.mk (blk_below bI.out hdr.below); clear hdr))
    go_ret
    exact ⟨rfl, HB1.out⟩


/-! ### model_layers_fits: function 126 -/
def model_layers_fits.f (a0_0 : Int) (a0_1 : Int) (a0_2 : Int) (a0_3 : Int) (a0_4 : Int) (l1 : List Int) (l2 : List (S37)) : Option (Int) := (mlp_Check.f a0_1 a0_3 l1 l2).bind fun t281 => (some t281)
set_option maxHeartbeats 8000000 in
set_option maxRecDepth 100000 in
theorem model_layers_fits.calls (a0_0 : Int) (a0_1 : Int) (a0_2 : Int) (a0_3 : Int) (a0_4 : Int) (A1 : Option Addr) (c1 : Nat) (l1 : List Int) (A2 : Option Addr) (c2 : Nat) (l2 : List (S37)) (r : Int) (w : World) (hr1 : Kd.C (Kd.int .i64) w A1 l1.length l1) (hc1 : l1.length ≤ c1) (hr2 : Kd.C k37 w A2 l2.length l2) (hc2 : l2.length ≤ c2) (h : model_layers_fits.f a0_0 a0_1 a0_2 a0_3 a0_4 l1 l2 = some r) :
  Calls Try.prog 126 #[.agg #[.int .i64 a0_0, .int .i64 a0_1, .int .i64 a0_2, .int .i64 a0_3, .int .i64 a0_4], .slice A1 l1.length c1, .slice A2 l2.length c2] w fun e w' => e = .returned (.int .i64 r) ∧ Below w.heap.size w w' := by
 have hu88 := Try.underlying88
 have HR1 := Aside0.mk hr1
 have HC1 := Aside0.mk hc1
 clear hr1 hc1
 have HR2 := Aside0.mk hr2
 have HC2 := Aside0.mk hc2
 clear hr2 hc2
 have HB := Aside0.mk (Below.refl w.heap.size w)
 have H : ((mlp_Check.f a0_1 a0_3 l1 l2).bind fun t281 => (some t281)) = some r := h
 clear h
 replace H := Option.bind_eq_some_iff.mp H
 obtain ⟨t281, A40, H⟩ := H
 replace H : (some t281) = some r := H
 have A4 := Aside0.mk A40
 clear A40
 obtain rfl := Option.some.inj H
 go_enter Try.func126, Try.ntmps126
 go_wp2_with (first | ((with_reducible refine gate_dst (N := 3) rfl ?_); refine box_event ?hg (N := 3) ?hd (cs := #[.int .i64 a0_0, .int .i64 a0_1, .int .i64 a0_2, .int .i64 a0_3, .int .i64 a0_4]) (t := 88) ?hr ?_; (case hd => rfl); (case hg => rfl); (case hr => first | (go_simp; done) | (go_simp; rfl)); intro gb280 hg w5 hbox hb; have n0_ := Aside0.mk (zzT (by repeat (first | (with_reducible first | exact HB.out | apply zzA | apply zzN | apply zzD) | exact HB.out)) hb); have n1_ := Aside0.mk (hbox); have n2_ := Aside0.mk ((by rw [hg]; exact (zzS (by repeat (first | (with_reducible first | exact HB.out | apply zzA | apply zzN | apply zzD) | exact HB.out))) : w.heap.size ≤ gb280)); have n3_ := Aside0.mk ((by rw [hg]; exact (zzS (by repeat (first | (with_reducible first | exact HB.out | apply zzA | apply zzN | apply zzD) | exact HB.out))) : w.heap.size ≤ gb280)); clear HB; have HB := n0_; have BK280 := n1_; have GW280 := n2_; have GE280 := n3_; clear n0_ n1_ n2_ n3_; clear hb hbox hg; have hcz6_0 : w5.cell? ⟨gb280, 0, none⟩ = some (.int .i64 a0_0) := (blk_cell BK280.out 0).trans rfl; have hcz6_1 : w5.cell? ⟨gb280, 1, none⟩ = some (.int .i64 a0_1) := (blk_cell BK280.out 1).trans rfl; have hcz6_2 : w5.cell? ⟨gb280, 2, none⟩ = some (.int .i64 a0_2) := (blk_cell BK280.out 2).trans rfl; have hcz6_3 : w5.cell? ⟨gb280, 3, none⟩ = some (.int .i64 a0_3) := (blk_cell BK280.out 3).trans rfl; have hcz6_4 : w5.cell? ⟨gb280, 4, none⟩ = some (.int .i64 a0_4) := (blk_cell BK280.out 4).trans rfl; have hfz6_0 := blk_frozen BK280.out 0; have hfz6_1 := blk_frozen BK280.out 1; have hfz6_2 := blk_frozen BK280.out 2; have hfz6_3 := blk_frozen BK280.out 3; have hfz6_4 := blk_frozen BK280.out 4) | ((with_reducible refine gate_callee (f := 39) rfl ?_); refine goesL_ (some 15) rfl rfl Try.func39 (by kernel_rfl) rfl #[.int .i64 a0_1, .int .i64 a0_3, .slice A1 l1.length c1, .slice A2 l2.length c2] rfl (by (try simp only [List.map_toArray, List.map_cons, List.map_nil]); first | done | rfl | (simp only [List.length_drop, List.length_take]; rfl)) ?_; (with_reducible refine (mlp_Check.calls a0_1 a0_3 _ _ l1 _ _ l2 t281 _ ?side1 ?side2 ?side3 ?side4 A4.out).mono ?_); (case side1 => repeat (first | exact (Kd.C_below HR1.out HB.out) | (with_reducible refine ccA ?_ _) | (with_reducible refine ccN ?_ _) | (with_reducible refine ccD ?_))); (case side2 => exact HC1.out); (case side3 => repeat (first | exact (Kd.C_below HR2.out HB.out) | (with_reducible refine ccA ?_ _) | (with_reducible refine ccN ?_ _) | (with_reducible refine ccD ?_))); (case side4 => exact HC2.out); rintro e w7 ⟨rfl, hb⟩; refine ⟨_, rfl, ?_⟩; have n0_ := Aside0.mk (blk_below (g := gb280) (o := .cells #[.int .i64 a0_0, .int .i64 a0_1, .int .i64 a0_2, .int .i64 a0_3, .int .i64 a0_4] 88 (0, 0)) (by (with_reducible repeat (first | refine kkN ?_ _ | refine kkD ?_ | refine kkA ?_ _)); exact BK280.out) hb); have n1_ := Aside0.mk (zzT (by repeat (first | (with_reducible first | exact HB.out | apply zzA | apply zzN | apply zzD | refine below_set ?_ GE280.out) | exact HB.out)) hb); clear BK280; clear HB; have BK280 := n0_; have HB := n1_; clear n0_ n1_; (try clear hb); (try clear hb2); (try clear hk); (try clear hi)))
 go_ret
 exact ⟨by first | rfl | (simp [errW_none, errW_some] <;> rfl) | (simp [*, errW_none, errW_some] <;> rfl), by repeat (first | (with_reducible first | exact HB.out | apply zzA | apply zzN | apply zzD | refine below_set ?_ GE280.out) | exact HB.out)⟩

/-! ### mlp_split: function 38 -/
theorem dimM_of {n : Int} {k : Nat} (h1 : 1 ≤ n) (h2 : n ≤ 16) (hk1 : 1 ≤ k) (hk8 : k ≤ 8) : mlp_Dim.f n k = some (k * (n + 1) + k + 1, 0) := by
  unfold mlp_Dim.f linear_Dim.f mlp_hides.f
  have hm : (k : Int) * (n + 1) ≤ 8 * 17 := Int.mul_le_mul (by omega) (by omega) (by omega) (by omega)
  have h0 : 0 ≤ (k : Int) * (n + 1) := Int.mul_nonneg (by omega) (by omega)
  have e1 : wrap64 (n + 1) = n + 1 := wrap64_of (by unfold I64; omega)
  rw [if_neg (by omega), if_neg (by omega), e1, Option.bind_some, if_pos rfl, if_pos (show (k : Int) > 0 by omega), Option.bind_some, if_pos (decide_eq_true (by omega))]
  show some (wrap64 (wrap64 (wrap64 ((k : Int) * (n + 1)) + k) + 1), 0) = _
  generalize (k : Int) * (n + 1) = p at hm h0 ⊢
  rw [wrap64_of (show I64 p by unfold I64; omega), wrap64_of (show I64 (p + k) by unfold I64; omega), wrap64_of (show I64 (p + k + 1) by unfold I64; omega)]
theorem mlp_split.good (k m : Nat) (ad : Addr) (c : Nat) (l : List Int) (w : World) (hk1 : 1 ≤ k) (hk8 : k ≤ 8) (hm2 : 2 ≤ m) (hm17 : m ≤ 17) (hkm : k * m + k + 1 = l.length) (hr : Kd.C (Kd.int .i64) w (some ad) l.length l) (hc : l.length ≤ c) :
    Calls Try.prog 38 #[.int .i64 k, .slice (some ad) l.length c] w fun e w' => ∃ v0_ : Value, e = .returned (.tuple #[.agg #[.slice (some (ad.add (k * m))) (k + 1) (c - k * m), v0_, .int .i64 ((m : Int) - 1)], .int .i64 0]) ∧ w'.ownsRow w.heap.size 26 1 v0_ k (cutsM ad m k) ∧ Below w.heap.size w w' := by
  refine split_in k m ad c l w hk1 hk8 hm2 hm17 hkm hr hc (fun w => mlp_hides.calls _ true _ ?_) (fun w => mlp_Dim.calls _ _ _ _ _ ?_)
  · unfold mlp_hides.f
    rw [if_pos (show (k : Int) > 0 by omega), decide_eq_true (show (k : Int) ≤ 8 by omega)]
  · rw [dimM_of (by omega) (by omega) hk1 hk8]
    have h3 : ((k * m : Nat) : Int) = (k : Int) * m := by push_cast; rfl
    rw [show (m : Int) - 1 + 1 = m by omega, ← h3]
    generalize k * m = p at hkm h3 ⊢
    rw [show ((p : Int) + k + 1) = ((l.length : Nat) : Int) by omega]
theorem dimM_tot (n : Int) (k : Nat) (hk1 : 1 ≤ k) (hk8 : k ≤ 8) : ∃ mm e, mlp_Dim.f n k = some (mm, e) ∧ (e ≠ 0 ∨ e = 0 ∧ 1 ≤ n ∧ n ≤ 16 ∧ mm = k * (n + 1) + k + 1) := by
  by_cases c1 : 1 ≤ n
  · by_cases c2 : n ≤ 16
    · exact ⟨_, _, dimM_of c1 c2 hk1 hk8, .inr ⟨rfl, c1, c2, rfl⟩⟩
    · refine ⟨0, 1, ?_, .inl (by decide)⟩
      unfold mlp_Dim.f linear_Dim.f
      rw [if_neg (by omega), if_pos (by omega), Option.bind_some, if_neg (by decide)]
  · refine ⟨0, 1, ?_, .inl (by decide)⟩
    unfold mlp_Dim.f linear_Dim.f
    rw [if_pos (by omega), Option.bind_some, if_neg (by decide)]
theorem lenM_of {k m : Nat} {w : List Int} (hk1 : 1 ≤ k) (h : k * m + k + 1 = w.length) : lenM k w = m := by
  unfold lenM
  have h2 : w.length - 1 = k * (m + 1) := by rw [Nat.mul_add, Nat.mul_one]; omega
  rw [h2, Nat.mul_div_cancel_left _ (by omega)]
  omega
set_option maxHeartbeats 4000000 in
set_option maxRecDepth 100000 in
theorem mlp_split.bad (a0 : Int) (A1 : Option Addr) (c1 : Nat) (l1 : List Int) (w : World) (hr1 : Kd.C (Kd.int .i64) w A1 l1.length l1) (hc1 : l1.length ≤ c1) (h : (splitM a0 l1).2.2 ≠ 0) :
    Calls Try.prog 38 #[.int .i64 a0, .slice A1 l1.length c1] w fun e w' => e = .returned (.tuple #[.agg #[.slice none 0 0, .slice none 0 0, .int .i64 0], .int .i64 (splitM a0 l1).2.2]) ∧ Below w.heap.size w w' := by
  have hu54 := Try.underlying76
  have hu52 := Try.underlying74
  by_cases hb : badHid a0
  · have A : mlp_hides.f a0 = some false := by
      unfold mlp_hides.f
      unfold badHid at hb
      by_cases c : a0 > 0
      · rw [if_pos c, decide_eq_false (by omega)]
      · rw [if_neg c]
    rw [show (splitM a0 l1).2.2 = 1 by unfold splitM; rw [if_pos hb]]
    clear h hb hr1 hc1
    go_enter Try.func38, Try.ntmps38
    go_wp2_with (go_at_call 62; (with_reducible refine (mlp_hides.calls a0 false _ A).mono ?_); rintro e w' ⟨rfl, ⟨nd, rfl⟩⟩)
    have hb0 : ((w.alloc (Obj.cells #[.slice none 0 0, .slice none 0 0, .int .i64 0] 76)).drewN (nd)).heap[w.heap.size]? = some (Obj.cells #[.slice none 0 0, .slice none 0 0, .int .i64 0] 76 (0, 0)) := kkN (blk_new w _) _
    have hbf := blk_set (blk_set (blk_set hb0 0 (.slice none 0 0)) 1 (.slice none 0 0)) 2 (.int .i64 0)
    have hBf := (((zzN (zzA (Below.refl w.heap.size w) (Obj.cells #[.slice none 0 0, .slice none 0 0, .int .i64 0] 76)) (nd)).setCell (p := ⟨w.heap.size, 0, none⟩) (Nat.le_refl _) (.slice none 0 0)).setCell (p := ⟨w.heap.size, 1, none⟩) (Nat.le_refl _) (.slice none 0 0)).setCell (p := ⟨w.heap.size, 2, none⟩) (Nat.le_refl _) (.int .i64 0)
    generalize World.setCell _ ⟨w.heap.size, 2, none⟩ _ = Wf at hbf hBf ⊢
    have e0 : Wf.cell? ⟨w.heap.size, 0, none⟩ = some (.slice none 0 0) := (blk_cell hbf 0).trans rfl
    have e1 : Wf.cell? ⟨w.heap.size, 1, none⟩ = some (.slice none 0 0) := (blk_cell hbf 1).trans rfl
    have e2 : Wf.cell? ⟨w.heap.size, 2, none⟩ = some (.int .i64 0) := (blk_cell hbf 2).trans rfl
    (try simp only [Exit.inBlock, Exit.then])
    refine bodyPost_ret (v := .tuple #[.agg #[.slice none 0 0, .slice none 0 0, .int .i64 0], .int .i64 1]) ?_ rfl ⟨rfl, hBf⟩
    simp [results, go_sem, hu54, hu52, e0, e1, e2]
  · obtain ⟨k, rfl, hk1, hk8⟩ := badHid_not hb
    have hng : ¬ goodNet k l1 := fun g => h (by unfold splitM; rw [if_neg hb, Int.toNat_natCast, if_pos g])
    rw [show (splitM k l1).2.2 = 4 by unfold splitM; rw [if_neg hb, Int.toNat_natCast, if_neg hng]]
    have A : mlp_hides.f k = some true := by
      unfold mlp_hides.f
      rw [if_pos (by omega), decide_eq_true (by omega)]
    have hk0 : (k : Int) ≠ 0 := by omega
    have D : ∀ n : Int, ∃ mm e, mlp_Dim.f n k = some (mm, e) ∧ (e ≠ 0 ∨ e = 0 ∧ mm ≠ l1.length) := by
      intro n
      obtain ⟨mm, e, h1, h2⟩ := dimM_tot n k hk1 hk8
      refine ⟨mm, e, h1, h2.imp id ?_⟩
      rintro ⟨rfl, n1, n2, rfl⟩
      refine ⟨rfl, fun e => hng ?_⟩
      obtain ⟨m, rfl⟩ : ∃ m : Nat, n = (m : Int) - 1 := ⟨(n + 1).toNat, by omega⟩
      have h3 : ((k * m : Nat) : Int) = (k : Int) * m := by push_cast; rfl
      rw [show (m : Int) - 1 + 1 = m by omega, ← h3] at e
      have hl := lenM_of (w := l1) (m := m) hk1 (by omega)
      exact ⟨by omega, by omega, by rw [hl]; omega⟩
    clear h hb hr1 hc1 hng
    obtain ⟨mm, e, hd, he⟩ := D (wrap64 (wrap64 (wrap64 ((wrap64 ((l1.length : Int) - 1)).tdiv k) - 1) - 1))
    clear D
    by_cases c : e = 0
    · subst c
      have hmm : mm ≠ l1.length := he.elim (fun h => absurd rfl h) (fun h => h.2)
      have hm1 : (mm != (l1.length : Int)) = true := bne_iff_ne.2 hmm
      clear he hmm
      go_enter Try.func38, Try.ntmps38
      go_wp2_with (first | (go_at_call 62; (with_reducible refine (mlp_hides.calls _ true _ A).mono ?_); rintro e w' ⟨rfl, ⟨nd, rfl⟩⟩) | (go_at_call 63; (with_reducible refine (mlp_Dim.calls _ _ _ _ _ hd).mono ?_); rintro e w' ⟨rfl, ⟨nd1, rfl⟩⟩))
      have hb0 : ((w.alloc (Obj.cells #[.slice none 0 0, .slice none 0 0, .int .i64 0] 76)).drewN (nd + nd1)).heap[w.heap.size]? = some (Obj.cells #[.slice none 0 0, .slice none 0 0, .int .i64 0] 76 (0, 0)) := kkN (blk_new w _) _
      have hbf := blk_set (blk_set (blk_set hb0 0 (.slice none 0 0)) 1 (.slice none 0 0)) 2 (.int .i64 0)
      have hBf := (((zzN (zzA (Below.refl w.heap.size w) (Obj.cells #[.slice none 0 0, .slice none 0 0, .int .i64 0] 76)) (nd + nd1)).setCell (p := ⟨w.heap.size, 0, none⟩) (Nat.le_refl _) (.slice none 0 0)).setCell (p := ⟨w.heap.size, 1, none⟩) (Nat.le_refl _) (.slice none 0 0)).setCell (p := ⟨w.heap.size, 2, none⟩) (Nat.le_refl _) (.int .i64 0)
      generalize World.setCell _ ⟨w.heap.size, 2, none⟩ _ = Wf at hbf hBf ⊢
      have e0 : Wf.cell? ⟨w.heap.size, 0, none⟩ = some (.slice none 0 0) := (blk_cell hbf 0).trans rfl
      have e1 : Wf.cell? ⟨w.heap.size, 1, none⟩ = some (.slice none 0 0) := (blk_cell hbf 1).trans rfl
      have e2 : Wf.cell? ⟨w.heap.size, 2, none⟩ = some (.int .i64 0) := (blk_cell hbf 2).trans rfl
      (try simp only [Exit.inBlock, Exit.then])
      refine bodyPost_ret (v := .tuple #[.agg #[.slice none 0 0, .slice none 0 0, .int .i64 0], .int .i64 4]) ?_ rfl ⟨rfl, hBf⟩
      simp [results, go_sem, hu54, hu52, e0, e1, e2]
    · have he0 : (e == 0) = false := beq_eq_false_iff_ne.2 c
      have he1 : (e != 0) = true := bne_iff_ne.2 c
      clear he c
      go_enter Try.func38, Try.ntmps38
      go_wp2_with (first | (go_at_call 62; (with_reducible refine (mlp_hides.calls _ true _ A).mono ?_); rintro e w' ⟨rfl, ⟨nd, rfl⟩⟩) | (go_at_call 63; (with_reducible refine (mlp_Dim.calls _ _ _ _ _ hd).mono ?_); rintro e w' ⟨rfl, ⟨nd1, rfl⟩⟩))
      have hb0 : ((w.alloc (Obj.cells #[.slice none 0 0, .slice none 0 0, .int .i64 0] 76)).drewN (nd + nd1)).heap[w.heap.size]? = some (Obj.cells #[.slice none 0 0, .slice none 0 0, .int .i64 0] 76 (0, 0)) := kkN (blk_new w _) _
      have hbf := blk_set (blk_set (blk_set hb0 0 (.slice none 0 0)) 1 (.slice none 0 0)) 2 (.int .i64 0)
      have hBf := (((zzN (zzA (Below.refl w.heap.size w) (Obj.cells #[.slice none 0 0, .slice none 0 0, .int .i64 0] 76)) (nd + nd1)).setCell (p := ⟨w.heap.size, 0, none⟩) (Nat.le_refl _) (.slice none 0 0)).setCell (p := ⟨w.heap.size, 1, none⟩) (Nat.le_refl _) (.slice none 0 0)).setCell (p := ⟨w.heap.size, 2, none⟩) (Nat.le_refl _) (.int .i64 0)
      generalize World.setCell _ ⟨w.heap.size, 2, none⟩ _ = Wf at hbf hBf ⊢
      have e0 : Wf.cell? ⟨w.heap.size, 0, none⟩ = some (.slice none 0 0) := (blk_cell hbf 0).trans rfl
      have e1 : Wf.cell? ⟨w.heap.size, 1, none⟩ = some (.slice none 0 0) := (blk_cell hbf 1).trans rfl
      have e2 : Wf.cell? ⟨w.heap.size, 2, none⟩ = some (.int .i64 0) := (blk_cell hbf 2).trans rfl
      (try simp only [Exit.inBlock, Exit.then])
      refine bodyPost_ret (v := .tuple #[.agg #[.slice none 0 0, .slice none 0 0, .int .i64 0], .int .i64 4]) ?_ rfl ⟨rfl, hBf⟩
      simp [results, go_sem, hu54, hu52, e0, e1, e2]


/-! ### mlp_Bend: function 93 -/
def mlp_Bend.f (l0 : List Int) : Option (List Int × Int) := some (bendM l0)
set_option maxHeartbeats 4000000 in
set_option maxRecDepth 100000 in
theorem mlp_Bend.calls (A0 : Option Addr) (c0 : Nat) (l0 : List Int) (r1 : List Int) (r2 : Int) (w : World) (hr0 : Kd.C (Kd.int .i64) w A0 l0.length l0) (hc0 : l0.length ≤ c0) (h : mlp_Bend.f l0 = some (r1, r2)) :
    Calls Try.prog 93 #[.slice A0 l0.length c0] w fun e w' => ∃ v0_ : Value, e = .returned (.tuple #[v0_, .int .i64 r2]) ∧ Kd.R (Kd.int .i64) 2 w' w.heap.size (fun _ => True) v0_ r1 ∧ Below w.heap.size w w' := by
  have h := Option.some.inj h
  unfold bendM at h
  have HR0 := Aside0.mk hr0
  have HC0 := Aside0.mk hc0
  clear hr0 hc0
  by_cases c : l0.length ≤ 4096
  · rw [if_pos c] at h
    obtain ⟨h1, h2⟩ : l0.map (fun n => max n 0) = r1 ∧ 0 = r2 := by cases h; exact ⟨rfl, rfl⟩
    subst h1
    subst h2
    have A1 : vec_Check.f l0 = some 0 := by unfold vec_Check.f; rw [if_neg (by omega)]
    have A2 : slices_Clone_int64_int64.f l0 = some l0 := slices_Clone_int64_int64.of _ (by omega)
    have HN := Aside0.mk c
    clear h c
    go_enter Try.func93, Try.ntmps93
    go_wp2_with (first | (go_at_call 25; (with_reducible refine (vec_Check.calls A0 c0 l0 0 _ HR0.out HC0.out A1).mono ?_); rintro ed W1 ⟨rfl, ⟨nd, rfl⟩⟩) | (go_at_call 79; (with_reducible refine (slices_Clone_int64_int64.calls A0 c0 l0 l0 _ (ccN HR0.out _) HC0.out A2).mono ?_); rintro ed W1 ⟨v_, rfl, hR, hb⟩; have HO := Aside0.mk (Kd.R_lower hR (Nat.le_refl _)); have HB := Aside0.mk (below_then (zzN (Below.refl w.heap.size w) nd) (Nat.le_refl _) hb); clear hR hb; obtain ⟨Ao, co, eo⟩ := Kd.R_slice HO.out; subst eo))
    go_loopw [17] (fun i W => ∃ (k : Nat), i = .int .i64 k ∧ Aside0 (k ≤ l0.length) ∧ Aside0 (Kd.R (Kd.int .i64) 2 W w.heap.size (fun _ => True) (.slice Ao l0.length co) ((l0.take k).map (fun n => max n 0) ++ l0.drop k)) ∧ Aside0 (Below w.heap.size w W)) (fun i _ => l0.length - (intOf i).toNat)
    case atStart => exact ⟨0, rfl, ⟨Nat.zero_le _⟩, ⟨by rw [List.take_zero, List.drop_zero]; exact HO.out⟩, HB⟩
    case round =>
      obtain ⟨k, rfl, ⟨hk⟩, HO, HB⟩ := hrel
      by_cases hlt : k < l0.length
      · have hacc : ((l0.take k).map (fun n => max n 0)).length = k := by rw [List.length_map, List.length_take]; omega
        obtain ⟨g, hg⟩ : ∃ g, Ao = some ⟨g, 0, none⟩ := by
          have hx := HO.out
          obtain ⟨g, cap, he, _⟩ := Kd.R_form hx (by rw [List.length_append, hacc, List.length_drop]; omega)
          injection he with h1 _ _
          exact ⟨g, h1⟩
        subst hg
        have hrd : rd ((l0.take k).map (fun n => max n 0) ++ l0.drop k) (k : Int) = rd l0 k := by
          rw [rd_nat hlt, rd_nat (by rw [List.length_append, hacc, List.length_drop]; omega), List.getElem_append_right (by omega)]
          have hmin : min k l0.length = k := Nat.min_eq_left hk
          simp [hmin]
        have hcell := (Kd.R_celln 0 HO.out (k : Int) (by omega) (by omega)).1
        have hfr := (Kd.R_celln 0 HO.out (k : Int) (by omega) (by omega)).2
        rw [show rdOf 0 ((l0.take k).map (fun n => max n 0) ++ l0.drop k) (k : Int) = rd l0 k from hrd] at hcell
        simp only [Int.toNat_natCast] at hcell hfr
        have hset : ((l0.take k).map (fun n => max n 0) ++ l0.drop k).set k (max (rd l0 k) 0) = (l0.take (k + 1)).map (fun n => max n 0) ++ l0.drop (k + 1) := by
          rw [List.set_append_right _ _ (by omega), hacc, Nat.sub_self, List.drop_eq_getElem_cons hlt, List.set_cons_zero, List.take_add_one, List.getElem?_eq_getElem hlt, List.map_append, rd_nat hlt]
          simp
        have HS := Aside0.mk hset
        have HKL := Aside0.mk hacc
        have HLT := Aside0.mk hlt
        clear hset hrd hacc hk
        go_wp2
        have hp := (Kd.R_putg HO.out (k : Int) (max (rd l0 k) 0)).1
        simp only [Int.toNat_natCast] at hp
        rw [HS.out, show max (rd l0 k) 0 = (if rd l0 k < 0 then 0 else rd l0 k) by split <;> omega] at hp
        have hL := HN.out
        exact ⟨⟨k + 1, by rw [wrap64_of (show I64 ((k : Int) + 1) by unfold I64; omega)]; rfl, ⟨HLT.out⟩, ⟨hp⟩, ⟨HB.out.setCell (by obtain ⟨_, _, he, hb, _⟩ := Kd.R_form HO.out (by have := HKL.out; have := HLT.out; rw [List.length_append, List.length_drop]; omega); injection he with h1 _ _; injection h1 with h1; injection h1 with h1 _ _; show w.heap.size ≤ g; rw [h1]; exact hb) _⟩⟩, by rw [wrap64_of (show I64 ((k : Int) + 1) by unfold I64; omega)]; simp [intOf]; omega⟩
      · have hkn : k = l0.length := by omega
        have HO2 := HO.out
        rw [hkn, List.drop_length, List.append_nil, List.take_length] at HO2
        have HO3 := Aside0.mk HO2
        subst hkn
        clear HO2 HO hk
        go_wp2
        go_ret2
        exact ⟨_, rfl, HO3.out, HB.out⟩
  · rw [if_neg c] at h
    obtain ⟨h1, h2⟩ : [] = r1 ∧ 3 = r2 := by cases h; exact ⟨rfl, rfl⟩
    subst h1
    subst h2
    have A1 : vec_Check.f l0 = some 3 := by unfold vec_Check.f; rw [if_pos (by omega)]
    clear h c
    go_enter Try.func93, Try.ntmps93
    go_wp2_with (go_at_call 25; (with_reducible refine (vec_Check.calls A0 c0 l0 3 _ HR0.out HC0.out A1).mono ?_); rintro ed W1 ⟨rfl, ⟨nd, rfl⟩⟩)
    go_ret2
    exact ⟨_, rfl, Kd.R_nil _ _ _ _ _, zzN (Below.refl _ _) _⟩


end Go.Proofs.Ytbnfejaeekljcaa.HD
