/- What Go functions do, each as a plain Lean function with the same answers, and the proof of it, in every world: printed by the session's driver over the kit's print, with texts by hand. -/
import Derived.Test.YtfbdalnjijdknaaHSx0
import Derived.Test.YtfbdalnjijdknaaHSx13
namespace Go.Proofs.Ytfbdalnjijdknaa.HS
open Go.RowKit Go.Proofs.YtfbdalnjijdknaaW.PrintWords Go.Proofs.YtfbdalnjijdknaaW.PrintLast Go.Proofs.YtfbdalnjijdknaaW.PrintMore
attribute [local go_sem] max2_int min2_int max_two min_two max_three min_three max_four min_four   -- for this text's walks alone
open Go.Proofs.Ytfbdalnjijdknaa.Sp
attribute [local go_sem] Go.Proofs.Ytfbdalnjijdknaa.Sp.u64_not
set_option linter.unusedVariables false
set_option linter.unusedSimpArgs false

/-! ### soft_bendP: function 145 -/
def soft_bendP.l0 : Nat → Int → List Int → List Int → Int → Int → List Int → Int → Option (List Int × Int)
 | 0, _, _, _, _, _, _, _ => none
 | k + 1, x2, x6, x12, x13, x14, x189000, x189001 => if x14 < x13 then (if 0 ≤ x14 then (if x14 < (x12.length : Int) then ((vec_Scale.f x189000 (rd x12 x14) x2).bind fun bt190 => (if bt190.2 = 0 then (if x6.length + bt190.1.length < 17592186044416 then ((some (x6 ++ bt190.1 : List Int)).bind fun y194 => (if y194.length < 17592186044416 then (soft_bendP.l0 k x2 (y194 ++ [rd x12 x14]) x12 x13 (wrap64 (x14 + 1)) x189000 x189001) else (none))) else (none)) else (some (([] : List Int), bt190.2)))) else (none)) else (none)) else (some (x6, 0))
def soft_bendP.f (k : Nat) (l0_0 : List Int) (a0_1 : Int) (l1 : List Int) (a2 : Int) : Option (List Int × Int) := soft_bendP.l0 k a2 ([] : List Int) l1 (l1.length : Int) 0 l0_0 a0_1
theorem soft_bendP.mono_l : ∀ k, (∀ y0 y1 y2 y3 y4 y5 y6, LeO (soft_bendP.l0 k y0 y1 y2 y3 y4 y5 y6) (soft_bendP.l0 (k + 1) y0 y1 y2 y3 y4 y5 y6))
 | 0 => fun _ _ _ _ _ _ _ r h => by simp [soft_bendP.l0] at h
 | k + 1 => by
  have ih0 := soft_bendP.mono_l k
  ·
   intro y0 y1 y2 y3 y4 y5 y6
   unfold soft_bendP.l0
   repeat' first
   | (with_reducible exact ih0 _ _ _ _ _ _ _)
   | (with_reducible exact LeO.refl _)
   | (with_reducible exact LeO.none _)
   | (with_reducible refine LeO.ite ?_ ?_)
   | (with_reducible refine LeO.bind ?_ (fun _ => ?_))
   | exact ih0 _ _ _ _ _ _ _
   | exact LeO.none _
   | refine LeO.ite ?_ ?_
   | refine LeO.bind ?_ (fun _ => ?_)
theorem soft_bendP.mono : ∀ a0 a1 a2 a3 k, LeO (soft_bendP.f k a0 a1 a2 a3) (soft_bendP.f (k + 1) a0 a1 a2 a3) := by
 intro a0 a1 a2 a3 k
 have ih0 := soft_bendP.mono_l k
 unfold soft_bendP.f
 repeat' first
   | (with_reducible exact ih0 _ _ _ _ _ _ _)
   | (with_reducible exact LeO.refl _)
   | (with_reducible exact LeO.none _)
   | (with_reducible refine LeO.ite ?_ ?_)
   | (with_reducible refine LeO.bind ?_ (fun _ => ?_))
   | exact ih0 _ _ _ _ _ _ _
   | exact LeO.none _
   | refine LeO.ite ?_ ?_
   | refine LeO.bind ?_ (fun _ => ?_)
set_option maxHeartbeats 8000000 in
set_option maxRecDepth 100000 in
theorem soft_bendP.calls (k : Nat) (A0_0 : Option Addr) (c0_0 : Nat) (l0_0 : List Int) (a0_1 : Int) (A1 : Option Addr) (c1 : Nat) (l1 : List Int) (a2 : Int) (r1 : List Int) (r2 : Int) (w : World) (hr0_0 : Kd.C (Kd.int .i64) w A0_0 l0_0.length l0_0) (hc0_0 : l0_0.length ≤ c0_0) (hr1 : Kd.C (Kd.int .i64) w A1 l1.length l1) (hc1 : l1.length ≤ c1) (h : soft_bendP.f k l0_0 a0_1 l1 a2 = some (r1, r2)) :
  Calls Try.prog 145 #[.agg #[.slice A0_0 l0_0.length c0_0, .int .i64 a0_1], .slice A1 l1.length c1, .int .i64 a2] w fun e w' => ∃ v0_ : Value, e = .returned (.tuple #[v0_, .int .i64 r2]) ∧ Kd.R (Kd.int .i64) 2 w' w.heap.size (fun _ => True) v0_ r1 ∧ Below w.heap.size w w' := by
 have hu26 := Try.underlying26
 have HR0_0 := Aside0.mk hr0_0
 have HC0_0 := Aside0.mk hc0_0
 clear hr0_0 hc0_0
 have HR1 := Aside0.mk hr1
 have HC1 := Aside0.mk hc1
 clear hr1 hc1
 have HB := Aside0.mk (Below.refl w.heap.size w)
 have H : (soft_bendP.l0 k a2 ([] : List Int) l1 (l1.length : Int) 0 l0_0 a0_1) = some (r1, r2) := h
 clear h
 have H' := Aside0.mk H
 clear H
 go_enter Try.func145, Try.ntmps145
 go_wp2_with (first | ((with_reducible refine gate_dst (N := 3) rfl ?_); refine box_event ?hg (N := 3) ?hd (cs := #[.slice A0_0 l0_0.length c0_0, .int .i64 a0_1]) (t := 26) ?hr ?_; (case hd => rfl); (case hg => rfl); (case hr => first | (go_simp; done) | (go_simp; rfl)); intro gb188 hg w4 hbox hb; have n0_ := Aside0.mk (zzT (by repeat (first | (with_reducible first | exact HB.out | apply zzA | apply zzN | apply zzD) | exact HB.out)) hb); have n1_ := Aside0.mk (hbox); have n2_ := Aside0.mk ((by rw [hg]; exact (zzS (by repeat (first | (with_reducible first | exact HB.out | apply zzA | apply zzN | apply zzD) | exact HB.out))) : w.heap.size ≤ gb188)); have n3_ := Aside0.mk ((by rw [hg]; exact (zzS (by repeat (first | (with_reducible first | exact HB.out | apply zzA | apply zzN | apply zzD) | exact HB.out))) : w.heap.size ≤ gb188)); clear HB; have HB := n0_; have BK188 := n1_; have GW188 := n2_; have GE188 := n3_; clear n0_ n1_ n2_ n3_; clear hb hbox hg))
 go_loopg [6, 14] k (fun kq v6 v14 w' => ∃ (x6_1 : List Int) (x14_1 : Int), v14 = .int .i64 x14_1 ∧ Aside0 (soft_bendP.l0 kq a2 x6_1 l1 (l1.length : Int) x14_1 l0_0 a0_1 = some (r1, r2)) ∧ Aside0 (kq ≤ k) ∧ Aside0 (Kd.R (Kd.int .i64) 2 w' w.heap.size (fun _ => True) v6 x6_1) ∧ Aside0 (w'.heap[gb188]? = some (.cells #[(.slice A0_0 l0_0.length c0_0), .int .i64 a0_1] 26 (0, 0))) ∧ Aside0 (Below w.heap.size w w'))
 case atStart => exact ⟨(([] : List Int)), (0), (by first | rfl | (simp; done) | (simp [*]; done)), H', ⟨Nat.le_refl _⟩, ⟨by first | exact Kd.R_nil _ _ _ _ _ | exact Kd.N_nil _ _ _ _ _ | exact Kd.V_nil _ _ _ _ _ | exact Kd.Q_nil _ _ _ _ _ | exact Kd.S_nil _ _ _ _ _⟩, ⟨by (with_reducible repeat (first | refine kkN ?_ _ | refine kkD ?_ | refine kkA ?_ _)); exact BK188.out⟩, ⟨by repeat (first | (with_reducible first | exact HB.out | apply zzA | apply zzN | apply zzD | refine below_set ?_ GE188.out) | exact HB.out)⟩⟩
 case round =>
  clear H'
  try clear c1
  try clear p2
  obtain ⟨x6_1, x14_1, rfl, HA, HK1, HO_6, BK188, HB⟩ := hrel
  cases gk with
  | zero => exact absurd HA.out (by simp [soft_bendP.l0])
  | succ k1 =>
   have H := HA.out
   clear HA
   simp only [soft_bendP.l0] at H
   by_cases c5 : x14_1 < (l1.length : Int)
   ·
    rw [if_pos c5] at H
    have c5b0 : decide (x14_1 < (l1.length : Int)) = true := decide_eq_true c5
    clear c5
    by_cases c6 : 0 ≤ x14_1
    ·
     rw [if_pos c6] at H
     have c6b0 : decide (0 ≤ x14_1) = true := decide_eq_true c6
     clear c6
     by_cases c7 : x14_1 < (l1.length : Int)
     ·
      rw [if_pos c7] at H
      have c7b0 : decide (x14_1 < (l1.length : Int)) = true := decide_eq_true c7
      clear c7
      replace H := Option.bind_eq_some_iff.mp H
      obtain ⟨⟨t190, t191⟩, A80, H⟩ := H
      replace H : (if t191 = 0 then (if x6_1.length + t190.length < 17592186044416 then ((some (x6_1 ++ t190 : List Int)).bind fun y194 => (if y194.length < 17592186044416 then (soft_bendP.l0 k1 a2 (y194 ++ [rd l1 x14_1]) l1 (l1.length : Int) (wrap64 (x14_1 + 1)) l0_0 a0_1) else (none))) else (none)) else (some (([] : List Int), t191))) = some (r1, r2) := H
      have A8 := Aside0.mk A80
      clear A80
      by_cases c9 : t191 = 0
      ·
       rw [if_pos c9] at H
       have c9b0 : (t191 == 0) = true := beq_iff_eq.mpr c9
       have c9b1 : (t191 != 0) = false := bne_eq_false_iff_eq.mpr c9
       clear c9
       by_cases c10 : x6_1.length + t190.length < 17592186044416
       ·
        rw [if_pos c10] at H
        have LMc10 := Aside0.mk c10
        clear c10
        obtain ⟨y194, hy194⟩ : ∃ y_ : List Int, y_ = (x6_1 ++ t190) := ⟨_, rfl⟩
        replace H : (if y194.length < 17592186044416 then (soft_bendP.l0 k1 a2 (y194 ++ [rd l1 x14_1]) l1 (l1.length : Int) (wrap64 (x14_1 + 1)) l0_0 a0_1) else (none)) = some (r1, r2) := by first | (rw [hy194]; with_reducible exact H) | (have H2_ := (Option.bind_some _ _).symm.trans H; rw [hy194]; with_reducible exact H2_) | (have H2_ := (Option.bind_some _ _).symm.trans H; with_reducible exact H2_) | with_reducible exact H | (rw [hy194]; exact H) | exact H
        have Ny194 := Aside0.mk hy194
        clear hy194
        by_cases c11 : y194.length < 17592186044416
        ·
         rw [if_pos c11] at H
         have LMc11 := Aside0.mk c11
         clear c11
         obtain ⟨y197, hy197⟩ : ∃ y_ : List Int, y_ = (y194 ++ [rd l1 x14_1]) := ⟨_, rfl⟩
         replace H : (soft_bendP.l0 k1 a2 y197 l1 (l1.length : Int) (wrap64 (x14_1 + 1)) l0_0 a0_1) = some (r1, r2) := by first | (rw [hy197]; with_reducible exact H) | (have H2_ := (Option.bind_some _ _).symm.trans H; rw [hy197]; with_reducible exact H2_) | (have H2_ := (Option.bind_some _ _).symm.trans H; with_reducible exact H2_) | with_reducible exact H | (rw [hy197]; exact H) | exact H
         have Ny197 := Aside0.mk hy197
         clear hy197
         have H' := Aside0.mk H
         clear H
         have p189 : 0 ≤ (x14_1 : Int) := of_decide_eq_true (by first | (with_reducible assumption) | assumption)
         have q189 : x14_1 < (l1.length : Int) := of_decide_eq_true (by first | (with_reducible assumption) | assumption)
         obtain ⟨ad189, e189, hx189_0⟩ := Kd.at_int HR1.out x14_1 p189 q189
         cases e189
         replace hx189_0 := (HB.out.cell (World.block_lt_of_cell? w _ hx189_0)).trans hx189_0
         replace p189 := eq_true p189
         replace q189 := eq_true q189
         have hcz12_0 : wr.cell? ⟨gb188, 0, none⟩ = some (.slice A0_0 l0_0.length c0_0) := (blk_cell BK188.out 0).trans rfl
         have hcz12_1 : wr.cell? ⟨gb188, 1, none⟩ = some (.int .i64 a0_1) := (blk_cell BK188.out 1).trans rfl
         have hfz12_0 := blk_frozen BK188.out 0
         have hfz12_1 := blk_frozen BK188.out 1
         go_wp2_with (first | ((with_reducible refine gate_callee (f := 75) rfl ?_); refine goesL_ (some 23) rfl rfl Try.func75 (by kernel_rfl) rfl #[.slice A0_0 l0_0.length c0_0, .int .i64 (rd l1 x14_1), .int .i64 a2] rfl (by (try simp only [List.map_toArray, List.map_cons, List.map_nil]); first | done | rfl | (simp only [List.length_drop, List.length_take]; rfl)) ?_; (with_reducible refine (vec_Scale.calls _ _ l0_0 (rd l1 x14_1) a2 t190 t191 _ ?side1 ?side2 A8.out).mono ?_); (case side1 => repeat (first | exact (Kd.C_below HR0_0.out HB.out) | (with_reducible refine ccA ?_ _) | (with_reducible refine ccN ?_ _) | (with_reducible refine ccD ?_))); (case side2 => exact HC0_0.out); rintro e w13 ⟨v192, rfl, ho0, hb⟩; refine ⟨_, rfl, ?_⟩; have n0_ := Aside0.mk (Kd.R_elder' (by (with_reducible repeat (first | apply rrA | apply rrN | apply rrD)); exact HO_6.out) (Kd.R_base ho0) hb); have n1_ := Aside0.mk (Kd.R_lower (Kd.R_new' ho0 (Kd.R_lt (by (with_reducible repeat (first | apply rrA | apply rrN | apply rrD)); exact HO_6.out))) (zzS (by repeat (first | (with_reducible first | exact HB.out | apply zzA | apply zzN | apply zzD | refine below_set ?_ GE188.out) | exact HB.out)))); have n2_ := Aside0.mk (blk_below (g := gb188) (o := .cells #[.slice A0_0 l0_0.length c0_0, .int .i64 a0_1] 26 (0, 0)) (by (with_reducible repeat (first | refine kkN ?_ _ | refine kkD ?_ | refine kkA ?_ _)); exact BK188.out) hb); have n3_ := Aside0.mk (zzT (by repeat (first | (with_reducible first | exact HB.out | apply zzA | apply zzN | apply zzD | refine below_set ?_ GE188.out) | exact HB.out)) hb); clear HO_6; clear BK188; clear HB; have HO_6 := n0_; have HO193 := n1_; have BK188 := n2_; have HB := n3_; clear n0_ n1_ n2_ n3_; (try clear hb); (try clear hb2); (try clear hk); (try clear hi); (try clear ho0); obtain ⟨Ao15, co15, eo15⟩ := Kd.R_slice HO193.out; subst eo15) | ((with_reducible refine gate_builtin (b := .append) (xs := #[.tmp 29, .tmp 30]) rfl ?_); at_builtin; refine Kd.R_append_rows (Kd.int .i64) (w0 := w) w.heap.size rfl (.tmp 29) (.tmp 30) 22 2 (.int .i64 0) 8 rfl Try.underlying22 info2 rfl (by decide) (by omega) u6 x6_1 t190 _ _ _ (fun k_ => some k_ ≠ (.slice Ao15 t190.length co15 : Value).ownBlock) (fun _ => False) rfl rfl ?aO ?aR (fun _ _ h => h) (fun _ h => h.elim) ?aF ?aB ?aS ?aL ?_; (case aR => repeat (first | exact (Kd.R_reads' HO193.out).2.2 | (with_reducible refine ccA ?_ _) | (with_reducible refine ccN ?_ _) | (with_reducible refine ccD ?_))); (case aB => exact (by repeat (first | (with_reducible first | exact HB.out | apply zzA | apply zzN | apply zzD | refine below_set ?_ GE188.out) | exact HB.out))); (case aF => exact (fun k_ hk => Kd.fresh' (Kd.R_lt (by (with_reducible repeat (first | apply rrA | apply rrN | apply rrD)); exact HO193.out)) k_ hk)); (case aO => exact (by (with_reducible repeat (first | apply rrA | apply rrN | apply rrD)); exact Kd.R_mono HO_6.out (fun _ hk => hk.2))); (case aS => exact (zzS (by repeat (first | (with_reducible first | exact HB.out | apply zzA | apply zzN | apply zzD | refine below_set ?_ GE188.out) | exact HB.out)))); (case aL => have := LMc10.out; omega); intro v195 w14 ho hb hg hat; rw [← Ny194.out] at ho; have n0_ := Aside0.mk (blk_grown (g := gb188) (o := .cells #[.slice A0_0 l0_0.length c0_0, .int .i64 a0_1] 26 (0, 0)) (by (with_reducible repeat (first | refine kkN ?_ _ | refine kkD ?_ | refine kkA ?_ _)); exact BK188.out) hg (Kd.R_ne HO_6.out BK188.out (by decide))); have n1_ := Aside0.mk (Kd.R_after (ok := (fun _ => True)) (by (with_reducible repeat (first | apply rrA | apply rrN | apply rrD)); exact HO193.out) hg hat); have n2_ := Aside0.mk (hb); have n3_ := Aside0.mk (ho); clear BK188; clear HO193; clear HB; clear HO_6; have BK188 := n0_; have HO193 := n1_; have HB := n2_; have HO196 := n3_; clear n0_ n1_ n2_ n3_; clear ho hb hg hat) | ((with_reducible refine gate_builtin (b := .append) (xs := #[.tmp 31, .tmp 33]) rfl ?_); at_builtin; refine Kd.R_append (Kd.int .i64) (w0 := w) w.heap.size rfl (.tmp 31) (.tmp 33) 22 2 (.int .i64 0) 8 rfl Try.underlying22 info2 rfl (by decide) (by omega) v195 y194 (rd l1 x14_1) [.int .i64 (rd l1 x14_1)] (fun k_ => some k_ ≠ (.slice Ao15 t190.length co15 : Value).ownBlock) (fun _ => False) rfl rfl ?aP (fun _ hk => hk.elim) ?aF ?aO ?aB ?aS ?aL ?_; (case aP => exact rfl); (case aB => exact (by repeat (first | (with_reducible first | exact HB.out | apply zzA | apply zzN | apply zzD | refine below_set ?_ GE188.out) | exact HB.out))); (case aF => exact (fun k_ hk => Kd.fresh' (Kd.R_lt (by (with_reducible repeat (first | apply rrA | apply rrN | apply rrD)); exact HO193.out)) k_ hk)); (case aO => exact (by (with_reducible repeat (first | apply rrA | apply rrN | apply rrD)); exact HO196.out)); (case aS => exact (zzS (by repeat (first | (with_reducible first | exact HB.out | apply zzA | apply zzN | apply zzD | refine below_set ?_ GE188.out) | exact HB.out)))); (case aL => have := LMc11.out; omega); intro v198 w16 ho hb hg hat; rw [← Ny197.out] at ho; have n0_ := Aside0.mk (blk_grown (g := gb188) (o := .cells #[.slice A0_0 l0_0.length c0_0, .int .i64 a0_1] 26 (0, 0)) (by (with_reducible repeat (first | refine kkN ?_ _ | refine kkD ?_ | refine kkA ?_ _)); exact BK188.out) hg (Kd.R_ne HO196.out BK188.out (by decide))); have n1_ := Aside0.mk (Kd.R_after (ok := (fun _ => True)) (by (with_reducible repeat (first | apply rrA | apply rrN | apply rrD)); exact HO193.out) hg hat); have n2_ := Aside0.mk (hb); have n3_ := Aside0.mk (ho); clear BK188; clear HO193; clear HB; clear HO196; have BK188 := n0_; have HO193 := n1_; have HB := n2_; have HO199 := n3_; clear n0_ n1_ n2_ n3_; clear ho hb hg hat))
         go_roundg k1
         case measure => have := HK1.out; omega
         case rel => exact ⟨(y197), (wrap64 (x14_1 + 1)), (by first | rfl | (simp; done) | (simp [*]; done)), H', ⟨by have := HK1.out; omega⟩, ⟨by (with_reducible repeat (first | apply rrA | apply rrN | apply rrD)); exact Kd.R_mono HO199.out (fun _ hk => trivial)⟩, ⟨by (with_reducible repeat (first | refine kkN ?_ _ | refine kkD ?_ | refine kkA ?_ _)); exact BK188.out⟩, ⟨by repeat (first | (with_reducible first | exact HB.out | apply zzA | apply zzN | apply zzD | refine below_set ?_ GE188.out) | exact HB.out)⟩⟩
        ·
         rw [if_neg c11] at H
         exact absurd H (by simp)
       ·
        rw [if_neg c10] at H
        exact absurd H (by simp)
      ·
       rw [if_neg c9] at H
       have c9b0 : (t191 == 0) = false := beq_eq_false_iff_ne.mpr c9
       have c9b1 : (t191 != 0) = true := bne_iff_ne.mpr c9
       simp only [Option.some.injEq, Prod.mk.injEq] at H
       obtain ⟨rfl, rfl⟩ := H
       have p189 : 0 ≤ (x14_1 : Int) := of_decide_eq_true (by first | (with_reducible assumption) | assumption)
       have q189 : x14_1 < (l1.length : Int) := of_decide_eq_true (by first | (with_reducible assumption) | assumption)
       obtain ⟨ad189, e189, hx189_0⟩ := Kd.at_int HR1.out x14_1 p189 q189
       cases e189
       replace hx189_0 := (HB.out.cell (World.block_lt_of_cell? w _ hx189_0)).trans hx189_0
       replace p189 := eq_true p189
       replace q189 := eq_true q189
       have hcz17_0 : wr.cell? ⟨gb188, 0, none⟩ = some (.slice A0_0 l0_0.length c0_0) := (blk_cell BK188.out 0).trans rfl
       have hcz17_1 : wr.cell? ⟨gb188, 1, none⟩ = some (.int .i64 a0_1) := (blk_cell BK188.out 1).trans rfl
       have hfz17_0 := blk_frozen BK188.out 0
       have hfz17_1 := blk_frozen BK188.out 1
       go_wp2_with (first | ((with_reducible refine gate_callee (f := 75) rfl ?_); refine goesL_ (some 23) rfl rfl Try.func75 (by kernel_rfl) rfl #[.slice A0_0 l0_0.length c0_0, .int .i64 (rd l1 x14_1), .int .i64 a2] rfl (by (try simp only [List.map_toArray, List.map_cons, List.map_nil]); first | done | rfl | (simp only [List.length_drop, List.length_take]; rfl)) ?_; (with_reducible refine (vec_Scale.calls _ _ l0_0 (rd l1 x14_1) a2 t190 t191 _ ?side1 ?side2 A8.out).mono ?_); (case side1 => repeat (first | exact (Kd.C_below HR0_0.out HB.out) | (with_reducible refine ccA ?_ _) | (with_reducible refine ccN ?_ _) | (with_reducible refine ccD ?_))); (case side2 => exact HC0_0.out); rintro e w18 ⟨v192, rfl, ho0, hb⟩; refine ⟨_, rfl, ?_⟩; have n0_ := Aside0.mk (Kd.R_elder' (by (with_reducible repeat (first | apply rrA | apply rrN | apply rrD)); exact HO_6.out) (Kd.R_base ho0) hb); have n1_ := Aside0.mk (Kd.R_lower (Kd.R_new' ho0 (Kd.R_lt (by (with_reducible repeat (first | apply rrA | apply rrN | apply rrD)); exact HO_6.out))) (zzS (by repeat (first | (with_reducible first | exact HB.out | apply zzA | apply zzN | apply zzD | refine below_set ?_ GE188.out) | exact HB.out)))); have n2_ := Aside0.mk (blk_below (g := gb188) (o := .cells #[.slice A0_0 l0_0.length c0_0, .int .i64 a0_1] 26 (0, 0)) (by (with_reducible repeat (first | refine kkN ?_ _ | refine kkD ?_ | refine kkA ?_ _)); exact BK188.out) hb); have n3_ := Aside0.mk (zzT (by repeat (first | (with_reducible first | exact HB.out | apply zzA | apply zzN | apply zzD | refine below_set ?_ GE188.out) | exact HB.out)) hb); clear HO_6; clear BK188; clear HB; have HO_6 := n0_; have HO193 := n1_; have BK188 := n2_; have HB := n3_; clear n0_ n1_ n2_ n3_; (try clear hb); (try clear hb2); (try clear hk); (try clear hi); (try clear ho0)))
       go_ret2
       exact ⟨_, by first | rfl | (simp [errW_none, errW_some] <;> rfl) | (simp [*, errW_none, errW_some] <;> rfl), by first | exact Kd.R_nil _ _ _ _ _ | exact Kd.N_nil _ _ _ _ _ | exact Kd.V_nil _ _ _ _ _ | exact Kd.Q_nil _ _ _ _ _ | exact Kd.S_nil _ _ _ _ _, by repeat (first | (with_reducible first | exact HB.out | apply zzA | apply zzN | apply zzD | refine below_set ?_ GE188.out) | exact HB.out)⟩
     ·
      rw [if_neg c7] at H
      exact absurd H (by simp)
    ·
     rw [if_neg c6] at H
     exact absurd H (by simp)
   ·
    rw [if_neg c5] at H
    have c5b0 : decide (x14_1 < (l1.length : Int)) = false := decide_eq_false c5
    clear c5
    simp only [Option.some.injEq, Prod.mk.injEq] at H
    obtain ⟨rfl, rfl⟩ := H
    go_wp2
    go_ret2
    exact ⟨_, by first | rfl | (simp [errW_none, errW_some] <;> rfl) | (simp [*, errW_none, errW_some] <;> rfl), by (with_reducible repeat (first | apply rrA | apply rrN | apply rrD)); exact HO_6.out, by repeat (first | (with_reducible first | exact HB.out | apply zzA | apply zzN | apply zzD | refine below_set ?_ GE188.out) | exact HB.out)⟩

def soft_bend.f (l0_0 : List Int) (a0_1 : Int) (l1 : List Int) (a2 : Int) : Option (List Int × Int) := if V64 l0_0 ∧ V64 l1 ∧ l1.length ≤ 4096 then some (bendRows l0_0 a2 l1) else none
theorem soft_bend.of (l0_0 : List Int) (a0_1 : Int) (l1 : List Int) (a2 : Int)  (h_ : V64 l0_0 ∧ V64 l1 ∧ l1.length ≤ 4096) : soft_bend.f l0_0 a0_1 l1 a2 = some (bendRows l0_0 a2 l1) := if_pos h_
theorem soft_bendP.loop (x : List Int) (y f : Int) (off : List Int) (hx : V64 x) (ho : V64 off) (hl : off.length ≤ 4096) : ∀ (d i : Nat) (acc : List Int), d + i = off.length → acc.length ≤ 4097 * i →
    soft_bendP.l0 (d + 1) f acc off (off.length : Int) (i : Int) x y = some (if (bendRows x f (off.drop i)).2 = 0 then (acc ++ (bendRows x f (off.drop i)).1, 0) else ([], (bendRows x f (off.drop i)).2)) := by
  intro d
  induction d with
  | zero =>
    intro i acc hd ha
    rw [soft_bendP.l0, if_neg (by omega), List.drop_eq_nil_of_le (by omega), bendRows, if_pos rfl, List.append_nil]
  | succ d ih =>
    intro i acc hd ha
    have hi : i < off.length := by omega
    have hrd : rd off (i : Int) = off[i] := by unfold rd; rw [Int.toNat_natCast, List.getD_eq_getElem?_getD, List.getElem?_eq_getElem hi, Option.getD_some]
    rw [soft_bendP.l0, if_pos (by omega), if_pos (by omega), if_pos (by omega), hrd, vec_Scale.of _ _ _ ⟨hx, ho _ (List.getElem_mem hi)⟩, Option.bind_some, List.drop_eq_getElem_cons hi, bendRows]
    have hle := scaleV_lle x off[i] f
    by_cases c : (scaleV x off[i] f).2 = 0
    · rw [if_pos c, if_pos c, if_pos (by omega), Option.bind_some, if_pos (by rw [List.length_append]; omega), wrap64_of (by unfold I64; omega), show (i : Int) + 1 = ((i + 1 : Nat) : Int) by omega,
        ih (i + 1) _ (by omega) (by rw [List.length_append, List.length_append, List.length_singleton]; omega)]
      by_cases c2 : (bendRows x f (off.drop (i + 1))).2 = 0
      · rw [if_pos c2, if_pos c2, if_pos rfl, List.append_assoc, List.append_assoc]; rfl
      · rw [if_neg c2, if_neg c2, if_neg c2]
    · rw [if_neg c, if_neg c, if_neg c]
theorem bendRows_err {x : List Int} {f : Int} : ∀ {os : List Int}, (bendRows x f os).2 ≠ 0 → (bendRows x f os).1 = []
  | [], h => absurd rfl h
  | o :: os, h => by
    rw [bendRows] at h ⊢
    split
    · rename_i c
      rw [if_pos c] at h
      split
      · rename_i c2; rw [if_pos c2] at h; exact absurd rfl h
      · rfl
    · rfl
theorem soft_bendP.is (x : List Int) (y : Int) (off : List Int) (f : Int) (hx : V64 x) (ho : V64 off) (hl : off.length ≤ 4096) : soft_bendP.f (off.length + 1) x y off f = some (bendRows x f off) := by
  unfold soft_bendP.f
  have := soft_bendP.loop x y f off hx ho hl off.length 0 [] (by omega) (by simp)
  rw [show ((0 : Nat) : Int) = 0 from rfl, List.drop_zero, List.nil_append] at this
  rw [this]
  by_cases c : (bendRows x f off).2 = 0
  · rw [if_pos c, ← c]
  · rw [if_neg c, ← bendRows_err c]
theorem soft_bend.calls (A0_0 : Option Addr) (c0_0 : Nat) (l0_0 : List Int) (a0_1 : Int) (A1 : Option Addr) (c1 : Nat) (l1 : List Int) (a2 : Int) (r1 : List Int) (r2 : Int) (w : World) (hr0_0 : Kd.C (Kd.int .i64) w A0_0 l0_0.length l0_0) (hc0_0 : l0_0.length ≤ c0_0) (hr1 : Kd.C (Kd.int .i64) w A1 l1.length l1) (hc1 : l1.length ≤ c1) (h : soft_bend.f l0_0 a0_1 l1 a2 = some (r1, r2)) :
    Calls Try.prog 145 #[.agg #[.slice A0_0 l0_0.length c0_0, .int .i64 a0_1], .slice A1 l1.length c1, .int .i64 a2] w fun e w' => ∃ v0_ : Value, e = .returned (.tuple #[v0_, .int .i64 r2]) ∧ Kd.R (Kd.int .i64) 2 w' w.heap.size (fun _ => True) v0_ r1 ∧ Below w.heap.size w w' := by
  unfold soft_bend.f at h
  split at h
  case isFalse => cases h
  rename_i hv
  exact soft_bendP.calls (l1.length + 1) A0_0 c0_0 l0_0 a0_1 A1 c1 l1 a2 r1 r2 w hr0_0 hc0_0 hr1 hc1 ((soft_bendP.is l0_0 a0_1 l1 a2 hv.1 hv.2.1 hv.2.2).trans h)


end Go.Proofs.Ytfbdalnjijdknaa.HS
