/- What Go functions do, each as a plain Lean function with the same answers, and the proof of it, in every world: printed by the session's driver over the kit's print, with texts by hand. -/
import Derived.Test.YtbnfejaeekljcaaHDx0
import Derived.Test.YtbnfejaeekljcaaHDx2
import Derived.Test.YtbnfejaeekljcaaHDx3
import Derived.Test.YtbnfejaeekljcaaHDx9
namespace Go.Proofs.Ytbnfejaeekljcaa.HD
open Go.RowKit Go.Proofs.YtbnfejaeekljcaaW.PrintWords Go.Proofs.YtbnfejaeekljcaaW.PrintLast Go.Proofs.YtbnfejaeekljcaaW.PrintMore
attribute [local go_sem] max2_int min2_int max_two min_two max_three min_three max_four min_four   -- for this text's walks alone
open Go.Proofs.Ytbnfejaeekljcaa.Sp
attribute [local go_sem] Go.Proofs.Ytbnfejaeekljcaa.Sp.u64_not
set_option linter.unusedVariables false
set_option linter.unusedSimpArgs false

/-! ### mlp_net_hiddenP: function 68 -/
def mlp_net_hiddenP.l0 : Nat → List Int → Int → List Int → List (List Int) → Int → Int → Option (List Int × Int)
 | 0, _, _, _, _, _, _ => none
 | k + 1, x1, x2, x8, x30, x31, x32 => if x32 < x31 then (if 0 ≤ x32 then (if x32 < (x30.length : Int) then ((linear_Tell.f (rd_L1 x30 x32) x1 x2).bind fun bt287 => (if x32 < (x8.length : Int) then (if bt287.2 = 0 then (mlp_net_hiddenP.l0 k x1 x2 (x8.set (x32 : Int).toNat bt287.1) x30 x31 (wrap64 (x32 + 1))) else (some (([] : List Int), bt287.2))) else (none))) else (none)) else (none)) else ((mlp_Bend.f x8).bind fun bt290 => (some (bt290.1, bt290.2)))
def mlp_net_hiddenP.f (k : Nat) (l0_0 : List Int) (l0_1 : List (List Int)) (a0_2 : Int) (l1 : List Int) (a2 : Int) : Option (List Int × Int) := if (l1.length : Int) = a0_2 then (if a2 < 0 then (some (([] : List Int), 1)) else (if a2 > 30 then (some (([] : List Int), 1)) else (if 0 ≤ (l0_1.length : Int) then (if ((l0_1.length : Int) : Int).toNat ≤ 35184372088832 then (mlp_net_hiddenP.l0 k l1 a2 (List.replicate ((l0_1.length : Int) : Int).toNat 0) l0_1 (l0_1.length : Int) 0) else (none)) else (none)))) else (some (([] : List Int), 4))
theorem mlp_net_hiddenP.mono_l : ∀ k, (∀ y0 y1 y2 y3 y4 y5, LeO (mlp_net_hiddenP.l0 k y0 y1 y2 y3 y4 y5) (mlp_net_hiddenP.l0 (k + 1) y0 y1 y2 y3 y4 y5))
 | 0 => fun _ _ _ _ _ _ r h => by simp [mlp_net_hiddenP.l0] at h
 | k + 1 => by
  have ih0 := mlp_net_hiddenP.mono_l k
  ·
   intro y0 y1 y2 y3 y4 y5
   unfold mlp_net_hiddenP.l0
   repeat' first
   | (with_reducible exact ih0 _ _ _ _ _ _)
   | (with_reducible exact LeO.refl _)
   | (with_reducible exact LeO.none _)
   | (with_reducible refine LeO.ite ?_ ?_)
   | (with_reducible refine LeO.bind ?_ (fun _ => ?_))
   | exact ih0 _ _ _ _ _ _
   | exact LeO.none _
   | refine LeO.ite ?_ ?_
   | refine LeO.bind ?_ (fun _ => ?_)
theorem mlp_net_hiddenP.mono : ∀ a0 a1 a2 a3 a4 k, LeO (mlp_net_hiddenP.f k a0 a1 a2 a3 a4) (mlp_net_hiddenP.f (k + 1) a0 a1 a2 a3 a4) := by
 intro a0 a1 a2 a3 a4 k
 have ih0 := mlp_net_hiddenP.mono_l k
 unfold mlp_net_hiddenP.f
 repeat' first
   | (with_reducible exact ih0 _ _ _ _ _ _)
   | (with_reducible exact LeO.refl _)
   | (with_reducible exact LeO.none _)
   | (with_reducible refine LeO.ite ?_ ?_)
   | (with_reducible refine LeO.bind ?_ (fun _ => ?_))
   | exact ih0 _ _ _ _ _ _
   | exact LeO.none _
   | refine LeO.ite ?_ ?_
   | refine LeO.bind ?_ (fun _ => ?_)
set_option maxHeartbeats 8000000 in
set_option maxRecDepth 100000 in
theorem mlp_net_hiddenP.calls (k : Nat) (A0_0 : Option Addr) (c0_0 : Nat) (l0_0 : List Int) (A0_1 : Option Addr) (c0_1 : Nat) (l0_1 : List (List Int)) (a0_2 : Int) (A1 : Option Addr) (c1 : Nat) (l1 : List Int) (a2 : Int) (r1 : List Int) (r2 : Int) (w : World) (hr0_0 : Kd.C (Kd.int .i64) w A0_0 l0_0.length l0_0) (hc0_0 : l0_0.length ≤ c0_0) (hr0_1 : Kd.C (Kd.slice 2 (Kd.int .i64)) w A0_1 l0_1.length l0_1) (hc0_1 : l0_1.length ≤ c0_1) (hr1 : Kd.C (Kd.int .i64) w A1 l1.length l1) (hc1 : l1.length ≤ c1) (h : mlp_net_hiddenP.f k l0_0 l0_1 a0_2 l1 a2 = some (r1, r2)) :
  Calls Try.prog 68 #[.agg #[.slice A0_0 l0_0.length c0_0, .slice A0_1 l0_1.length c0_1, .int .i64 a0_2], .slice A1 l1.length c1, .int .i64 a2] w fun e w' => ∃ v0_ : Value, e = .returned (.tuple #[v0_, .int .i64 r2]) ∧ Kd.R (Kd.int .i64) 2 w' w.heap.size (fun _ => True) v0_ r1 ∧ Below w.heap.size w w' := by
 have hu76 := Try.underlying76
 have HR0_0 := Aside0.mk hr0_0
 have HC0_0 := Aside0.mk hc0_0
 clear hr0_0 hc0_0
 have HR0_1 := Aside0.mk hr0_1
 have HC0_1 := Aside0.mk hc0_1
 clear hr0_1 hc0_1
 have HR1 := Aside0.mk hr1
 have HC1 := Aside0.mk hc1
 clear hr1 hc1
 have HB := Aside0.mk (Below.refl w.heap.size w)
 have H : (if (l1.length : Int) = a0_2 then (if a2 < 0 then (some (([] : List Int), 1)) else (if a2 > 30 then (some (([] : List Int), 1)) else (if 0 ≤ (l0_1.length : Int) then (if ((l0_1.length : Int) : Int).toNat ≤ 35184372088832 then (mlp_net_hiddenP.l0 k l1 a2 (List.replicate ((l0_1.length : Int) : Int).toNat 0) l0_1 (l0_1.length : Int) 0) else (none)) else (none)))) else (some (([] : List Int), 4))) = some (r1, r2) := h
 clear h
 by_cases c4 : (l1.length : Int) = a0_2
 ·
  rw [if_pos c4] at H
  have c4b0 : ((l1.length : Int) == a0_2) = true := beq_iff_eq.mpr c4
  have c4b1 : ((l1.length : Int) != a0_2) = false := bne_eq_false_iff_eq.mpr c4
  clear c4
  by_cases c5 : a2 < 0
  ·
   rw [if_pos c5] at H
   have c5b0 : decide (a2 < 0) = true := decide_eq_true c5
   clear c5
   simp only [Option.some.injEq, Prod.mk.injEq] at H
   obtain ⟨rfl, rfl⟩ := H
   go_enter Try.func68, Try.ntmps68
   go_wp2_with (first | ((with_reducible refine gate_dst (N := 3) rfl ?_); refine box_event ?hg (N := 3) ?hd (cs := #[.slice A0_0 l0_0.length c0_0, .slice A0_1 l0_1.length c0_1, .int .i64 a0_2]) (t := 76) ?hr ?_; (case hd => rfl); (case hg => rfl); (case hr => first | (go_simp; done) | (go_simp; rfl)); intro gb282 hg w6 hbox hb; have n0_ := Aside0.mk (zzT (by repeat (first | (with_reducible first | exact HB.out | apply zzA | apply zzN | apply zzD) | exact HB.out)) hb); have n1_ := Aside0.mk (hbox); have n2_ := Aside0.mk ((by rw [hg]; exact (zzS (by repeat (first | (with_reducible first | exact HB.out | apply zzA | apply zzN | apply zzD) | exact HB.out))) : w.heap.size ≤ gb282)); have n3_ := Aside0.mk ((by rw [hg]; exact (zzS (by repeat (first | (with_reducible first | exact HB.out | apply zzA | apply zzN | apply zzD) | exact HB.out))) : w.heap.size ≤ gb282)); clear HB; have HB := n0_; have BK282 := n1_; have GW282 := n2_; have GE282 := n3_; clear n0_ n1_ n2_ n3_; clear hb hbox hg; have hcz7_0 : w6.cell? ⟨gb282, 0, none⟩ = some (.slice A0_0 l0_0.length c0_0) := (blk_cell BK282.out 0).trans rfl; have hcz7_1 : w6.cell? ⟨gb282, 1, none⟩ = some (.slice A0_1 l0_1.length c0_1) := (blk_cell BK282.out 1).trans rfl; have hcz7_2 : w6.cell? ⟨gb282, 2, none⟩ = some (.int .i64 a0_2) := (blk_cell BK282.out 2).trans rfl; have hfz7_0 := blk_frozen BK282.out 0; have hfz7_1 := blk_frozen BK282.out 1; have hfz7_2 := blk_frozen BK282.out 2))
   go_ret2
   exact ⟨_, by first | rfl | (simp [errW_none, errW_some] <;> rfl) | (simp [*, errW_none, errW_some] <;> rfl), by first | exact Kd.R_nil _ _ _ _ _ | exact Kd.N_nil _ _ _ _ _ | exact Kd.V_nil _ _ _ _ _ | exact Kd.Q_nil _ _ _ _ _ | exact Kd.S_nil _ _ _ _ _, by repeat (first | (with_reducible first | exact HB.out | apply zzA | apply zzN | apply zzD | refine below_set ?_ GE282.out) | exact HB.out)⟩
  ·
   rw [if_neg c5] at H
   have c5b0 : decide (a2 < 0) = false := decide_eq_false c5
   clear c5
   by_cases c8 : a2 > 30
   ·
    rw [if_pos c8] at H
    have c8b0 : decide (30 < a2) = true := decide_eq_true c8
    clear c8
    simp only [Option.some.injEq, Prod.mk.injEq] at H
    obtain ⟨rfl, rfl⟩ := H
    go_enter Try.func68, Try.ntmps68
    go_wp2_with (first | ((with_reducible refine gate_dst (N := 3) rfl ?_); refine box_event ?hg (N := 3) ?hd (cs := #[.slice A0_0 l0_0.length c0_0, .slice A0_1 l0_1.length c0_1, .int .i64 a0_2]) (t := 76) ?hr ?_; (case hd => rfl); (case hg => rfl); (case hr => first | (go_simp; done) | (go_simp; rfl)); intro gb282 hg w9 hbox hb; have n0_ := Aside0.mk (zzT (by repeat (first | (with_reducible first | exact HB.out | apply zzA | apply zzN | apply zzD) | exact HB.out)) hb); have n1_ := Aside0.mk (hbox); have n2_ := Aside0.mk ((by rw [hg]; exact (zzS (by repeat (first | (with_reducible first | exact HB.out | apply zzA | apply zzN | apply zzD) | exact HB.out))) : w.heap.size ≤ gb282)); have n3_ := Aside0.mk ((by rw [hg]; exact (zzS (by repeat (first | (with_reducible first | exact HB.out | apply zzA | apply zzN | apply zzD) | exact HB.out))) : w.heap.size ≤ gb282)); clear HB; have HB := n0_; have BK282 := n1_; have GW282 := n2_; have GE282 := n3_; clear n0_ n1_ n2_ n3_; clear hb hbox hg; have hcz10_0 : w9.cell? ⟨gb282, 0, none⟩ = some (.slice A0_0 l0_0.length c0_0) := (blk_cell BK282.out 0).trans rfl; have hcz10_1 : w9.cell? ⟨gb282, 1, none⟩ = some (.slice A0_1 l0_1.length c0_1) := (blk_cell BK282.out 1).trans rfl; have hcz10_2 : w9.cell? ⟨gb282, 2, none⟩ = some (.int .i64 a0_2) := (blk_cell BK282.out 2).trans rfl; have hfz10_0 := blk_frozen BK282.out 0; have hfz10_1 := blk_frozen BK282.out 1; have hfz10_2 := blk_frozen BK282.out 2))
    go_ret2
    exact ⟨_, by first | rfl | (simp [errW_none, errW_some] <;> rfl) | (simp [*, errW_none, errW_some] <;> rfl), by first | exact Kd.R_nil _ _ _ _ _ | exact Kd.N_nil _ _ _ _ _ | exact Kd.V_nil _ _ _ _ _ | exact Kd.Q_nil _ _ _ _ _ | exact Kd.S_nil _ _ _ _ _, by repeat (first | (with_reducible first | exact HB.out | apply zzA | apply zzN | apply zzD | refine below_set ?_ GE282.out) | exact HB.out)⟩
   ·
    rw [if_neg c8] at H
    have c8b0 : decide (30 < a2) = false := decide_eq_false c8
    clear c8
    by_cases c11 : 0 ≤ (l0_1.length : Int)
    ·
     rw [if_pos c11] at H
     have c11b0 := eq_true c11
     have c11b1 : decide (0 ≤ (l0_1.length : Int)) = true := decide_eq_true c11
     clear c11
     by_cases c12 : ((l0_1.length : Int) : Int).toNat ≤ 35184372088832
     ·
      rw [if_pos c12] at H
      have c12b0 := eq_true c12
      have c12b1 : decide (((l0_1.length : Int) : Int).toNat ≤ 35184372088832) = true := decide_eq_true c12
      clear c12
      obtain ⟨y283, hy283⟩ : ∃ y_ : List Int, y_ = (List.replicate ((l0_1.length : Int) : Int).toNat 0) := ⟨_, rfl⟩
      replace H : (mlp_net_hiddenP.l0 k l1 a2 y283 l0_1 (l0_1.length : Int) 0) = some (r1, r2) := by first | (rw [hy283]; with_reducible exact H) | (have H2_ := (Option.bind_some _ _).symm.trans H; rw [hy283]; with_reducible exact H2_) | (have H2_ := (Option.bind_some _ _).symm.trans H; with_reducible exact H2_) | with_reducible exact H | (rw [hy283]; exact H) | exact H
      have Ny283 := Aside0.mk hy283
      clear hy283
      have H' := Aside0.mk H
      clear H
      go_enter Try.func68, Try.ntmps68
      go_wp2_with (first | ((with_reducible refine gate_dst (N := 3) rfl ?_); refine box_event ?hg (N := 3) ?hd (cs := #[.slice A0_0 l0_0.length c0_0, .slice A0_1 l0_1.length c0_1, .int .i64 a0_2]) (t := 76) ?hr ?_; (case hd => rfl); (case hg => rfl); (case hr => first | (go_simp; done) | (go_simp; rfl)); intro gb282 hg w13 hbox hb; have n0_ := Aside0.mk (zzT (by repeat (first | (with_reducible first | exact HB.out | apply zzA | apply zzN | apply zzD) | exact HB.out)) hb); have n1_ := Aside0.mk (hbox); have n2_ := Aside0.mk ((by rw [hg]; exact (zzS (by repeat (first | (with_reducible first | exact HB.out | apply zzA | apply zzN | apply zzD) | exact HB.out))) : w.heap.size ≤ gb282)); have n3_ := Aside0.mk ((by rw [hg]; exact (zzS (by repeat (first | (with_reducible first | exact HB.out | apply zzA | apply zzN | apply zzD) | exact HB.out))) : w.heap.size ≤ gb282)); clear HB; have HB := n0_; have BK282 := n1_; have GW282 := n2_; have GE282 := n3_; clear n0_ n1_ n2_ n3_; clear hb hbox hg; have hcz14_0 : w13.cell? ⟨gb282, 0, none⟩ = some (.slice A0_0 l0_0.length c0_0) := (blk_cell BK282.out 0).trans rfl; have hcz14_1 : w13.cell? ⟨gb282, 1, none⟩ = some (.slice A0_1 l0_1.length c0_1) := (blk_cell BK282.out 1).trans rfl; have hcz14_2 : w13.cell? ⟨gb282, 2, none⟩ = some (.int .i64 a0_2) := (blk_cell BK282.out 2).trans rfl; have hfz14_0 := blk_frozen BK282.out 0; have hfz14_1 := blk_frozen BK282.out 1; have hfz14_2 := blk_frozen BK282.out 2) | ((with_reducible refine gate_dst (N := 28) rfl ?_); refine Kd.R_make (Kd.int .i64) _ 2 rfl (N := 28) rfl 26 _ _ rfl (l0_1.length : Int) rfl rfl Try.underlying26 (.int .i64 0) 8 info2 rfl (by decide) (by omega) 0 (ok := fun _ => True) (okp := fun _ => True) rfl (fun _ hk => hk) trivial (of_decide_eq_true (by first | (with_reducible assumption) | assumption)) (Nat.le_trans (Nat.mul_le_mul_right _ (of_decide_eq_true (by first | (with_reducible assumption) | assumption) : (l0_1.length : Int).toNat ≤ 35184372088832)) (by omega)) (Below.refl _ _) (Nat.le_refl _) ?_; intro v284 w15 ho16 hb hg_ hnew_; clear hg_ hnew_; (first | rw [← Ny283.out] at ho16 | (simp only [Int.reduceToNat] at ho16; rw [← Ny283.out] at ho16)); have n0_ := Aside0.mk (Kd.R_lower ho16 (zzS (by repeat (first | (with_reducible first | exact HB.out | apply zzA | apply zzN | apply zzD | refine below_set ?_ GE282.out) | exact HB.out)))); have n1_ := Aside0.mk (blk_below (g := gb282) (o := .cells #[.slice A0_0 l0_0.length c0_0, .slice A0_1 l0_1.length c0_1, .int .i64 a0_2] 76 (0, 0)) (by (with_reducible repeat (first | refine kkN ?_ _ | refine kkD ?_ | refine kkA ?_ _)); exact BK282.out) hb); have n2_ := Aside0.mk (zzT (by repeat (first | (with_reducible first | exact HB.out | apply zzA | apply zzN | apply zzD | refine below_set ?_ GE282.out) | exact HB.out)) hb); clear BK282; clear HB; have HO285 := n0_; have BK282 := n1_; have HB := n2_; clear n0_ n1_ n2_; clear hb ho16; have hcz17_0 : w15.cell? ⟨gb282, 0, none⟩ = some (.slice A0_0 l0_0.length c0_0) := (blk_cell BK282.out 0).trans rfl; have hcz17_1 : w15.cell? ⟨gb282, 1, none⟩ = some (.slice A0_1 l0_1.length c0_1) := (blk_cell BK282.out 1).trans rfl; have hcz17_2 : w15.cell? ⟨gb282, 2, none⟩ = some (.int .i64 a0_2) := (blk_cell BK282.out 2).trans rfl; have hfz17_0 := blk_frozen BK282.out 0; have hfz17_1 := blk_frozen BK282.out 1; have hfz17_2 := blk_frozen BK282.out 2))
      go_loopg [32] k (fun kq v32 w' => ∃ (x8_1 : List Int) (x32_1 : Int), v32 = .int .i64 x32_1 ∧ Aside0 (mlp_net_hiddenP.l0 kq l1 a2 x8_1 l0_1 (l0_1.length : Int) x32_1 = some (r1, r2)) ∧ Aside0 (kq ≤ k) ∧ Aside0 (Kd.R (Kd.int .i64) 2 w' w.heap.size (fun _ => True) v284 x8_1) ∧ Aside0 (w'.heap[gb282]? = some (.cells #[(.slice A0_0 l0_0.length c0_0), (.slice A0_1 l0_1.length c0_1), .int .i64 a0_2] 76 (0, 0))) ∧ Aside0 (Below w.heap.size w w'))
      case atStart => exact ⟨(y283), (0), (by first | rfl | (simp; done) | (simp [*]; done)), H', ⟨Nat.le_refl _⟩, ⟨by (with_reducible repeat (first | apply rrA | apply rrN | apply rrD)); exact HO285.out⟩, ⟨by (with_reducible repeat (first | refine kkN ?_ _ | refine kkD ?_ | refine kkA ?_ _)); exact BK282.out⟩, ⟨by repeat (first | (with_reducible first | exact HB.out | apply zzA | apply zzN | apply zzD | refine below_set ?_ GE282.out) | exact HB.out)⟩⟩
      case round =>
       clear H'
       try clear c1
       try clear p2
       try clear c4
       try clear c4b0
       try clear c4b1
       try clear c5
       try clear c5b0
       try clear c6
       try clear c8
       try clear c8b0
       try clear c11
       try clear c11b0
       try clear c11b1
       try clear c12
       try clear c12b0
       try clear c12b1
       try clear hcz10_0
       try clear hcz10_1
       try clear hcz10_2
       try clear hcz14_0
       try clear hcz14_1
       try clear hcz14_2
       try clear hcz17_0
       try clear hcz17_1
       try clear hcz17_2
       try clear hcz7_0
       try clear hcz7_1
       try clear hcz7_2
       try clear hfz10_0
       try clear hfz10_1
       try clear hfz10_2
       try clear hfz14_0
       try clear hfz14_1
       try clear hfz14_2
       try clear hfz17_0
       try clear hfz17_1
       try clear hfz17_2
       try clear hfz7_0
       try clear hfz7_1
       try clear hfz7_2
       obtain ⟨x8_1, x32_1, rfl, HA, HK1, HO_8, BK282, HB⟩ := hrel
       cases gk with
       | zero => exact absurd HA.out (by simp [mlp_net_hiddenP.l0])
       | succ k1 =>
        have H := HA.out
        clear HA
        simp only [mlp_net_hiddenP.l0] at H
        by_cases c18 : x32_1 < (l0_1.length : Int)
        ·
         rw [if_pos c18] at H
         have c18b0 : decide (x32_1 < (l0_1.length : Int)) = true := decide_eq_true c18
         clear c18
         by_cases c19 : 0 ≤ x32_1
         ·
          rw [if_pos c19] at H
          have c19b0 : decide (0 ≤ x32_1) = true := decide_eq_true c19
          clear c19
          by_cases c20 : x32_1 < (l0_1.length : Int)
          ·
           rw [if_pos c20] at H
           have c20b0 : decide (x32_1 < (l0_1.length : Int)) = true := decide_eq_true c20
           clear c20
           replace H := Option.bind_eq_some_iff.mp H
           obtain ⟨⟨t287, t288⟩, A210, H⟩ := H
           replace H : (if x32_1 < (x8_1.length : Int) then (if t288 = 0 then (mlp_net_hiddenP.l0 k1 l1 a2 (x8_1.set (x32_1 : Int).toNat t287) l0_1 (l0_1.length : Int) (wrap64 (x32_1 + 1))) else (some (([] : List Int), t288))) else (none)) = some (r1, r2) := H
           have A21 := Aside0.mk A210
           clear A210
           by_cases c22 : x32_1 < (x8_1.length : Int)
           ·
            rw [if_pos c22] at H
            have c22b0 : decide (x32_1 < (x8_1.length : Int)) = true := decide_eq_true c22
            clear c22
            obtain ⟨y289, hy289⟩ : ∃ y_ : List Int, y_ = (x8_1.set (x32_1 : Int).toNat t287) := ⟨_, rfl⟩
            replace H : (if t288 = 0 then (mlp_net_hiddenP.l0 k1 l1 a2 y289 l0_1 (l0_1.length : Int) (wrap64 (x32_1 + 1))) else (some (([] : List Int), t288))) = some (r1, r2) := by first | (rw [hy289]; with_reducible exact H) | (have H2_ := (Option.bind_some _ _).symm.trans H; rw [hy289]; with_reducible exact H2_) | (have H2_ := (Option.bind_some _ _).symm.trans H; with_reducible exact H2_) | with_reducible exact H | (rw [hy289]; exact H) | exact H
            have Ny289 := Aside0.mk hy289
            clear hy289
            by_cases c24 : t288 = 0
            ·
             rw [if_pos c24] at H
             have c24b0 : (t288 == 0) = true := beq_iff_eq.mpr c24
             have c24b1 : (t288 != 0) = false := bne_eq_false_iff_eq.mpr c24
             clear c24
             have H' := Aside0.mk H
             clear H
             have p286 : 0 ≤ (x32_1 : Int) := of_decide_eq_true (by first | (with_reducible assumption) | assumption)
             have q286 : x32_1 < (l0_1.length : Int) := of_decide_eq_true (by first | (with_reducible assumption) | assumption)
             obtain ⟨ad286, A286_0, c286_0, e286, hx286_0, hl286_0, hi286_0⟩ := at_L1 HR0_1.out x32_1 p286 q286
             cases e286
             replace hx286_0 := (HB.out.cell (World.block_lt_of_cell? w _ hx286_0)).trans hx286_0
             have HR286_0 := Aside0.mk hi286_0
             have HC286_0 := Aside0.mk hl286_0
             clear hi286_0 hl286_0
             replace p286 := eq_true p286
             replace q286 := eq_true q286
             go_wp2_with (first | ((with_reducible refine gate_callee (f := 22) rfl ?_); refine goesL_ (some 43) rfl rfl Try.func22 (by kernel_rfl) rfl #[.slice A286_0 (rd_L1 l0_1 x32_1).length c286_0, .slice A1 l1.length c1, .int .i64 a2] rfl (by (try simp only [List.map_toArray, List.map_cons, List.map_nil]); first | done | rfl | (simp only [List.length_drop, List.length_take]; rfl)) ?_; (with_reducible refine (linear_Tell.calls _ _ (rd_L1 l0_1 x32_1) (fun k_ => k_ < w.heap.size) _ _ l1 a2 t287 t288 _ ?side1 ?side2 ?side3 A21.out).mono ?_); (case side1 => repeat (first | exact (Kd.C_below HR286_0.out HB.out) | (with_reducible refine ccA ?_ _) | (with_reducible refine ccN ?_ _) | (with_reducible refine ccD ?_))); (case side2 => exact HC286_0.out); (case side3 => exact Kd.V_mk HC1.out (Kd.F_below (Kd.C_F (Kd.heap_int .i64) HR1.out) (by repeat (first | (with_reducible first | exact HB.out | apply zzA | apply zzN | apply zzD | refine below_set ?_ GE282.out) | exact HB.out)))); rintro e w25 ⟨rfl, hb⟩; refine ⟨_, rfl, ?_⟩; have n0_ := Aside0.mk (Kd.R_below (by (with_reducible repeat (first | apply rrA | apply rrN | apply rrD)); exact HO_8.out) hb); have n1_ := Aside0.mk (blk_below (g := gb282) (o := .cells #[.slice A0_0 l0_0.length c0_0, .slice (some ad286) l0_1.length c0_1, .int .i64 a0_2] 76 (0, 0)) (by (with_reducible repeat (first | refine kkN ?_ _ | refine kkD ?_ | refine kkA ?_ _)); exact BK282.out) hb); have n2_ := Aside0.mk (zzT (by repeat (first | (with_reducible first | exact HB.out | apply zzA | apply zzN | apply zzD | refine below_set ?_ GE282.out) | exact HB.out)) hb); clear HO_8; clear BK282; clear HB; have HO_8 := n0_; have BK282 := n1_; have HB := n2_; clear n0_ n1_ n2_; (try clear hb); (try clear hb2); (try clear hk); (try clear hi); have p23 : 0 ≤ (x32_1 : Int) := of_decide_eq_true (by first | (with_reducible assumption) | assumption); have q23 : (x32_1 : Int) < ((x8_1.length : Int) : Int) := of_decide_eq_true (by first | (with_reducible assumption) | assumption); obtain ⟨go23, co23, eo23, gb23, gl23, cl23, HG23⟩ := Kd.R_form HO_8.out (by omega); (first | cases eo23 | (injection eo23 with ea_ en_ ec_; (first | subst ea_ | (injection ea_ with ea_; subst ea_)); subst ec_; clear en_)); have GB23 := Aside0.mk gb23; have GG23 := Aside0.mk HG23; clear gb23 gl23 HG23; obtain ⟨hx23_0, hf23_0⟩ := Kd.R_celln 0 HO_8.out (x32_1 : Int) p23 q23; replace p23 := eq_true p23; replace q23 := eq_true q23; obtain ⟨hy26_, hz26_⟩ := Kd.R_celln 0 HO_8.out (x32_1 : Int) (of_decide_eq_true (by first | (with_reducible assumption) | assumption)) (of_decide_eq_true (by first | (with_reducible assumption) | assumption)); have HP26 := Kd.R_putg HO_8.out (x32_1 : Int) t287) | ((with_reducible refine gate_store (t := 2) (p := 46) rfl ?_); refine store_event (t := 2) (p := 46) (v := ?vo_w27) (w1 := (w25.setCell ⟨go23, (x32_1 : Int).toNat, none⟩ (.int .i64 t287))) ?hg ?ho ?hn ?hr ?_; (case ho => rfl); (case hg => rfl); (case hn => rfl); (case hr => first | (go_simp; done) | (go_simp; rfl)); intro w27 hw; have hg : w25.grownBy w27 (some go23) := (by rw [hw]; exact HP26.2); have hp_ : Kd.R (Kd.int .i64) 2 w27 w.heap.size (fun _ => True) (.slice (some ⟨go23, 0, none⟩) x8_1.length co23) y289 := (by rw [hw, Ny289.out]; exact HP26.1); clear HP26; have n0_ := Aside0.mk (hp_); have n1_ := Aside0.mk (blk_grown (g := gb282) (o := .cells #[.slice A0_0 l0_0.length c0_0, .slice (some ad286) l0_1.length c0_1, .int .i64 a0_2] 76 (0, 0)) (by (with_reducible repeat (first | refine kkN ?_ _ | refine kkD ?_ | refine kkA ?_ _)); exact BK282.out) hg (Kd.R_ne HO_8.out BK282.out (by decide))); have n2_ := Aside0.mk ((by rw [hw]; exact below_set (HB.out) GB23.out : Below w.heap.size w w27)); clear HO_8; clear BK282; clear HB; have HO_8 := n0_; have BK282 := n1_; have HB := n2_; clear n0_ n1_ n2_; clear hg hw hp_))
             go_roundg k1
             case measure => have := HK1.out; omega
             case rel => exact ⟨(y289), (wrap64 (x32_1 + 1)), (by first | rfl | (simp; done) | (simp [*]; done)), H', ⟨by have := HK1.out; omega⟩, ⟨by (with_reducible repeat (first | apply rrA | apply rrN | apply rrD)); exact HO_8.out⟩, ⟨by (with_reducible repeat (first | refine kkN ?_ _ | refine kkD ?_ | refine kkA ?_ _)); exact BK282.out⟩, ⟨by repeat (first | (with_reducible first | exact HB.out | apply zzA | apply zzN | apply zzD | refine below_set ?_ GE282.out) | exact HB.out)⟩⟩
            ·
             rw [if_neg c24] at H
             have c24b0 : (t288 == 0) = false := beq_eq_false_iff_ne.mpr c24
             have c24b1 : (t288 != 0) = true := bne_iff_ne.mpr c24
             simp only [Option.some.injEq, Prod.mk.injEq] at H
             obtain ⟨rfl, rfl⟩ := H
             have p286 : 0 ≤ (x32_1 : Int) := of_decide_eq_true (by first | (with_reducible assumption) | assumption)
             have q286 : x32_1 < (l0_1.length : Int) := of_decide_eq_true (by first | (with_reducible assumption) | assumption)
             obtain ⟨ad286, A286_0, c286_0, e286, hx286_0, hl286_0, hi286_0⟩ := at_L1 HR0_1.out x32_1 p286 q286
             cases e286
             replace hx286_0 := (HB.out.cell (World.block_lt_of_cell? w _ hx286_0)).trans hx286_0
             have HR286_0 := Aside0.mk hi286_0
             have HC286_0 := Aside0.mk hl286_0
             clear hi286_0 hl286_0
             replace p286 := eq_true p286
             replace q286 := eq_true q286
             go_wp2_with (first | ((with_reducible refine gate_callee (f := 22) rfl ?_); refine goesL_ (some 43) rfl rfl Try.func22 (by kernel_rfl) rfl #[.slice A286_0 (rd_L1 l0_1 x32_1).length c286_0, .slice A1 l1.length c1, .int .i64 a2] rfl (by (try simp only [List.map_toArray, List.map_cons, List.map_nil]); first | done | rfl | (simp only [List.length_drop, List.length_take]; rfl)) ?_; (with_reducible refine (linear_Tell.calls _ _ (rd_L1 l0_1 x32_1) (fun k_ => k_ < w.heap.size) _ _ l1 a2 t287 t288 _ ?side1 ?side2 ?side3 A21.out).mono ?_); (case side1 => repeat (first | exact (Kd.C_below HR286_0.out HB.out) | (with_reducible refine ccA ?_ _) | (with_reducible refine ccN ?_ _) | (with_reducible refine ccD ?_))); (case side2 => exact HC286_0.out); (case side3 => exact Kd.V_mk HC1.out (Kd.F_below (Kd.C_F (Kd.heap_int .i64) HR1.out) (by repeat (first | (with_reducible first | exact HB.out | apply zzA | apply zzN | apply zzD | refine below_set ?_ GE282.out) | exact HB.out)))); rintro e w28 ⟨rfl, hb⟩; refine ⟨_, rfl, ?_⟩; have n0_ := Aside0.mk (Kd.R_below (by (with_reducible repeat (first | apply rrA | apply rrN | apply rrD)); exact HO_8.out) hb); have n1_ := Aside0.mk (blk_below (g := gb282) (o := .cells #[.slice A0_0 l0_0.length c0_0, .slice (some ad286) l0_1.length c0_1, .int .i64 a0_2] 76 (0, 0)) (by (with_reducible repeat (first | refine kkN ?_ _ | refine kkD ?_ | refine kkA ?_ _)); exact BK282.out) hb); have n2_ := Aside0.mk (zzT (by repeat (first | (with_reducible first | exact HB.out | apply zzA | apply zzN | apply zzD | refine below_set ?_ GE282.out) | exact HB.out)) hb); clear HO_8; clear BK282; clear HB; have HO_8 := n0_; have BK282 := n1_; have HB := n2_; clear n0_ n1_ n2_; (try clear hb); (try clear hb2); (try clear hk); (try clear hi); have p23 : 0 ≤ (x32_1 : Int) := of_decide_eq_true (by first | (with_reducible assumption) | assumption); have q23 : (x32_1 : Int) < ((x8_1.length : Int) : Int) := of_decide_eq_true (by first | (with_reducible assumption) | assumption); obtain ⟨go23, co23, eo23, gb23, gl23, cl23, HG23⟩ := Kd.R_form HO_8.out (by omega); (first | cases eo23 | (injection eo23 with ea_ en_ ec_; (first | subst ea_ | (injection ea_ with ea_; subst ea_)); subst ec_; clear en_)); have GB23 := Aside0.mk gb23; have GG23 := Aside0.mk HG23; clear gb23 gl23 HG23; obtain ⟨hx23_0, hf23_0⟩ := Kd.R_celln 0 HO_8.out (x32_1 : Int) p23 q23; replace p23 := eq_true p23; replace q23 := eq_true q23; obtain ⟨hy29_, hz29_⟩ := Kd.R_celln 0 HO_8.out (x32_1 : Int) (of_decide_eq_true (by first | (with_reducible assumption) | assumption)) (of_decide_eq_true (by first | (with_reducible assumption) | assumption)); have HP29 := Kd.R_putg HO_8.out (x32_1 : Int) t287) | ((with_reducible refine gate_store (t := 2) (p := 46) rfl ?_); refine store_event (t := 2) (p := 46) (v := ?vo_w30) (w1 := (w28.setCell ⟨go23, (x32_1 : Int).toNat, none⟩ (.int .i64 t287))) ?hg ?ho ?hn ?hr ?_; (case ho => rfl); (case hg => rfl); (case hn => rfl); (case hr => first | (go_simp; done) | (go_simp; rfl)); intro w30 hw; have hg : w28.grownBy w30 (some go23) := (by rw [hw]; exact HP29.2); have hp_ : Kd.R (Kd.int .i64) 2 w30 w.heap.size (fun _ => True) (.slice (some ⟨go23, 0, none⟩) x8_1.length co23) y289 := (by rw [hw, Ny289.out]; exact HP29.1); clear HP29; have n0_ := Aside0.mk (hp_); have n1_ := Aside0.mk (blk_grown (g := gb282) (o := .cells #[.slice A0_0 l0_0.length c0_0, .slice (some ad286) l0_1.length c0_1, .int .i64 a0_2] 76 (0, 0)) (by (with_reducible repeat (first | refine kkN ?_ _ | refine kkD ?_ | refine kkA ?_ _)); exact BK282.out) hg (Kd.R_ne HO_8.out BK282.out (by decide))); have n2_ := Aside0.mk ((by rw [hw]; exact below_set (HB.out) GB23.out : Below w.heap.size w w30)); clear HO_8; clear BK282; clear HB; have HO_8 := n0_; have BK282 := n1_; have HB := n2_; clear n0_ n1_ n2_; clear hg hw hp_))
             go_ret2
             exact ⟨_, by first | rfl | (simp [errW_none, errW_some] <;> rfl) | (simp [*, errW_none, errW_some] <;> rfl), by first | exact Kd.R_nil _ _ _ _ _ | exact Kd.N_nil _ _ _ _ _ | exact Kd.V_nil _ _ _ _ _ | exact Kd.Q_nil _ _ _ _ _ | exact Kd.S_nil _ _ _ _ _, by repeat (first | (with_reducible first | exact HB.out | apply zzA | apply zzN | apply zzD | refine below_set ?_ GE282.out) | exact HB.out)⟩
           ·
            rw [if_neg c22] at H
            exact absurd H (by simp)
          ·
           rw [if_neg c20] at H
           exact absurd H (by simp)
         ·
          rw [if_neg c19] at H
          exact absurd H (by simp)
        ·
         rw [if_neg c18] at H
         have c18b0 : decide (x32_1 < (l0_1.length : Int)) = false := decide_eq_false c18
         clear c18
         replace H := Option.bind_eq_some_iff.mp H
         obtain ⟨⟨t290, t291⟩, A310, H⟩ := H
         replace H : (some (t290, t291)) = some (r1, r2) := H
         have A31 := Aside0.mk A310
         clear A310
         simp only [Option.some.injEq, Prod.mk.injEq] at H
         obtain ⟨rfl, rfl⟩ := H
         obtain ⟨Ao32, co32, eo32⟩ := Kd.R_slice HO_8.out
         subst eo32
         go_wp2_with (first | ((with_reducible refine gate_callee (f := 93) rfl ?_); refine goesL_ (some 52) rfl rfl Try.func93 (by kernel_rfl) rfl #[.slice Ao32 x8_1.length co32] rfl (by (try simp only [List.map_toArray, List.map_cons, List.map_nil]); first | done | rfl | (simp only [List.length_drop, List.length_take]; rfl)) ?_; (with_reducible refine (mlp_Bend.calls _ _ x8_1 t290 t291 _ ?side1 ?side2 A31.out).mono ?_); (case side1 => repeat (first | exact (Kd.R_reads' HO_8.out).2.2 | (with_reducible refine ccA ?_ _) | (with_reducible refine ccN ?_ _) | (with_reducible refine ccD ?_))); (case side2 => exact (Kd.R_reads' HO_8.out).2.1); rintro e w33 ⟨v292, rfl, ho0, hb⟩; refine ⟨_, rfl, ?_⟩; have n0_ := Aside0.mk (Kd.R_elder' (by (with_reducible repeat (first | apply rrA | apply rrN | apply rrD)); exact HO_8.out) (Kd.R_base ho0) hb); have n1_ := Aside0.mk (Kd.R_lower (Kd.R_new' ho0 (Kd.R_lt (by (with_reducible repeat (first | apply rrA | apply rrN | apply rrD)); exact HO_8.out))) (zzS (by repeat (first | (with_reducible first | exact HB.out | apply zzA | apply zzN | apply zzD | refine below_set ?_ GE282.out) | exact HB.out)))); have n2_ := Aside0.mk (blk_below (g := gb282) (o := .cells #[.slice A0_0 l0_0.length c0_0, .slice A0_1 l0_1.length c0_1, .int .i64 a0_2] 76 (0, 0)) (by (with_reducible repeat (first | refine kkN ?_ _ | refine kkD ?_ | refine kkA ?_ _)); exact BK282.out) hb); have n3_ := Aside0.mk (zzT (by repeat (first | (with_reducible first | exact HB.out | apply zzA | apply zzN | apply zzD | refine below_set ?_ GE282.out) | exact HB.out)) hb); clear HO_8; clear BK282; clear HB; have HO_8 := n0_; have HO293 := n1_; have BK282 := n2_; have HB := n3_; clear n0_ n1_ n2_ n3_; (try clear hb); (try clear hb2); (try clear hk); (try clear hi); (try clear ho0)))
         go_ret2
         exact ⟨_, by first | rfl | (simp [errW_none, errW_some] <;> rfl) | (simp [*, errW_none, errW_some] <;> rfl), by (with_reducible repeat (first | apply rrA | apply rrN | apply rrD)); exact Kd.R_mono HO293.out (fun _ hk => trivial), by repeat (first | (with_reducible first | exact HB.out | apply zzA | apply zzN | apply zzD | refine below_set ?_ GE282.out) | exact HB.out)⟩
     ·
      rw [if_neg c12] at H
      exact absurd H (by simp)
    ·
     rw [if_neg c11] at H
     exact absurd H (by simp)
 ·
  rw [if_neg c4] at H
  have c4b0 : ((l1.length : Int) == a0_2) = false := beq_eq_false_iff_ne.mpr c4
  have c4b1 : ((l1.length : Int) != a0_2) = true := bne_iff_ne.mpr c4
  simp only [Option.some.injEq, Prod.mk.injEq] at H
  obtain ⟨rfl, rfl⟩ := H
  go_enter Try.func68, Try.ntmps68
  go_wp2_with (first | ((with_reducible refine gate_dst (N := 3) rfl ?_); refine box_event ?hg (N := 3) ?hd (cs := #[.slice A0_0 l0_0.length c0_0, .slice A0_1 l0_1.length c0_1, .int .i64 a0_2]) (t := 76) ?hr ?_; (case hd => rfl); (case hg => rfl); (case hr => first | (go_simp; done) | (go_simp; rfl)); intro gb282 hg w34 hbox hb; have n0_ := Aside0.mk (zzT (by repeat (first | (with_reducible first | exact HB.out | apply zzA | apply zzN | apply zzD) | exact HB.out)) hb); have n1_ := Aside0.mk (hbox); have n2_ := Aside0.mk ((by rw [hg]; exact (zzS (by repeat (first | (with_reducible first | exact HB.out | apply zzA | apply zzN | apply zzD) | exact HB.out))) : w.heap.size ≤ gb282)); have n3_ := Aside0.mk ((by rw [hg]; exact (zzS (by repeat (first | (with_reducible first | exact HB.out | apply zzA | apply zzN | apply zzD) | exact HB.out))) : w.heap.size ≤ gb282)); clear HB; have HB := n0_; have BK282 := n1_; have GW282 := n2_; have GE282 := n3_; clear n0_ n1_ n2_ n3_; clear hb hbox hg; have hcz35_0 : w34.cell? ⟨gb282, 0, none⟩ = some (.slice A0_0 l0_0.length c0_0) := (blk_cell BK282.out 0).trans rfl; have hcz35_1 : w34.cell? ⟨gb282, 1, none⟩ = some (.slice A0_1 l0_1.length c0_1) := (blk_cell BK282.out 1).trans rfl; have hcz35_2 : w34.cell? ⟨gb282, 2, none⟩ = some (.int .i64 a0_2) := (blk_cell BK282.out 2).trans rfl; have hfz35_0 := blk_frozen BK282.out 0; have hfz35_1 := blk_frozen BK282.out 1; have hfz35_2 := blk_frozen BK282.out 2))
  go_ret2
  exact ⟨_, by first | rfl | (simp [errW_none, errW_some] <;> rfl) | (simp [*, errW_none, errW_some] <;> rfl), by first | exact Kd.R_nil _ _ _ _ _ | exact Kd.N_nil _ _ _ _ _ | exact Kd.V_nil _ _ _ _ _ | exact Kd.Q_nil _ _ _ _ _ | exact Kd.S_nil _ _ _ _ _, by repeat (first | (with_reducible first | exact HB.out | apply zzA | apply zzN | apply zzD | refine below_set ?_ GE282.out) | exact HB.out)⟩

def mlp_net_hidden.f (l0_0 : List Int) (l0_1 : List (List Int)) (a0_2 : Int) (l1 : List Int) (a2 : Int) : Option (List Int × Int) := if V64 l1 ∧ (∀ r ∈ l0_1, V64 r) ∧ l0_1.length ≤ 4096 then some (hiddenM l0_1 a0_2 l1 a2) else none
theorem mlp_net_hidden.of (l0_0 : List Int) (l0_1 : List (List Int)) (a0_2 : Int) (l1 : List Int) (a2 : Int) (h : V64 l1 ∧ (∀ r ∈ l0_1, V64 r) ∧ l0_1.length ≤ 4096) : mlp_net_hidden.f l0_0 l0_1 a0_2 l1 a2 = some (hiddenM l0_1 a0_2 l1 a2) := if_pos h
theorem mlp_net_hiddenP.loop (x : List Int) (f : Int) (rows : List (List Int)) (hx : V64 x) (hrv : ∀ r ∈ rows, V64 r) (hb : rows.length ≤ 4096) : ∀ (d i : Nat) (acc : List Int), d + i = rows.length → acc.length = i →
    mlp_net_hiddenP.l0 (d + 1) x f (acc ++ List.replicate d 0) rows (rows.length : Int) (i : Int) = some (if (seqV ((rows.drop i).map fun row => tellL row x f)).2 = 0 then bendM (acc ++ (seqV ((rows.drop i).map fun row => tellL row x f)).1) else ([], (seqV ((rows.drop i).map fun row => tellL row x f)).2)) := by
  intro d
  induction d with
  | zero =>
    intro i acc hd ha
    rw [mlp_net_hiddenP.l0, if_neg (by omega), List.drop_eq_nil_of_le (by omega)]
    simp only [List.map_nil, seqV, if_true, List.append_nil, List.replicate_zero, mlp_Bend.f, Option.bind_some]
  | succ d ih =>
    intro i acc hd ha
    have hi : i < rows.length := by omega
    have hrd : rd_L1 rows (i : Int) = rows[i] := by unfold rd_L1; rw [Int.toNat_natCast, List.getD_eq_getElem?_getD, List.getElem?_eq_getElem hi, Option.getD_some]
    have hlen : ((acc ++ List.replicate (d + 1) (0 : Int)).length : Int) = rows.length := by rw [List.length_append, List.length_replicate]; omega
    rw [mlp_net_hiddenP.l0, if_pos (by omega), if_pos (by omega), if_pos (by omega), hrd, linear_Tell.of _ _ _ ⟨hrv _ (List.getElem_mem hi), hx⟩, Option.bind_some, if_pos (by omega), List.drop_eq_getElem_cons hi, List.map_cons]
    obtain ⟨⟨t, e⟩, hp⟩ : ∃ p, tellL rows[i] x f = p := ⟨_, rfl⟩
    rw [hp]
    simp only [seqV]
    by_cases c : e = 0
    · have hset : (acc ++ List.replicate (d + 1) (0 : Int)).set i t = (acc ++ [t]) ++ List.replicate d 0 := by
        rw [List.set_append_right _ _ (by omega), ha, Nat.sub_self, List.replicate_succ, List.set_cons_zero]
        simp
      rw [if_pos c, if_pos c, Int.toNat_natCast, hset, wrap64_of (by unfold I64; omega), show (i : Int) + 1 = ((i + 1 : Nat) : Int) by omega, ih (i + 1) _ (by omega) (by rw [List.length_append, List.length_singleton]; omega)]
      obtain ⟨⟨ys, e2⟩, hq⟩ : ∃ p, seqV ((rows.drop (i + 1)).map fun row => tellL row x f) = p := ⟨_, rfl⟩
      rw [hq]
      simp only []
      by_cases c2 : e2 = 0
      · rw [if_pos c2, if_pos c2, if_pos rfl, List.append_assoc]; rfl
      · rw [if_neg c2, if_neg c2, if_neg c2]
    · rw [if_neg c, if_neg c, if_neg c]
theorem mlp_net_hiddenP.is (l0_0 : List Int) (rows : List (List Int)) (inn : Int) (x : List Int) (f : Int) (hx : V64 x) (hrv : ∀ r ∈ rows, V64 r) (hb : rows.length ≤ 4096) : mlp_net_hiddenP.f (rows.length + 1) l0_0 rows inn x f = some (hiddenM rows inn x f) := by
  unfold mlp_net_hiddenP.f hiddenM
  by_cases c : (x.length : Int) = inn
  · rw [if_pos c, if_neg (not_not_intro c)]
    by_cases c1 : f < 0
    · rw [if_pos c1, if_pos (.inl c1)]
    · rw [if_neg c1]
      by_cases c2 : f > 30
      · rw [if_pos c2, if_pos (.inr c2)]
      · have h := mlp_net_hiddenP.loop x f rows hx hrv hb rows.length 0 [] (by omega) rfl
        rw [List.nil_append, List.drop_zero] at h
        simp only [List.nil_append] at h
        rw [if_neg c2, if_pos (show (0 : Int) ≤ (rows.length : Int) by omega), if_pos (show ((rows.length : Int)).toNat ≤ 35184372088832 by omega), Int.toNat_natCast, if_neg (show ¬ (f < 0 ∨ f > 30) by omega)]
        exact h
  · rw [if_neg c, if_pos c]
theorem mlp_net_hidden.calls (A0_0 : Option Addr) (c0_0 : Nat) (l0_0 : List Int) (A0_1 : Option Addr) (c0_1 : Nat) (l0_1 : List (List Int)) (a0_2 : Int) (A1 : Option Addr) (c1 : Nat) (l1 : List Int) (a2 : Int) (r1 : List Int) (r2 : Int) (w : World) (hr0_0 : Kd.C (Kd.int .i64) w A0_0 l0_0.length l0_0) (hc0_0 : l0_0.length ≤ c0_0) (hr0_1 : Kd.C (Kd.slice 2 (Kd.int .i64)) w A0_1 l0_1.length l0_1) (hc0_1 : l0_1.length ≤ c0_1) (hr1 : Kd.C (Kd.int .i64) w A1 l1.length l1) (hc1 : l1.length ≤ c1) (h : mlp_net_hidden.f l0_0 l0_1 a0_2 l1 a2 = some (r1, r2)) :
    Calls Try.prog 68 #[.agg #[.slice A0_0 l0_0.length c0_0, .slice A0_1 l0_1.length c0_1, .int .i64 a0_2], .slice A1 l1.length c1, .int .i64 a2] w fun e w' => ∃ v0_ : Value, e = .returned (.tuple #[v0_, .int .i64 r2]) ∧ Kd.R (Kd.int .i64) 2 w' w.heap.size (fun _ => True) v0_ r1 ∧ Below w.heap.size w w' := by
  unfold mlp_net_hidden.f at h
  split at h
  case isFalse => cases h
  rename_i hv
  exact mlp_net_hiddenP.calls (l0_1.length + 1) A0_0 c0_0 l0_0 A0_1 c0_1 l0_1 a0_2 A1 c1 l1 a2 r1 r2 w hr0_0 hc0_0 hr0_1 hc0_1 hr1 hc1 ((mlp_net_hiddenP.is l0_0 l0_1 a0_2 l1 a2 hv.1 hv.2.1 hv.2.2).trans h)


/-! ### mlp_net_tellP: function 41 -/
def mlp_net_tellP.f (l0_0 : List Int) (l0_1 : List (List Int)) (a0_2 : Int) (l1 : List Int) (a2 : Int) : Option (List Int × Int × Int) := (mlp_net_hidden.f l0_0 l0_1 a0_2 l1 a2).bind fun bt295 => (if bt295.2 = 0 then ((linear_Tell.f l0_0 bt295.1 a2).bind fun bt299 => (some (bt295.1, bt299.1, bt299.2))) else (some (([] : List Int), 0, bt295.2)))
set_option maxHeartbeats 8000000 in
set_option maxRecDepth 100000 in
theorem mlp_net_tellP.calls (A0_0 : Option Addr) (c0_0 : Nat) (l0_0 : List Int) (A0_1 : Option Addr) (c0_1 : Nat) (l0_1 : List (List Int)) (a0_2 : Int) (A1 : Option Addr) (c1 : Nat) (l1 : List Int) (a2 : Int) (r1 : List Int) (r2 : Int) (r3 : Int) (w : World) (hr0_0 : Kd.C (Kd.int .i64) w A0_0 l0_0.length l0_0) (hc0_0 : l0_0.length ≤ c0_0) (hr0_1 : Kd.C (Kd.slice 2 (Kd.int .i64)) w A0_1 l0_1.length l0_1) (hc0_1 : l0_1.length ≤ c0_1) (hr1 : Kd.C (Kd.int .i64) w A1 l1.length l1) (hc1 : l1.length ≤ c1) (h : mlp_net_tellP.f l0_0 l0_1 a0_2 l1 a2 = some (r1, r2, r3)) :
  Calls Try.prog 41 #[.agg #[.slice A0_0 l0_0.length c0_0, .slice A0_1 l0_1.length c0_1, .int .i64 a0_2], .slice A1 l1.length c1, .int .i64 a2] w fun e w' => ∃ v0_ : Value, e = .returned (.tuple #[v0_, .int .i64 r2, .int .i64 r3]) ∧ Kd.R (Kd.int .i64) 2 w' w.heap.size (fun _ => True) v0_ r1 ∧ Below w.heap.size w w' := by
 have hu76 := Try.underlying76
 have HR0_0 := Aside0.mk hr0_0
 have HC0_0 := Aside0.mk hc0_0
 clear hr0_0 hc0_0
 have HR0_1 := Aside0.mk hr0_1
 have HC0_1 := Aside0.mk hc0_1
 clear hr0_1 hc0_1
 have HR1 := Aside0.mk hr1
 have HC1 := Aside0.mk hc1
 clear hr1 hc1
 have HB := Aside0.mk (Below.refl w.heap.size w)
 have H : ((mlp_net_hidden.f l0_0 l0_1 a0_2 l1 a2).bind fun bt295 => (if bt295.2 = 0 then ((linear_Tell.f l0_0 bt295.1 a2).bind fun bt299 => (some (bt295.1, bt299.1, bt299.2))) else (some (([] : List Int), 0, bt295.2)))) = some (r1, r2, r3) := h
 clear h
 replace H := Option.bind_eq_some_iff.mp H
 obtain ⟨⟨t295, t298⟩, A40, H⟩ := H
 replace H : (if t298 = 0 then ((linear_Tell.f l0_0 t295 a2).bind fun bt299 => (some (t295, bt299.1, bt299.2))) else (some (([] : List Int), 0, t298))) = some (r1, r2, r3) := H
 have A4 := Aside0.mk A40
 clear A40
 by_cases c5 : t298 = 0
 ·
  rw [if_pos c5] at H
  have c5b0 : (t298 == 0) = true := beq_iff_eq.mpr c5
  have c5b1 : (t298 != 0) = false := bne_eq_false_iff_eq.mpr c5
  clear c5
  replace H := Option.bind_eq_some_iff.mp H
  obtain ⟨⟨t299, t300⟩, A60, H⟩ := H
  replace H : (some (t295, t299, t300)) = some (r1, r2, r3) := H
  have A6 := Aside0.mk A60
  clear A60
  simp only [Option.some.injEq, Prod.mk.injEq] at H
  obtain ⟨rfl, rfl, rfl⟩ := H
  go_enter Try.func41, Try.ntmps41
  go_wp2_with (first | ((with_reducible refine gate_dst (N := 3) rfl ?_); refine box_event ?hg (N := 3) ?hd (cs := #[.slice A0_0 l0_0.length c0_0, .slice A0_1 l0_1.length c0_1, .int .i64 a0_2]) (t := 76) ?hr ?_; (case hd => rfl); (case hg => rfl); (case hr => first | (go_simp; done) | (go_simp; rfl)); intro gb294 hg w7 hbox hb; have n0_ := Aside0.mk (zzT (by repeat (first | (with_reducible first | exact HB.out | apply zzA | apply zzN | apply zzD) | exact HB.out)) hb); have n1_ := Aside0.mk (hbox); have n2_ := Aside0.mk ((by rw [hg]; exact (zzS (by repeat (first | (with_reducible first | exact HB.out | apply zzA | apply zzN | apply zzD) | exact HB.out))) : w.heap.size ≤ gb294)); have n3_ := Aside0.mk ((by rw [hg]; exact (zzS (by repeat (first | (with_reducible first | exact HB.out | apply zzA | apply zzN | apply zzD) | exact HB.out))) : w.heap.size ≤ gb294)); clear HB; have HB := n0_; have BK294 := n1_; have GW294 := n2_; have GE294 := n3_; clear n0_ n1_ n2_ n3_; clear hb hbox hg; have hcz8_0 : w7.cell? ⟨gb294, 0, none⟩ = some (.slice A0_0 l0_0.length c0_0) := (blk_cell BK294.out 0).trans rfl; have hcz8_1 : w7.cell? ⟨gb294, 1, none⟩ = some (.slice A0_1 l0_1.length c0_1) := (blk_cell BK294.out 1).trans rfl; have hcz8_2 : w7.cell? ⟨gb294, 2, none⟩ = some (.int .i64 a0_2) := (blk_cell BK294.out 2).trans rfl; have hfz8_0 := blk_frozen BK294.out 0; have hfz8_1 := blk_frozen BK294.out 1; have hfz8_2 := blk_frozen BK294.out 2) | ((with_reducible refine gate_callee (f := 68) rfl ?_); refine goesL_ (some 16) rfl rfl Try.func68 (by kernel_rfl) rfl #[.agg #[.slice A0_0 l0_0.length c0_0, .slice A0_1 l0_1.length c0_1, .int .i64 a0_2], .slice A1 l1.length c1, .int .i64 a2] rfl (by (try simp only [List.map_toArray, List.map_cons, List.map_nil]); first | done | rfl | (simp only [List.length_drop, List.length_take]; rfl)) ?_; (with_reducible refine (mlp_net_hidden.calls _ _ l0_0 _ _ l0_1 a0_2 _ _ l1 a2 t295 t298 _ ?side1 ?side2 ?side3 ?side4 ?side5 ?side6 A4.out).mono ?_); (case side1 => repeat (first | exact (Kd.C_below HR0_0.out HB.out) | (with_reducible refine ccA ?_ _) | (with_reducible refine ccN ?_ _) | (with_reducible refine ccD ?_))); (case side2 => exact HC0_0.out); (case side3 => repeat (first | exact (Kd.C_below HR0_1.out HB.out) | (with_reducible refine ccA ?_ _) | (with_reducible refine ccN ?_ _) | (with_reducible refine ccD ?_))); (case side4 => exact HC0_1.out); (case side5 => repeat (first | exact (Kd.C_below HR1.out HB.out) | (with_reducible refine ccA ?_ _) | (with_reducible refine ccN ?_ _) | (with_reducible refine ccD ?_))); (case side6 => exact HC1.out); rintro e w9 ⟨v296, rfl, ho0, hb⟩; refine ⟨_, rfl, ?_⟩; have n0_ := Aside0.mk (Kd.R_lower ho0 (zzS (by repeat (first | (with_reducible first | exact HB.out | apply zzA | apply zzN | apply zzD | refine below_set ?_ GE294.out) | exact HB.out)))); have n1_ := Aside0.mk (blk_below (g := gb294) (o := .cells #[.slice A0_0 l0_0.length c0_0, .slice A0_1 l0_1.length c0_1, .int .i64 a0_2] 76 (0, 0)) (by (with_reducible repeat (first | refine kkN ?_ _ | refine kkD ?_ | refine kkA ?_ _)); exact BK294.out) hb); have n2_ := Aside0.mk (zzT (by repeat (first | (with_reducible first | exact HB.out | apply zzA | apply zzN | apply zzD | refine below_set ?_ GE294.out) | exact HB.out)) hb); clear BK294; clear HB; have HO297 := n0_; have BK294 := n1_; have HB := n2_; clear n0_ n1_ n2_; (try clear hb); (try clear hb2); (try clear hk); (try clear hi); (try clear ho0); have hcz10_0 : w9.cell? ⟨gb294, 0, none⟩ = some (.slice A0_0 l0_0.length c0_0) := (blk_cell BK294.out 0).trans rfl; have hcz10_1 : w9.cell? ⟨gb294, 1, none⟩ = some (.slice A0_1 l0_1.length c0_1) := (blk_cell BK294.out 1).trans rfl; have hcz10_2 : w9.cell? ⟨gb294, 2, none⟩ = some (.int .i64 a0_2) := (blk_cell BK294.out 2).trans rfl; have hfz10_0 := blk_frozen BK294.out 0; have hfz10_1 := blk_frozen BK294.out 1; have hfz10_2 := blk_frozen BK294.out 2; obtain ⟨Ao11, co11, eo11⟩ := Kd.R_slice HO297.out; subst eo11) | ((with_reducible refine gate_callee (f := 22) rfl ?_); refine goesL_ (some 28) rfl rfl Try.func22 (by kernel_rfl) rfl #[.slice A0_0 l0_0.length c0_0, .slice Ao11 t295.length co11, .int .i64 a2] rfl (by (try simp only [List.map_toArray, List.map_cons, List.map_nil]); first | done | rfl | (simp only [List.length_drop, List.length_take]; rfl)) ?_; (with_reducible refine (linear_Tell.calls _ _ l0_0 (fun k_ => some k_ = (.slice Ao11 t295.length co11 : Value).ownBlock) _ _ t295 a2 t299 t300 _ ?side1 ?side2 ?side3 A6.out).mono ?_); (case side1 => repeat (first | exact (Kd.C_below HR0_0.out HB.out) | (with_reducible refine ccA ?_ _) | (with_reducible refine ccN ?_ _) | (with_reducible refine ccD ?_))); (case side2 => exact HC0_0.out); (case side3 => exact Kd.R_V (Kd.R_tight rfl (Kd.R_types (HO297.out) BK294.out (by decide)))); rintro e w12 ⟨rfl, hb⟩; refine ⟨_, rfl, ?_⟩; have n0_ := Aside0.mk (Kd.R_below (by (with_reducible repeat (first | apply rrA | apply rrN | apply rrD)); exact HO297.out) hb); have n1_ := Aside0.mk (blk_below (g := gb294) (o := .cells #[.slice A0_0 l0_0.length c0_0, .slice A0_1 l0_1.length c0_1, .int .i64 a0_2] 76 (0, 0)) (by (with_reducible repeat (first | refine kkN ?_ _ | refine kkD ?_ | refine kkA ?_ _)); exact BK294.out) hb); have n2_ := Aside0.mk (zzT (by repeat (first | (with_reducible first | exact HB.out | apply zzA | apply zzN | apply zzD | refine below_set ?_ GE294.out) | exact HB.out)) hb); clear HO297; clear BK294; clear HB; have HO297 := n0_; have BK294 := n1_; have HB := n2_; clear n0_ n1_ n2_; (try clear hb); (try clear hb2); (try clear hk); (try clear hi)))
  go_ret3
  exact ⟨_, by first | rfl | (simp [errW_none, errW_some] <;> rfl) | (simp [*, errW_none, errW_some] <;> rfl), by (with_reducible repeat (first | apply rrA | apply rrN | apply rrD)); exact HO297.out, by repeat (first | (with_reducible first | exact HB.out | apply zzA | apply zzN | apply zzD | refine below_set ?_ GE294.out) | exact HB.out)⟩
 ·
  rw [if_neg c5] at H
  have c5b0 : (t298 == 0) = false := beq_eq_false_iff_ne.mpr c5
  have c5b1 : (t298 != 0) = true := bne_iff_ne.mpr c5
  simp only [Option.some.injEq, Prod.mk.injEq] at H
  obtain ⟨rfl, rfl, rfl⟩ := H
  go_enter Try.func41, Try.ntmps41
  go_wp2_with (first | ((with_reducible refine gate_dst (N := 3) rfl ?_); refine box_event ?hg (N := 3) ?hd (cs := #[.slice A0_0 l0_0.length c0_0, .slice A0_1 l0_1.length c0_1, .int .i64 a0_2]) (t := 76) ?hr ?_; (case hd => rfl); (case hg => rfl); (case hr => first | (go_simp; done) | (go_simp; rfl)); intro gb294 hg w13 hbox hb; have n0_ := Aside0.mk (zzT (by repeat (first | (with_reducible first | exact HB.out | apply zzA | apply zzN | apply zzD) | exact HB.out)) hb); have n1_ := Aside0.mk (hbox); have n2_ := Aside0.mk ((by rw [hg]; exact (zzS (by repeat (first | (with_reducible first | exact HB.out | apply zzA | apply zzN | apply zzD) | exact HB.out))) : w.heap.size ≤ gb294)); have n3_ := Aside0.mk ((by rw [hg]; exact (zzS (by repeat (first | (with_reducible first | exact HB.out | apply zzA | apply zzN | apply zzD) | exact HB.out))) : w.heap.size ≤ gb294)); clear HB; have HB := n0_; have BK294 := n1_; have GW294 := n2_; have GE294 := n3_; clear n0_ n1_ n2_ n3_; clear hb hbox hg; have hcz14_0 : w13.cell? ⟨gb294, 0, none⟩ = some (.slice A0_0 l0_0.length c0_0) := (blk_cell BK294.out 0).trans rfl; have hcz14_1 : w13.cell? ⟨gb294, 1, none⟩ = some (.slice A0_1 l0_1.length c0_1) := (blk_cell BK294.out 1).trans rfl; have hcz14_2 : w13.cell? ⟨gb294, 2, none⟩ = some (.int .i64 a0_2) := (blk_cell BK294.out 2).trans rfl; have hfz14_0 := blk_frozen BK294.out 0; have hfz14_1 := blk_frozen BK294.out 1; have hfz14_2 := blk_frozen BK294.out 2) | ((with_reducible refine gate_callee (f := 68) rfl ?_); refine goesL_ (some 16) rfl rfl Try.func68 (by kernel_rfl) rfl #[.agg #[.slice A0_0 l0_0.length c0_0, .slice A0_1 l0_1.length c0_1, .int .i64 a0_2], .slice A1 l1.length c1, .int .i64 a2] rfl (by (try simp only [List.map_toArray, List.map_cons, List.map_nil]); first | done | rfl | (simp only [List.length_drop, List.length_take]; rfl)) ?_; (with_reducible refine (mlp_net_hidden.calls _ _ l0_0 _ _ l0_1 a0_2 _ _ l1 a2 t295 t298 _ ?side1 ?side2 ?side3 ?side4 ?side5 ?side6 A4.out).mono ?_); (case side1 => repeat (first | exact (Kd.C_below HR0_0.out HB.out) | (with_reducible refine ccA ?_ _) | (with_reducible refine ccN ?_ _) | (with_reducible refine ccD ?_))); (case side2 => exact HC0_0.out); (case side3 => repeat (first | exact (Kd.C_below HR0_1.out HB.out) | (with_reducible refine ccA ?_ _) | (with_reducible refine ccN ?_ _) | (with_reducible refine ccD ?_))); (case side4 => exact HC0_1.out); (case side5 => repeat (first | exact (Kd.C_below HR1.out HB.out) | (with_reducible refine ccA ?_ _) | (with_reducible refine ccN ?_ _) | (with_reducible refine ccD ?_))); (case side6 => exact HC1.out); rintro e w15 ⟨v296, rfl, ho0, hb⟩; refine ⟨_, rfl, ?_⟩; have n0_ := Aside0.mk (Kd.R_lower ho0 (zzS (by repeat (first | (with_reducible first | exact HB.out | apply zzA | apply zzN | apply zzD | refine below_set ?_ GE294.out) | exact HB.out)))); have n1_ := Aside0.mk (blk_below (g := gb294) (o := .cells #[.slice A0_0 l0_0.length c0_0, .slice A0_1 l0_1.length c0_1, .int .i64 a0_2] 76 (0, 0)) (by (with_reducible repeat (first | refine kkN ?_ _ | refine kkD ?_ | refine kkA ?_ _)); exact BK294.out) hb); have n2_ := Aside0.mk (zzT (by repeat (first | (with_reducible first | exact HB.out | apply zzA | apply zzN | apply zzD | refine below_set ?_ GE294.out) | exact HB.out)) hb); clear BK294; clear HB; have HO297 := n0_; have BK294 := n1_; have HB := n2_; clear n0_ n1_ n2_; (try clear hb); (try clear hb2); (try clear hk); (try clear hi); (try clear ho0)))
  go_ret3
  exact ⟨_, by first | rfl | (simp [errW_none, errW_some] <;> rfl) | (simp [*, errW_none, errW_some] <;> rfl), by first | exact Kd.R_nil _ _ _ _ _ | exact Kd.N_nil _ _ _ _ _ | exact Kd.V_nil _ _ _ _ _ | exact Kd.Q_nil _ _ _ _ _ | exact Kd.S_nil _ _ _ _ _, by repeat (first | (with_reducible first | exact HB.out | apply zzA | apply zzN | apply zzD | refine below_set ?_ GE294.out) | exact HB.out)⟩

def mlp_net_tell.f (l0_0 : List Int) (l0_1 : List (List Int)) (a0_2 : Int) (l1 : List Int) (a2 : Int) : Option (List Int × Int × Int) := if V64 l0_0 ∧ V64 l1 ∧ (∀ r ∈ l0_1, V64 r) ∧ l0_1.length ≤ 4096 then some (ptellM l0_1 l0_0 a0_2 l1 a2) else none
theorem mlp_net_tell.of (l0_0 : List Int) (l0_1 : List (List Int)) (a0_2 : Int) (l1 : List Int) (a2 : Int) (h : V64 l0_0 ∧ V64 l1 ∧ (∀ r ∈ l0_1, V64 r) ∧ l0_1.length ≤ 4096) : mlp_net_tell.f l0_0 l0_1 a0_2 l1 a2 = some (ptellM l0_1 l0_0 a0_2 l1 a2) := if_pos h
theorem mlp_net_tellP.is (last : List Int) (rows : List (List Int)) (inn : Int) (x : List Int) (f : Int) (hl : V64 last) (hx : V64 x) (hrv : ∀ r ∈ rows, V64 r) (hb : rows.length ≤ 4096) : mlp_net_tellP.f last rows inn x f = some (ptellM rows last inn x f) := by
  unfold mlp_net_tellP.f ptellM
  rw [mlp_net_hidden.of _ _ _ _ _ ⟨hx, hrv, hb⟩, Option.bind_some]
  by_cases c : (hiddenM rows inn x f).2 = 0
  · rw [if_pos c, if_pos c, linear_Tell.of _ _ _ ⟨hl, hiddenM_v64 _ _ _ _⟩, Option.bind_some]
  · rw [if_neg c, if_neg c]
theorem mlp_net_tell.calls (A0_0 : Option Addr) (c0_0 : Nat) (l0_0 : List Int) (A0_1 : Option Addr) (c0_1 : Nat) (l0_1 : List (List Int)) (a0_2 : Int) (A1 : Option Addr) (c1 : Nat) (l1 : List Int) (a2 : Int) (r1 : List Int) (r2 : Int) (r3 : Int) (w : World) (hr0_0 : Kd.C (Kd.int .i64) w A0_0 l0_0.length l0_0) (hc0_0 : l0_0.length ≤ c0_0) (hr0_1 : Kd.C (Kd.slice 2 (Kd.int .i64)) w A0_1 l0_1.length l0_1) (hc0_1 : l0_1.length ≤ c0_1) (hr1 : Kd.C (Kd.int .i64) w A1 l1.length l1) (hc1 : l1.length ≤ c1) (h : mlp_net_tell.f l0_0 l0_1 a0_2 l1 a2 = some (r1, r2, r3)) :
    Calls Try.prog 41 #[.agg #[.slice A0_0 l0_0.length c0_0, .slice A0_1 l0_1.length c0_1, .int .i64 a0_2], .slice A1 l1.length c1, .int .i64 a2] w fun e w' => ∃ v0_ : Value, e = .returned (.tuple #[v0_, .int .i64 r2, .int .i64 r3]) ∧ Kd.R (Kd.int .i64) 2 w' w.heap.size (fun _ => True) v0_ r1 ∧ Below w.heap.size w w' := by
  unfold mlp_net_tell.f at h
  split at h
  case isFalse => cases h
  rename_i hv
  exact mlp_net_tellP.calls A0_0 c0_0 l0_0 A0_1 c0_1 l0_1 a0_2 A1 c1 l1 a2 r1 r2 r3 w hr0_0 hc0_0 hr0_1 hc0_1 hr1 hc1 ((mlp_net_tellP.is l0_0 l0_1 a0_2 l1 a2 hv.1 hv.2.1 hv.2.2.1 hv.2.2.2).trans h)


-- NOT PRINTED: function 67 (mlp_net_bend_1)

/-! ### mlp_net_bend: function 40 -/
set_option maxHeartbeats 4000000 in
set_option maxRecDepth 100000 in
theorem mlp_bend_1.calls (n0 be bf bg : Nat) (A0 : Option Addr) (c0 : Nat) (x : List Int) (b frac e : Int) (W : World) (g : Value) (gs : List Int)
    (hbe : W.heap[be]? = some (.cells #[.int .i64 e] 27 (0, 0))) (hbf : W.heap[bf]? = some (.cells #[.int .i64 frac] 3 (0, 0))) (hbg : W.heap[bg]? = some (.cells #[g] 26 (0, 0))) (h1 : n0 ≤ be) (h2 : n0 ≤ bg) (hn : n0 ≤ W.heap.size)
    (hG : Kd.R (Kd.int .i64) 2 W n0 (fun _ => True) g gs) (hr : Kd.C (Kd.int .i64) W A0 x.length x) (hc : x.length ≤ c0) (hv : V64 x ∧ I64 b) (hl : gs.length ≤ 100000) :
    Calls Try.prog 67 #[.slice A0 x.length c0, .int .i64 b, .pointer (some ⟨be, 0, none⟩), .pointer (some ⟨bf, 0, none⟩), .pointer (some ⟨bg, 0, none⟩)] W fun ed W' => ed = .returned (.tuple #[]) ∧ Below n0 W W' ∧
      (∀ k, k < W.heap.size → k ≠ be → k ≠ bg → some k ≠ g.ownBlock → W'.heap[k]? = W.heap[k]?) ∧
      ∃ g', W'.heap[be]? = some (.cells #[.int .i64 (addE e x b frac)] 27 (0, 0)) ∧ W'.heap[bg]? = some (.cells #[g'] 26 (0, 0)) ∧ Kd.R (Kd.int .i64) 2 W' n0 (fun _ => True) g' (addG e gs x b frac) ∧ (g'.ownBlock = g.ownBlock ∨ ∃ k, g'.ownBlock = some k ∧ W.heap.size ≤ k) := by
  have hce : W.cell? ⟨be, 0, none⟩ = some (.int .i64 e) := (blk_cell hbe 0).trans rfl
  have hcf : W.cell? ⟨bf, 0, none⟩ = some (.int .i64 frac) := (blk_cell hbf 0).trans rfl
  by_cases he : e = 0
  · subst he
    unfold addE addG
    rw [if_pos rfl, if_pos rfl]
    obtain ⟨⟨t, e⟩, ht⟩ : ∃ p, scaleV x b frac = p := ⟨_, rfl⟩
    have hlt := scaleV_lle x b frac
    rw [ht] at hlt ⊢
    simp only [] at hlt ⊢
    have A4 : Aside0 (vec_Scale.f x b frac = some (t, e)) := ⟨(vec_Scale.of _ _ _ hv).trans (congrArg some ht)⟩
    have hneg : be ≠ bg := blk_ne hbe hbg (by decide)
    have LT := Aside0.mk hlt
    have LG := Aside0.mk hl
    have HR := Aside0.mk hr
    have HC := Aside0.mk hc
    have BE := Aside0.mk hbe
    have BF := Aside0.mk hbf
    have BG := Aside0.mk hbg
    have HG := Aside0.mk hG
    have HN := Aside0.mk hn
    clear hlt hl hr hc hbe hbf hbg hG hv ht
    go_enter Try.func67, Try.ntmps67
    have H1 := Aside0.mk h1
    have H2 := Aside0.mk h2
    have NEG := Aside0.mk hneg
    go_wp2_with (first | (go_at_call 31; (with_reducible refine (vec_Scale.calls A0 c0 x b frac t e _ HR.out HC.out A4.out).mono ?_); rintro ed W2 ⟨v_, rfl, hR, hb⟩; obtain ⟨Av, cv, eve⟩ := Kd.R_slice hR; subst eve; have HV := Aside0.mk hR; have HB2 := Aside0.mk hb; clear hR hb; have hce2 : W2.cell? ⟨be, 0, none⟩ = some (.int .i64 0) := (blk_cell (blk_below BE.out HB2.out) 0).trans rfl; have hfe2 := blk_frozen (blk_below BE.out HB2.out) 0; have hcg2 : W2.cell? ⟨bg, 0, none⟩ = some g := (blk_cell (blk_below BG.out HB2.out) 0).trans rfl; have hfg2 := blk_frozen (blk_below BG.out HB2.out) 0; have hcg3 : (W2.setCell ⟨be, 0, none⟩ (.int .i64 e)).cell? ⟨bg, 0, none⟩ = some g := (blk_cell (blk_far (blk_below BG.out HB2.out) (p := ⟨be, 0, none⟩) (by show bg ≠ be; exact fun h => NEG.out h.symm) _) 0).trans rfl) | ((with_reducible refine gate_builtin (b := .append) (xs := #[.tmp 16, .tmp 17]) rfl ?_); at_builtin; refine Kd.R_append_rows (Kd.int .i64) (w0 := W) n0 rfl (.tmp 16) (.tmp 17) 26 2 (.int .i64 0) 8 rfl Try.underlying26 info2 rfl (by decide) (by omega) g gs t _ _ _ (fun _ => True) (fun _ => False) rfl rfl ?aO ?aR (fun _ _ h => h) (fun _ h => h.elim) ?aF ?aB ?aS ?aL ?_; (case aO => exact Kd.R_set (Kd.R_below HG.out HB2.out) (blk_below BE.out HB2.out) (by decide) 0 _); (case aR => exact (Kd.R_reads' (Kd.R_set HV.out (blk_below BE.out HB2.out) (by decide) 0 _)).2.2); (case aF => exact fun _ _ => trivial); (case aB => exact (below_then (Below.refl n0 W) HN.out HB2.out).setCell (p := ⟨be, 0, none⟩) H1.out _); (case aS => have := HN.out; have := HB2.out.size; simp; omega); (case aL => have := LG.out; have := LT.out; omega); intro v1 w4 ho hb hg hat; have HO4 := Aside0.mk ho; have HB4 := Aside0.mk hb; have HG4 := Aside0.mk hg; have HA4 := Aside0.mk hat; clear ho hb hg hat) | ((with_reducible refine gate_builtin (b := .append) (xs := #[.tmp 18, .tmp 20]) rfl ?_); at_builtin; refine Kd.R_append (Kd.int .i64) (w0 := W) n0 rfl (.tmp 18) (.tmp 20) 26 2 (.int .i64 0) 8 rfl Try.underlying26 info2 rfl (by decide) (by omega) v1 (gs ++ t) b [Value.int .i64 b] (fun _ => True) (fun _ => False) rfl rfl ?aP (fun _ hk => hk.elim) ?aF ?aO ?aB ?aS ?aL ?_; (case aP => exact rfl); (case aB => exact HB4.out); (case aF => exact (fun _ _ => trivial)); (case aO => exact HO4.out); (case aS => exact Nat.le_trans HN.out HB4.out.size); (case aL => have := LG.out; have := LT.out; rw [List.length_append]; omega); intro v5 w5 ho hb hg hat; have HO5 := Aside0.mk ho; have HB5 := Aside0.mk hb; have HG5 := Aside0.mk hg; have HA5 := Aside0.mk hat; clear ho hb hg hat; have hbg3 : (W2.setCell ⟨be, 0, none⟩ (.int .i64 e)).heap[bg]? = some (.cells #[g] 26 (0, 0)) := blk_far (blk_below BG.out HB2.out) (p := ⟨be, 0, none⟩) (fun h => NEG.out h.symm) _; have BG3 := Aside0.mk hbg3; have hg3 := Kd.R_set (Kd.R_below HG.out HB2.out) (blk_below BE.out HB2.out) (by decide) 0 (.int .i64 e); have HG3 := Aside0.mk hg3; have hbg5 := blk_grown (blk_grown hbg3 HG4.out (Kd.R_ne hg3 hbg3 (by decide))) HG5.out (Kd.R_ne HO4.out (blk_grown hbg3 HG4.out (Kd.R_ne hg3 hbg3 (by decide))) (by decide)); have BG5 := Aside0.mk hbg5; have hcg5 : w5.cell? ⟨bg, 0, none⟩ = some g := (blk_cell hbg5 0).trans rfl; have hfg5 := blk_frozen hbg5 0; clear hbg3 hg3 hbg5; obtain ⟨A5, c5, e5⟩ := Kd.R_slice HO5.out; generalize (gs ++ t ++ [b]).length = m5 at e5; subst e5))
    go_end0
    have hne : be ≠ bg := NEG.out
    have hbe3 := blk_set (blk_below BE.out HB2.out) 0 (.int .i64 e)
    have hbe5 := blk_grown (blk_grown hbe3 HG4.out (Kd.R_ne HG3.out hbe3 (by decide))) HG5.out (Kd.R_ne HO4.out (blk_grown hbe3 HG4.out (Kd.R_ne HG3.out hbe3 (by decide))) (by decide))
    refine ⟨rfl, HB5.out.setCell (p := ⟨bg, 0, none⟩) H2.out _, fun k hk h3 h4 h5 => ?_, _, blk_far hbe5 (p := ⟨bg, 0, none⟩) hne _, blk_set BG5.out 0 _, Kd.R_set HO5.out BG5.out (by decide) 0 _, ?_⟩
    · have hk2 : k < W2.heap.size := Nat.lt_of_lt_of_le hk HB2.out.size
      have hk3 : k < (W2.setCell ⟨be, 0, none⟩ (.int .i64 e)).heap.size := by simp; exact hk2
      have h6 : some k ≠ v1.ownBlock := fun h => by
        rcases HA4.out with h7 | ⟨q, h7, h8⟩
        · exact h5 (h.trans h7)
        · rw [h7] at h; injection h with h; omega
      have e1 := HB2.out.block k hk
      have e2 := Below.heap_setCell W2 ⟨be, 0, none⟩ (.int .i64 e) k h3
      have e3 := HG4.out.block k hk3 h5
      have hk4 : k < w4.heap.size := Nat.lt_of_lt_of_le hk3 HG4.out.size
      have e4 := HG5.out.block k hk4 h6
      exact (Below.heap_setCell w5 ⟨bg, 0, none⟩ _ k h4).trans (e4.trans (e3.trans (e2.trans e1)))
    · have hsz : W.heap.size ≤ w4.heap.size := Nat.le_trans HB2.out.size (by have := HG4.out.size; simp at this; exact this)
      rcases HA5.out with h7 | ⟨q, h7, h8⟩
      · rcases HA4.out with h9 | ⟨q, h9, h10⟩
        · exact .inl (h7.trans h9)
        · exact .inr ⟨q, h7.trans h9, Nat.le_trans HB2.out.size (by simpa using h10)⟩
      · exact .inr ⟨q, h7, Nat.le_trans hsz h8⟩
  · unfold addE addG
    rw [if_neg he, if_neg he]
    have he0 : (e == 0) = false := beq_eq_false_iff_ne.2 he
    have HG := Aside0.mk hG
    have BE := Aside0.mk hbe
    have BG := Aside0.mk hbg
    clear he hG hbe hbg hbf hr hc hv
    go_enter Try.func67, Try.ntmps67
    go_wp2
    go_end0
    exact ⟨rfl, Below.refl _ _, fun _ _ _ _ _ => rfl, g, BE.out, BG.out, HG.out, .inl rfl⟩
def mlp_net_bend.f (l0_0 : List Int) (l0_1 : List (List Int)) (a0_2 : Int) (l1_0 : List Int) (a1_1 a2 : Int) : Option (List Int × Int) := if V64 l0_0 ∧ V64 l1_0 ∧ (∀ r ∈ l0_1, V64 r) ∧ l0_1.length < l0_0.length ∧ l0_1.length ≤ 8 ∧ I64 a1_1 then some (bendN l0_1 l0_0 a0_2 l1_0 a1_1 a2) else none
theorem mlp_net_bend.of (l0_0 : List Int) (l0_1 : List (List Int)) (a0_2 : Int) (l1_0 : List Int) (a1_1 a2 : Int) (h : V64 l0_0 ∧ V64 l1_0 ∧ (∀ r ∈ l0_1, V64 r) ∧ l0_1.length < l0_0.length ∧ l0_1.length ≤ 8 ∧ I64 a1_1) : mlp_net_bend.f l0_0 l0_1 a0_2 l1_0 a1_1 a2 = some (bendN l0_1 l0_0 a0_2 l1_0 a1_1 a2) := if_pos h
set_option maxHeartbeats 8000000 in
set_option maxRecDepth 100000 in
theorem mlp_net_bend.calls (A0_0 : Option Addr) (c0_0 : Nat) (l0_0 : List Int) (A0_1 : Option Addr) (c0_1 : Nat) (l0_1 : List (List Int)) (a0_2 : Int) (A1_0 : Option Addr) (c1_0 : Nat) (l1_0 : List Int) (a1_1 : Int) (a2 : Int) (r1 : List Int) (r2 : Int) (w : World) (hr0_0 : Kd.C (Kd.int .i64) w A0_0 l0_0.length l0_0) (hc0_0 : l0_0.length ≤ c0_0) (hr0_1 : Kd.C (Kd.slice 2 (Kd.int .i64)) w A0_1 l0_1.length l0_1) (hc0_1 : l0_1.length ≤ c0_1) (hr1_0 : Kd.C (Kd.int .i64) w A1_0 l1_0.length l1_0) (hc1_0 : l1_0.length ≤ c1_0) (h : mlp_net_bend.f l0_0 l0_1 a0_2 l1_0 a1_1 a2 = some (r1, r2)) :
    Calls Try.prog 40 #[.agg #[.slice A0_0 l0_0.length c0_0, .slice A0_1 l0_1.length c0_1, .int .i64 a0_2], .agg #[.slice A1_0 l1_0.length c1_0, .int .i64 a1_1], .int .i64 a2] w fun e w' => ∃ v0_ : Value, e = .returned (.tuple #[v0_, .int .i64 r2]) ∧ Kd.R (Kd.int .i64) 2 w' w.heap.size (fun _ => True) v0_ r1 ∧ Below w.heap.size w w' := by
  unfold mlp_net_bend.f at h
  split at h
  case isFalse => cases h
  rename_i hv
  have h := Option.some.inj h
  have hu54 := Try.underlying76
  have hu52 := Try.underlying74
  have hu26 := Try.underlying37
  have hu22 := Try.underlying26
  obtain ⟨⟨hh, t, e⟩, hp⟩ : ∃ p, ptellM l0_1 l0_0 a0_2 l1_0 a2 = p := ⟨_, rfl⟩
  have AT := Aside0.mk ((mlp_net_tell.of _ _ _ _ _ ⟨hv.1, hv.2.1, hv.2.2.1, by omega⟩).trans (congrArg some hp))
  have hti : I64 t := by have := hp; unfold ptellM at this; split at this <;> (injection this with _ h2; injection h2 with h2 _; rw [← h2]; first | exact tellL_i64 _ _ _ | exact i64_zero)
  have hhv : V64 hh := by have := hp; unfold ptellM at this; split at this <;> (injection this with h2 _; rw [← h2]; first | exact hiddenM_v64 _ _ _ _ | (intro y hy; cases hy))
  have hlh : hh.length ≤ l0_1.length := by have := hp; unfold ptellM at this; split at this <;> (injection this with h2 _; rw [← h2]; first | exact hiddenM_lle _ _ _ _ | exact Nat.zero_le _)
  have HLH := Aside0.mk hlh
  clear hlh
  unfold bendN at h
  rw [hp] at h
  dsimp only at h
  obtain ⟨al, rfl, -⟩ := hr0_0.2.2 (by omega)
  obtain ⟨W0, hW0⟩ : ∃ W0, (((w.alloc (Obj.cells #[.slice (some al) l0_0.length c0_0, .slice A0_1 l0_1.length c0_1, .int .i64 a0_2] 76)).alloc (Obj.cells #[.slice A1_0 l1_0.length c1_0, .int .i64 a1_1] 37)).alloc (Obj.cells #[.int .i64 a2] 3)).alloc (Obj.cells #[.slice none 0 0] 26) = W0 := ⟨_, rfl⟩
  have hsz0 : W0.heap.size = w.heap.size + 4 := by rw [← hW0]; simp
  have hX : W0.heap[w.heap.size]? = some (Obj.cells #[.slice (some al) l0_0.length c0_0, .slice A0_1 l0_1.length c0_1, .int .i64 a0_2] 76 (0, 0)) := by rw [← hW0]; exact kkA (kkA (kkA (blk_new w _) _) _) _
  have hS : W0.heap[w.heap.size + 1]? = some (Obj.cells #[.slice A1_0 l1_0.length c1_0, .int .i64 a1_1] 37 (0, 0)) := by rw [← hW0]; have h := kkA (kkA (blk_new (w.alloc (Obj.cells #[.slice (some al) l0_0.length c0_0, .slice A0_1 l0_1.length c0_1, .int .i64 a0_2] 76)) (Obj.cells #[.slice A1_0 l1_0.length c1_0, .int .i64 a1_1] 37)) (Obj.cells #[.int .i64 a2] 3)) (Obj.cells #[.slice none 0 0] 26); simpa using h
  have hF : W0.heap[w.heap.size + 1 + 1]? = some (Obj.cells #[.int .i64 a2] 3 (0, 0)) := by rw [← hW0]; have h := kkA (blk_new ((w.alloc (Obj.cells #[.slice (some al) l0_0.length c0_0, .slice A0_1 l0_1.length c0_1, .int .i64 a0_2] 76)).alloc (Obj.cells #[.slice A1_0 l1_0.length c1_0, .int .i64 a1_1] 37)) (Obj.cells #[.int .i64 a2] 3)) (Obj.cells #[.slice none 0 0] 26); simpa using h
  have hG : W0.heap[w.heap.size + 1 + 1 + 1]? = some (Obj.cells #[.slice none 0 0] 26 (0, 0)) := by rw [← hW0]; have h := blk_new (((w.alloc (Obj.cells #[.slice (some al) l0_0.length c0_0, .slice A0_1 l0_1.length c0_1, .int .i64 a0_2] 76)).alloc (Obj.cells #[.slice A1_0 l1_0.length c1_0, .int .i64 a1_1] 37)).alloc (Obj.cells #[.int .i64 a2] 3)) (Obj.cells #[.slice none 0 0] 26); simpa using h
  have hB0 : Below w.heap.size w W0 := by rw [← hW0]; exact (((zzA (Below.refl w.heap.size w) _).alloc (by simp) _).alloc (by simp; omega) _).alloc (by simp; omega) _
  have HX := Aside0.mk hX
  have HS := Aside0.mk hS
  have HF := Aside0.mk hF
  have HG := Aside0.mk hG
  have HB0 := Aside0.mk hB0
  have HR00 := Aside0.mk hr0_0
  have HR01 := Aside0.mk hr0_1
  have HR1 := Aside0.mk hr1_0
  have HC00 := Aside0.mk hc0_0
  have HC01 := Aside0.mk hc0_1
  have HC1 := Aside0.mk hc1_0
  have HV := Aside0.mk hv
  have HTI := Aside0.mk hti
  have HHV := Aside0.mk hhv
  have HW0 := Aside0.mk hW0
  clear hX hS hF hG hB0 hr0_0 hr0_1 hr1_0 hc0_0 hc0_1 hc1_0 hv hti hhv hp
  by_cases ce : e = 0
  · subst ce
    rw [if_neg (not_not_intro rfl)] at h
    obtain ⟨⟨off, e1⟩, hoff⟩ : ∃ p, res (t - a1_1) = p := ⟨_, rfl⟩
    rw [hoff] at h
    dsimp only at h
    have AS := Aside0.mk ((fix_Sub.of t a1_1 ⟨HTI.out, HV.out.2.2.2.2.2⟩).trans (congrArg some hoff))
    have hofi : I64 off := by have := res_i64 (t - a1_1); rw [hoff] at this; exact this
    have HOF := Aside0.mk hofi
    clear hofi hoff
    by_cases ce1 : e1 = 0
    · subst ce1
      rw [if_neg (not_not_intro rfl)] at h
      have HH := Aside0.mk h
      clear h
      have hx0 := (blk_cell HX.out 0).trans rfl
      have hx1 := (blk_cell HX.out 1).trans rfl
      have hx2 := (blk_cell HX.out 2).trans rfl
      have hs0 := (blk_cell HS.out 0).trans rfl
      have hs1 := (blk_cell HS.out 1).trans rfl
      have hf0 := (blk_cell HF.out 0).trans rfl
      rw [← hW0] at hx0 hx1 hx2 hs0 hs1 hf0
      clear hW0 hsz0
      go_enter Try.func40, Try.ntmps40
      go_wp2_with (first | (go_at_call 41; rw [HW0.out]; (with_reducible refine (mlp_net_tell.calls (some al) c0_0 l0_0 A0_1 c0_1 l0_1 a0_2 A1_0 c1_0 l1_0 a2 hh t 0 W0 (Kd.C_below HR00.out HB0.out) HC00.out (Kd.C_below HR01.out HB0.out) HC01.out (Kd.C_below HR1.out HB0.out) HC1.out AT.out).mono ?_); rintro ed W2 ⟨v_, rfl, hR, hb⟩; obtain ⟨Ah, ch, eh⟩ := Kd.R_slice hR; subst eh; have HR := Aside0.mk hR; have HB2 := Aside0.mk hb; clear hR hb; have hs1b : (W2.alloc (Obj.cells #[.int .i64 0] 27)).cell? ⟨w.heap.size + 1, 1, none⟩ = some (.int .i64 a1_1) := (blk_cell (kkA (blk_below HS.out HB2.out) _) 1).trans rfl) | (go_at_call 59; (with_reducible refine (fix_Sub.calls t a1_1 off 0 _ AS.out).mono ?_); rintro ed W3 ⟨rfl, ⟨nd, rfl⟩⟩))
      have hsz := HB2.out.size
      have hE0 := blk_new W2 (Obj.cells #[.int .i64 0] 27)
      have hE := blk_set (kkN hE0 nd) 0 (.int .i64 0)
      have hneX : w.heap.size ≠ W2.heap.size := by have := blk_lt (blk_below HX.out HB2.out); omega
      have hneS : w.heap.size + 1 ≠ W2.heap.size := by have := blk_lt (blk_below HS.out HB2.out); omega
      have hneF : w.heap.size + 1 + 1 ≠ W2.heap.size := by have := blk_lt (blk_below HF.out HB2.out); omega
      have hne : W2.heap.size ≠ w.heap.size + 1 + 1 + 1 := by have := blk_lt (blk_below HG.out HB2.out); omega
      have hX3 := blk_far (kkN (kkA (blk_below HX.out HB2.out) (Obj.cells #[.int .i64 0] 27)) nd) (p := ⟨W2.heap.size, 0, none⟩) hneX (.int .i64 0)
      have hS3 := blk_far (kkN (kkA (blk_below HS.out HB2.out) (Obj.cells #[.int .i64 0] 27)) nd) (p := ⟨W2.heap.size, 0, none⟩) hneS (.int .i64 0)
      have hF3 := blk_far (kkN (kkA (blk_below HF.out HB2.out) (Obj.cells #[.int .i64 0] 27)) nd) (p := ⟨W2.heap.size, 0, none⟩) hneF (.int .i64 0)
      have hG3 := blk_far (kkN (kkA (blk_below HG.out HB2.out) (Obj.cells #[.int .i64 0] 27)) nd) (p := ⟨W2.heap.size, 0, none⟩) hne.symm (.int .i64 0)
      have hH3 := Kd.R_set (rrN (rrA HR.out (Obj.cells #[.int .i64 0] 27)) nd) (kkN hE0 nd) (by decide) 0 (.int .i64 0)
      have hB3 := (zzN (zzA (below_then HB0.out HB0.out.size HB2.out) (Obj.cells #[.int .i64 0] 27)) nd).setCell (p := ⟨W2.heap.size, 0, none⟩) (by show w.heap.size ≤ W2.heap.size; exact Nat.le_trans HB0.out.size hsz) (.int .i64 0)
      have hsb : w.heap.size ≤ W2.heap.size := Nat.le_trans HB0.out.size hsz
      generalize World.setCell _ ⟨W2.heap.size, 0, none⟩ (.int .i64 0) = W3 at hE hX3 hS3 hF3 hG3 hH3 hB3 ⊢
      clear hE0 hs1b
      generalize W2.heap.size = be at hE hne hsb hneX hneS hneF ⊢
      have HE := Aside0.mk hE
      have HNE := Aside0.mk hne
      have HX3 := Aside0.mk hX3
      have HS3 := Aside0.mk hS3
      have HF3 := Aside0.mk hF3
      have HG3 := Aside0.mk hG3
      have HH3 := Aside0.mk hH3
      have HB3 := Aside0.mk hB3
      have HSB := Aside0.mk hsb
      have hqe : W3.cell? ⟨be, 0, none⟩ = some (.int .i64 0) := (blk_cell HE.out 0).trans rfl
      have hqg : W3.cell? ⟨w.heap.size + 1 + 1 + 1, 0, none⟩ = some (.slice none 0 0) := (blk_cell HG3.out 0).trans rfl
      have hfg := blk_frozen HG3.out 0
      clear hE hne hX3 hS3 hF3 hG3 hH3 hB3 hsb
      obtain ⟨SF, hSF⟩ : ∃ S, stepsM l0_0 l1_0 off a2 hh 0 0 [] = S := ⟨_, rfl⟩
      have HEND := Aside0.mk HH.out
      unfold endM at HEND
      have hhl : hh.length ≤ l0_1.length := HLH.out
      rw [hSF] at HEND
      have HSF := Aside0.mk hSF
      have HHL := Aside0.mk hhl
      clear hSF hhl
      go_loopw [41] (fun i W => ∃ (j : Nat) (e : Int) (gs : List Int) (g : Value), i = .int .i64 j ∧ Aside0 (j ≤ hh.length) ∧ Aside0 (gs.length ≤ j * 4097) ∧ Aside0 (stepsM l0_0 l1_0 off a2 (hh.drop j) j e gs = SF) ∧ Aside0 (W.heap[be]? = some (Obj.cells #[.int .i64 e] 27 (0, 0))) ∧ Aside0 (W.heap[w.heap.size]? = some (Obj.cells #[.slice (some al) l0_0.length c0_0, .slice A0_1 l0_1.length c0_1, .int .i64 a0_2] 76 (0, 0))) ∧ Aside0 (W.heap[w.heap.size + 1]? = some (Obj.cells #[.slice A1_0 l1_0.length c1_0, .int .i64 a1_1] 37 (0, 0))) ∧ Aside0 (W.heap[w.heap.size + 1 + 1]? = some (Obj.cells #[.int .i64 a2] 3 (0, 0))) ∧ Aside0 (W.heap[w.heap.size + 1 + 1 + 1]? = some (Obj.cells #[g] 26 (0, 0))) ∧ Aside0 (Kd.R (Kd.int .i64) 2 W w.heap.size (fun _ => True) g gs) ∧ Aside0 (Kd.R (Kd.int .i64) 2 W w.heap.size (fun q => some q ≠ g.ownBlock) (.slice Ah hh.length ch) hh) ∧ Aside0 (Below w.heap.size w W)) (fun i _ => hh.length - (intOf i).toNat)
      case atStart => exact ⟨0, 0, [], .slice none 0 0, rfl, ⟨Nat.zero_le _⟩, ⟨by simp⟩, ⟨by rw [List.drop_zero]; exact HSF.out⟩, HE, HX3, HS3, HF3, HG3, ⟨Kd.R_nil _ _ _ _ _⟩, ⟨Kd.R_mono (Kd.R_lower HH3.out HB0.out.size) (fun q _ => by simp [Value.ownBlock])⟩, HB3⟩
      case round =>
        obtain ⟨j, e, gs, g, rfl, ⟨hj⟩, ⟨hgl⟩, ⟨hst⟩, HE4, HX4, HS4, HF4, HG4, HR4, HH4, HB4⟩ := hrel
        clear HE HX3 HS3 HF3 HG3 HH3 HB3 hqe hqg hfg
        by_cases hlt : j < hh.length
        · obtain ⟨gh, hgh⟩ : ∃ gh, Ah = some ⟨gh, 0, none⟩ := by
            obtain ⟨gh, cap, he, _⟩ := Kd.R_form HH4.out (by omega)
            injection he with h1 _ _
            exact ⟨gh, h1⟩
          subst hgh
          have hcell := (Kd.R_celln 0 HH4.out (j : Int) (by omega) (by omega)).1
          rw [show rdOf 0 hh (j : Int) = rd hh j from rfl] at hcell
          simp only [Int.toNat_natCast] at hcell
          obtain ⟨n, hn⟩ : ∃ n, rd hh (j : Int) = n := ⟨_, rfl⟩
          rw [hn] at hcell
          rw [List.drop_eq_getElem_cons hlt, show hh[j] = n from (rd_nat hlt).symm.trans hn, stepsM] at hst
          have HGL := Aside0.mk hgl
          have HLT := Aside0.mk hlt
          have hce : wr.cell? ⟨be, 0, none⟩ = some (.int .i64 e) := (blk_cell HE4.out 0).trans rfl
          have hfe := blk_frozen HE4.out 0
          have hcs : wr.cell? ⟨w.heap.size + 1, 0, none⟩ = some (.slice A1_0 l1_0.length c1_0) := (blk_cell HS4.out 0).trans rfl
          by_cases cn : n > 0
          · by_cases cz : e = 0
            · subst cz
              obtain ⟨⟨bb, ee⟩, hm⟩ : ∃ p, mulF off (rd l0_0 j) a2 = p := ⟨_, rfl⟩
              have hby : byM l0_0 off a2 n j 0 = (bb, ee) := by unfold byM; rw [if_pos ⟨cn, rfl⟩, hm]
              rw [hby] at hst
              dsimp only at hst
              have HST := Aside0.mk hst
              have hjl : (j : Int) < l0_0.length := by have := HHL.out; have := HV.out.2.2.2.1; omega
              obtain ⟨al', hal, hql⟩ := Kd.at_int (Kd.C_below HR00.out HB4.out) (j : Int) (by omega) (by omega)
              injection hal with hal
              subst hal
              simp only [Int.toNat_natCast] at hql
              have hbi : I64 bb := by have := mulF_i64 off (rd l0_0 j) a2; rw [hm] at this; exact this
              have HBI := Aside0.mk hbi
              have AM := Aside0.mk ((fix_Mul.of off (rd l0_0 j) a2 ⟨HOF.out, HV.out.1.rd _⟩).trans (congrArg some hm))
              have hqx : wr.cell? ⟨w.heap.size, 0, none⟩ = some (.slice (some al) l0_0.length c0_0) := (blk_cell HX4.out 0).trans rfl
              have hqf : wr.cell? ⟨w.heap.size + 1 + 1, 0, none⟩ = some (.int .i64 a2) := (blk_cell HF4.out 0).trans rfl
              clear hst hby hm hbi hgl hj hn
              go_wp2
              refine start_ (n := 14) (S := fun w' => w'.cell? ⟨w.heap.size, 0, none⟩ = some (.slice (some al) l0_0.length c0_0) ∧ w'.cell? (al.add j) = some (.int .i64 (rd l0_0 j)) ∧ w'.cell? ⟨w.heap.size + 1 + 1, 0, none⟩ = some (.int .i64 a2)) (ds := [13]) #[false, false, false, false, false, false, false, false, false, false, false, false, false, false] (by kernel_rfl) rfl rfl ⟨hqx, hql, hqf⟩ (fun hHeld => ?_)
              refine pure_ (i := 0) (N := some 53) (v := ?_) (a' := ?_) #[true, false, false, false, false, false, false, false, false, false, false, false, false, false] rfl rfl (by kernel_rfl) (fun _ _ _ h => h) (Or.inl ⟨by rfl, ?_⟩) ?_ ?_
              rotate_left
              · intro w'
                go_simp
                with_reducible rfl
              rotate_left
              · simp only [Act.put, List.setIfInBounds_toArray, List.set_cons_zero, List.set_cons_succ, i64_w, i32_w]
                rfl
              refine pure_ (i := 1) (N := some 54) (v := ?_) (a' := ?_) #[true, true, false, false, false, false, false, false, false, false, false, false, false, false] rfl rfl (by kernel_rfl) (fun _ _ _ h => h) (Or.inl ⟨by rfl, ?_⟩) ?_ ?_
              rotate_left
              · intro w'
                go_simp
                with_reducible rfl
              rotate_left
              · simp only [Act.put, List.setIfInBounds_toArray, List.set_cons_zero, List.set_cons_succ, i64_w, i32_w]
                rfl
              refine pure_ (i := 2) (N := some 55) (v := ?_) (a' := ?_) #[true, true, true, false, false, false, false, false, false, false, false, false, false, false] rfl rfl (by kernel_rfl) (fun _ _ _ h => h) (Or.inl ⟨by rfl, ?_⟩) ?_ ?_
              rotate_left
              · intro w'
                go_simp
                with_reducible rfl
              rotate_left
              · simp only [Act.put, List.setIfInBounds_toArray, List.set_cons_zero, List.set_cons_succ, i64_w, i32_w]
                rfl
              refine pure_ (i := 4) (N := some 57) (v := ?_) (a' := ?_) #[true, true, true, false, true, false, false, false, false, false, false, false, false, false] rfl rfl (by kernel_rfl) (fun _ _ _ h => h) (Or.inl ⟨by rfl, ?_⟩) ?_ ?_
              rotate_left
              · intro w'
                go_simp
                with_reducible rfl
              rotate_left
              · simp only [Act.put, List.setIfInBounds_toArray, List.set_cons_zero, List.set_cons_succ, i64_w, i32_w]
                rfl
              refine take_ (i := 3) (N := some 56) (v := ?_) (a' := ?_) #[true, true, true, true, true, false, false, false, false, false, false, false, false, false] rfl rfl (by kernel_rfl) (fun _ _ _ h => h) (Or.inl ⟨by rfl, ?_⟩) hHeld ?_ ?_
              rotate_left
              · rintro w' ⟨s0, s1, s2⟩
                go_simp
                with_reducible rfl
              rotate_left
              · simp only [Act.put, List.setIfInBounds_toArray, List.set_cons_zero, List.set_cons_succ, i64_w, i32_w]
                rfl
              refine pure_ (i := 5) (N := some 58) (v := ?_) (a' := ?_) #[true, true, true, true, true, true, false, false, false, false, false, false, false, false] rfl rfl (by kernel_rfl) (fun _ _ _ h => h) (Or.inl ⟨by rfl, ?_⟩) ?_ ?_
              rotate_left
              · intro w'
                go_simp
                with_reducible rfl
              rotate_left
              · simp only [Act.put, List.setIfInBounds_toArray, List.set_cons_zero, List.set_cons_succ, i64_w, i32_w]
                rfl
              refine take_ (i := 6) (N := some 59) (v := ?_) (a' := ?_) #[true, true, true, true, true, true, true, false, false, false, false, false, false, false] rfl rfl (by kernel_rfl) (fun _ _ _ h => h) (Or.inl ⟨by rfl, ?_⟩) hHeld ?_ ?_
              rotate_left
              · rintro w' ⟨s0, s1, s2⟩
                go_simp
                with_reducible rfl
              rotate_left
              · simp only [Act.put, List.setIfInBounds_toArray, List.set_cons_zero, List.set_cons_succ, i64_w, i32_w]
                rfl
              refine take_ (i := 7) (N := some 60) (v := ?_) (a' := ?_) #[true, true, true, true, true, true, true, true, false, false, false, false, false, false] rfl rfl (by kernel_rfl) (fun _ _ _ h => h) (Or.inl ⟨by rfl, ?_⟩) hHeld ?_ ?_
              rotate_left
              · rintro w' ⟨s0, s1, s2⟩
                go_simp
                with_reducible rfl
              rotate_left
              · simp only [Act.put, List.setIfInBounds_toArray, List.set_cons_zero, List.set_cons_succ, i64_w, i32_w]
                rfl
              refine one_ (i := 8) (N := some 61) #[true, true, true, true, true, true, true, true, true, false, false, false, false, false] rfl rfl (by kernel_rfl) (by decide) (fun K hK => ?_)
              refine goes_ Try.func53 (by kernel_rfl) rfl #[.int .i64 off, .int .i64 (rd l0_0 j), .int .i64 a2] (by rfl) rfl rfl (by simp only [List.map_toArray, List.map_cons, List.map_nil]; rfl) ?_
              with_reducible refine (fix_Mul.calls off (rd l0_0 j) a2 bb ee _ AM.out).mono ?_
              rintro ed W5 ⟨rfl, hb5⟩
              refine ⟨_, rfl, ?_⟩
              have HBM := Aside0.mk hb5
              have hce5 : W5.cell? ⟨be, 0, none⟩ = some (.int .i64 0) := (blk_cell (blk_below (w := wr.drew) HE4.out hb5) 0).trans rfl
              have hfe5 := blk_frozen (blk_below (w := wr.drew) HE4.out hb5) 0
              clear hb5
              refine hK.out _ _ ⟨pw_cell_below HBM.out hqx, pw_cell_below HBM.out hql, pw_cell_below HBM.out hqf⟩ (fun hHeld => ?_)
              clear hK K
              refine norm_ (a' := ?_) ?_ ?_
              rotate_left
              · show Act.put _ (some 61) _ = _
                simp only [Act.put, List.setIfInBounds_toArray, List.set_cons_zero, List.set_cons_succ, i64_w, i32_w]
                rfl
              refine pure_ (i := 9) (N := some 52) (v := ?_) (a' := ?_) #[true, true, true, true, true, true, true, true, true, true, false, false, false, false] rfl rfl (by kernel_rfl) (fun _ _ _ h => h) (Or.inl ⟨by rfl, ?_⟩) ?_ ?_
              rotate_left
              · intro w'
                go_simp
                with_reducible rfl
              rotate_left
              · simp only [Act.put, List.setIfInBounds_toArray, List.set_cons_zero, List.set_cons_succ, i64_w, i32_w]
                rfl
              refine pure_ (i := 10) (N := some 62) (v := ?_) (a' := ?_) #[true, true, true, true, true, true, true, true, true, true, true, false, false, false] rfl rfl (by kernel_rfl) (fun _ _ _ h => h) (Or.inl ⟨by rfl, ?_⟩) ?_ ?_
              rotate_left
              · intro w'
                go_simp
                with_reducible rfl
              rotate_left
              · simp only [Act.put, List.setIfInBounds_toArray, List.set_cons_zero, List.set_cons_succ, i64_w, i32_w]
                rfl
              refine pure_ (i := 11) (N := some 63) (v := ?_) (a' := ?_) #[true, true, true, true, true, true, true, true, true, true, true, true, false, false] rfl rfl (by kernel_rfl) (fun _ _ _ h => h) (Or.inl ⟨by rfl, ?_⟩) ?_ ?_
              rotate_left
              · intro w'
                go_simp
                with_reducible rfl
              rotate_left
              · simp only [Act.put, List.setIfInBounds_toArray, List.set_cons_zero, List.set_cons_succ, i64_w, i32_w]
                rfl
              refine pure_ (i := 12) (N := some 15) (v := ?_) (a' := ?_) #[true, true, true, true, true, true, true, true, true, true, true, true, true, false] rfl rfl (by kernel_rfl) (fun _ _ _ h => h) (Or.inl ⟨by rfl, ?_⟩) ?_ ?_
              rotate_left
              · intro w'
                go_simp
                with_reducible rfl
              rotate_left
              · simp only [Act.put, List.setIfInBounds_toArray, List.set_cons_zero, List.set_cons_succ, i64_w, i32_w]
                rfl
              refine last_ (i := 13) (N := none) #[true, true, true, true, true, true, true, true, true, true, true, true, true, true] rfl rfl (by kernel_rfl) (by decide) (fun K hK => ?_)
              refine skip_ (w1 := ?_) (by rfl) rfl ?_ ?_
              rotate_left
              · go_simp
                rfl
              refine hK.out _ _ ?_
              clear hK K
              refine done_ (by kernel_rfl) ?_
              have HE5 := Aside0.mk (blk_set (blk_below (w := wr.drew) HE4.out HBM.out) 0 (.int .i64 ee))
              have HX5 := Aside0.mk (blk_far (blk_below (w := wr.drew) HX4.out HBM.out) (p := ⟨be, 0, none⟩) hneX (.int .i64 ee))
              have HS5 := Aside0.mk (blk_far (blk_below (w := wr.drew) HS4.out HBM.out) (p := ⟨be, 0, none⟩) hneS (.int .i64 ee))
              have HF5 := Aside0.mk (blk_far (blk_below (w := wr.drew) HF4.out HBM.out) (p := ⟨be, 0, none⟩) hneF (.int .i64 ee))
              have HG5 := Aside0.mk (blk_far (blk_below (w := wr.drew) HG4.out HBM.out) (p := ⟨be, 0, none⟩) (fun h => HNE.out h.symm) (.int .i64 ee))
              have HR5 := Aside0.mk (Kd.R_set (Kd.R_below (rrD HR4.out) HBM.out) (blk_below (w := wr.drew) HE4.out HBM.out) (by decide) 0 (.int .i64 ee))
              have HH5 := Aside0.mk (Kd.R_set (Kd.R_below (rrD HH4.out) HBM.out) (blk_below (w := wr.drew) HE4.out HBM.out) (by decide) 0 (.int .i64 ee))
              have HB5 := Aside0.mk ((below_then (below_drew HB4.out) HB4.out.size HBM.out).setCell (p := ⟨be, 0, none⟩) HSB.out (.int .i64 ee))
              generalize World.setCell W5 ⟨be, 0, none⟩ (.int .i64 ee) = WD at HE5 HX5 HS5 HF5 HG5 HR5 HH5 HB5 ⊢
              have hcs5 : WD.cell? ⟨w.heap.size + 1, 0, none⟩ = some (.slice A1_0 l1_0.length c1_0) := (blk_cell HS5.out 0).trans rfl
              go_wp2_with (go_at_call 67; refine (mlp_bend_1.calls w.heap.size be (w.heap.size + 1 + 1) (w.heap.size + 1 + 1 + 1) A1_0 c1_0 l1_0 bb a2 ee _ g gs HE5.out HF5.out HG5.out HSB.out (by omega) HB5.out.size HR5.out (Kd.C_below HR1.out HB5.out) HC1.out ⟨HV.out.2.1, HBI.out⟩ (by have := HGL.out; have := HHL.out; have := HLT.out; have := HV.out.2.2.2.2.1; omega)).mono ?_; rintro ed W6 ⟨rfl, hb6, hfr, g6, he6, hg6, hr6, hat6⟩)
              have hgl6 : (addG ee gs l1_0 bb a2).length ≤ (j + 1) * 4097 := by
                have := HGL.out
                unfold addG
                split
                · have h1 := scaleV_lle l1_0 bb a2
                  rw [List.length_append, List.length_append, List.length_singleton]
                  omega
                · omega
              have hbw := HB5.out.size
              have hlx := blk_lt HX5.out
              have hls := blk_lt HS5.out
              have hlf := blk_lt HF5.out
              have hng : ∀ {k : Nat} {cs : Array Value} {ty : Nat}, WD.heap[k]? = some (Obj.cells cs ty (0, 0)) → 2 ≠ ty → some k ≠ g.ownBlock := fun hk ht => Kd.R_ne HR5.out hk ht
              have hh6 : Kd.R (Kd.int .i64) 2 W6 w.heap.size (fun q => some q ≠ g6.ownBlock) (.slice (some ⟨gh, 0, none⟩) hh.length ch) hh := by
                have h1 := Kd.R_bound (Kd.R_tight2 rfl HH5.out)
                have hb1 := Kd.R_ne HH5.out HE5.out (by decide)
                have hb2 := Kd.R_ne HH5.out HG5.out (by decide)
                refine Kd.R_mono (Kd.R_step h1 (fun q hq hql => hfr q hql (fun h => hb1 (by rw [← h]; exact hq.1.1)) (fun h => hb2 (by rw [← h]; exact hq.1.1)) hq.1.2)) (fun q hq h => ?_)
                rcases hat6 with h7 | ⟨k', h7, h8⟩
                · exact hq.1.2 (h.trans h7)
                · rw [h7] at h; injection h with h; have := hq.2.2.1; omega
              have hmax := HHL.out
              have hrows := HV.out.2.2.2.2.1
              exact ⟨⟨j + 1, addE ee l1_0 bb a2, addG ee gs l1_0 bb a2, g6, by (try rw [wrap64_of (show I64 ((j : Int) + 1) by unfold I64; omega)]); rfl, ⟨HLT.out⟩, ⟨hgl6⟩, ⟨HST.out⟩, ⟨he6⟩, ⟨(hfr _ hlx (by omega) (by omega) (hng HX5.out (by decide))).trans HX5.out⟩, ⟨(hfr _ hls (by omega) (by omega) (hng HS5.out (by decide))).trans HS5.out⟩, ⟨(hfr _ hlf (by omega) (by omega) (hng HF5.out (by decide))).trans HF5.out⟩, ⟨hg6⟩, ⟨hr6⟩, ⟨hh6⟩, ⟨HB5.out.trans hb6⟩⟩, by (try rw [wrap64_of (show I64 ((j : Int) + 1) by unfold I64; omega)]); have := HLT.out; simp [intOf]; omega⟩
            · have hby : byM l0_0 off a2 n j e = (0, e) := by unfold byM; rw [if_neg (fun h => cz h.2)]
              rw [hby] at hst
              dsimp only at hst
              have HST := Aside0.mk hst
              have HBI := Aside0.mk i64_zero
              have cz0 : (e == 0) = false := beq_eq_false_iff_ne.2 cz
              have HE5 := HE4
              have HX5 := HX4
              have HS5 := HS4
              have HF5 := HF4
              have HG5 := HG4
              have HR5 := HR4
              have HH5 := HH4
              have HB5 := HB4
              clear hst hby cz hgl hj hn
              go_wp2_with (go_at_call 67; refine (mlp_bend_1.calls w.heap.size be (w.heap.size + 1 + 1) (w.heap.size + 1 + 1 + 1) A1_0 c1_0 l1_0 0 a2 e _ g gs HE5.out HF5.out HG5.out HSB.out (by omega) HB5.out.size HR5.out (Kd.C_below HR1.out HB5.out) HC1.out ⟨HV.out.2.1, HBI.out⟩ (by have := HGL.out; have := HHL.out; have := HLT.out; have := HV.out.2.2.2.2.1; omega)).mono ?_; rintro ed W6 ⟨rfl, hb6, hfr, g6, he6, hg6, hr6, hat6⟩)
              have hgl6 : (addG e gs l1_0 0 a2).length ≤ (j + 1) * 4097 := by
                have := HGL.out
                unfold addG
                split
                · have h1 := scaleV_lle l1_0 0 a2
                  rw [List.length_append, List.length_append, List.length_singleton]
                  omega
                · omega
              have hbw := HB5.out.size
              have hlx := blk_lt HX5.out
              have hls := blk_lt HS5.out
              have hlf := blk_lt HF5.out
              have hng : ∀ {k : Nat} {cs : Array Value} {ty : Nat}, wr.heap[k]? = some (Obj.cells cs ty (0, 0)) → 2 ≠ ty → some k ≠ g.ownBlock := fun hk ht => Kd.R_ne HR5.out hk ht
              have hh6 : Kd.R (Kd.int .i64) 2 W6 w.heap.size (fun q => some q ≠ g6.ownBlock) (.slice (some ⟨gh, 0, none⟩) hh.length ch) hh := by
                have h1 := Kd.R_bound (Kd.R_tight2 rfl HH5.out)
                have hb1 := Kd.R_ne HH5.out HE5.out (by decide)
                have hb2 := Kd.R_ne HH5.out HG5.out (by decide)
                refine Kd.R_mono (Kd.R_step h1 (fun q hq hql => hfr q hql (fun h => hb1 (by rw [← h]; exact hq.1.1)) (fun h => hb2 (by rw [← h]; exact hq.1.1)) hq.1.2)) (fun q hq h => ?_)
                rcases hat6 with h7 | ⟨k', h7, h8⟩
                · exact hq.1.2 (h.trans h7)
                · rw [h7] at h; injection h with h; have := hq.2.2.1; omega
              have hmax := HHL.out
              have hrows := HV.out.2.2.2.2.1
              exact ⟨⟨j + 1, addE e l1_0 0 a2, addG e gs l1_0 0 a2, g6, by (try rw [wrap64_of (show I64 ((j : Int) + 1) by unfold I64; omega)]); rfl, ⟨HLT.out⟩, ⟨hgl6⟩, ⟨HST.out⟩, ⟨he6⟩, ⟨(hfr _ hlx (by omega) (by omega) (hng HX5.out (by decide))).trans HX5.out⟩, ⟨(hfr _ hls (by omega) (by omega) (hng HS5.out (by decide))).trans HS5.out⟩, ⟨(hfr _ hlf (by omega) (by omega) (hng HF5.out (by decide))).trans HF5.out⟩, ⟨hg6⟩, ⟨hr6⟩, ⟨hh6⟩, ⟨HB5.out.trans hb6⟩⟩, by (try rw [wrap64_of (show I64 ((j : Int) + 1) by unfold I64; omega)]); have := HLT.out; simp [intOf]; omega⟩
          · have hby : byM l0_0 off a2 n j e = (0, e) := by unfold byM; rw [if_neg (fun h => cn h.1)]
            rw [hby] at hst
            dsimp only at hst
            have HST := Aside0.mk hst
            have HBI := Aside0.mk i64_zero
            have HE5 := HE4
            have HX5 := HX4
            have HS5 := HS4
            have HF5 := HF4
            have HG5 := HG4
            have HR5 := HR4
            have HH5 := HH4
            have HB5 := HB4
            clear hst hby hgl hj hn
            go_wp2_with (go_at_call 67; refine (mlp_bend_1.calls w.heap.size be (w.heap.size + 1 + 1) (w.heap.size + 1 + 1 + 1) A1_0 c1_0 l1_0 0 a2 e _ g gs HE5.out HF5.out HG5.out HSB.out (by omega) HB5.out.size HR5.out (Kd.C_below HR1.out HB5.out) HC1.out ⟨HV.out.2.1, HBI.out⟩ (by have := HGL.out; have := HHL.out; have := HLT.out; have := HV.out.2.2.2.2.1; omega)).mono ?_; rintro ed W6 ⟨rfl, hb6, hfr, g6, he6, hg6, hr6, hat6⟩)
            have hgl6 : (addG e gs l1_0 0 a2).length ≤ (j + 1) * 4097 := by
              have := HGL.out
              unfold addG
              split
              · have h1 := scaleV_lle l1_0 0 a2
                rw [List.length_append, List.length_append, List.length_singleton]
                omega
              · omega
            have hbw := HB5.out.size
            have hlx := blk_lt HX5.out
            have hls := blk_lt HS5.out
            have hlf := blk_lt HF5.out
            have hng : ∀ {k : Nat} {cs : Array Value} {ty : Nat}, wr.heap[k]? = some (Obj.cells cs ty (0, 0)) → 2 ≠ ty → some k ≠ g.ownBlock := fun hk ht => Kd.R_ne HR5.out hk ht
            have hh6 : Kd.R (Kd.int .i64) 2 W6 w.heap.size (fun q => some q ≠ g6.ownBlock) (.slice (some ⟨gh, 0, none⟩) hh.length ch) hh := by
              have h1 := Kd.R_bound (Kd.R_tight2 rfl HH5.out)
              have hb1 := Kd.R_ne HH5.out HE5.out (by decide)
              have hb2 := Kd.R_ne HH5.out HG5.out (by decide)
              refine Kd.R_mono (Kd.R_step h1 (fun q hq hql => hfr q hql (fun h => hb1 (by rw [← h]; exact hq.1.1)) (fun h => hb2 (by rw [← h]; exact hq.1.1)) hq.1.2)) (fun q hq h => ?_)
              rcases hat6 with h7 | ⟨k', h7, h8⟩
              · exact hq.1.2 (h.trans h7)
              · rw [h7] at h; injection h with h; have := hq.2.2.1; omega
            have hmax := HHL.out
            have hrows := HV.out.2.2.2.2.1
            exact ⟨⟨j + 1, addE e l1_0 0 a2, addG e gs l1_0 0 a2, g6, by (try rw [wrap64_of (show I64 ((j : Int) + 1) by unfold I64; omega)]); rfl, ⟨HLT.out⟩, ⟨hgl6⟩, ⟨HST.out⟩, ⟨he6⟩, ⟨(hfr _ hlx (by omega) (by omega) (hng HX5.out (by decide))).trans HX5.out⟩, ⟨(hfr _ hls (by omega) (by omega) (hng HS5.out (by decide))).trans HS5.out⟩, ⟨(hfr _ hlf (by omega) (by omega) (hng HF5.out (by decide))).trans HF5.out⟩, ⟨hg6⟩, ⟨hr6⟩, ⟨hh6⟩, ⟨HB5.out.trans hb6⟩⟩, by (try rw [wrap64_of (show I64 ((j : Int) + 1) by unfold I64; omega)]); have := HLT.out; simp [intOf]; omega⟩
        · have hjn : j = hh.length := by omega
          subst hjn
          rw [List.drop_length, stepsM] at hst
          subst hst
          have hend := HEND.out
          dsimp only at hend
          have hgl2 : gs.length ≤ 100000 := by have := HHL.out; have := HV.out.2.2.2.2.1; omega
          have HGL := Aside0.mk hgl2
          obtain ⟨e6, he6q⟩ : ∃ e6, addE e hh off a2 = e6 := ⟨_, rfl⟩
          obtain ⟨gs6, hg6q⟩ : ∃ gs6, addG e gs hh off a2 = gs6 := ⟨_, rfl⟩
          rw [he6q, hg6q] at hend
          have HQ1 := Aside0.mk he6q
          have HQ2 := Aside0.mk hg6q
          clear hgl hgl2 hj hlt he6q hg6q
          by_cases c6 : e6 = 0
          · rw [if_neg (not_not_intro c6)] at hend
            obtain ⟨h1, h2⟩ : gs6 = r1 ∧ 0 = r2 := by cases hend; exact ⟨rfl, rfl⟩
            subst h1
            subst h2
            subst c6
            clear hend
            go_wp2_with (go_at_call 67; refine (mlp_bend_1.calls w.heap.size be (w.heap.size + 1 + 1) (w.heap.size + 1 + 1 + 1) Ah ch hh off a2 e _ g gs HE4.out HF4.out HG4.out HSB.out (by omega) HB4.out.size HR4.out (Kd.R_reads' HH4.out).2.2 (Kd.R_reads' HH4.out).2.1 ⟨HHV.out, HOF.out⟩ HGL.out).mono ?_; rintro ed W3 ⟨rfl, hb6, hfr, g6, he6, hg6, hr6, hat6⟩; rw [HQ1.out] at he6; rw [HQ2.out] at hr6; have HE := Aside0.mk he6; have HG3 := Aside0.mk hg6; have HR6 := Aside0.mk hr6; have HB3 := Aside0.mk (HB4.out.trans hb6); have hce3 : W3.cell? ⟨be, 0, none⟩ = some (.int .i64 _) := (blk_cell he6 0).trans rfl; have hfg3 := blk_frozen hg6 0; clear hb6 hfr he6 hg6 hr6 hat6; obtain ⟨A6, c6', e6'⟩ := Kd.R_slice HR6.out; generalize List.length _ = m6 at e6'; subst e6'; have hcg3 : W3.cell? ⟨w.heap.size + 1 + 1 + 1, 0, none⟩ = some (.slice A6 m6 c6') := (blk_cell HG3.out 0).trans rfl)
            have hbf := blk_set HG3.out 0 (.slice A6 m6 c6')
            have hrf := Kd.R_set HR6.out HG3.out (by decide) 0 (.slice A6 m6 c6')
            have hBf := HB3.out.setCell (p := ⟨w.heap.size + 1 + 1 + 1, 0, none⟩) (by show w.heap.size ≤ w.heap.size + 1 + 1 + 1; omega) (.slice A6 m6 c6')
            generalize World.setCell W3 ⟨w.heap.size + 1 + 1 + 1, 0, none⟩ (.slice A6 m6 c6') = Wf at hbf hrf hBf ⊢
            have ef : Wf.cell? ⟨w.heap.size + 1 + 1 + 1, 0, none⟩ = some (.slice A6 m6 c6') := (blk_cell hbf 0).trans rfl
            (try simp only [Exit.inBlock, Exit.then])
            refine bodyPost_ret (v := .tuple #[.slice A6 m6 c6', .int .i64 0]) ?_ rfl ⟨_, rfl, hrf, hBf⟩
            simp [results, go_sem, hu22, ef]
          · rw [if_pos c6] at hend
            obtain ⟨h1, h2⟩ : [] = r1 ∧ e6 = r2 := by cases hend; exact ⟨rfl, rfl⟩
            subst h1
            subst h2
            have c60 : (e6 == 0) = false := beq_eq_false_iff_ne.2 c6
            have c61 : (e6 != 0) = true := bne_iff_ne.2 c6
            clear hend c6
            go_wp2_with (go_at_call 67; refine (mlp_bend_1.calls w.heap.size be (w.heap.size + 1 + 1) (w.heap.size + 1 + 1 + 1) Ah ch hh off a2 e _ g gs HE4.out HF4.out HG4.out HSB.out (by omega) HB4.out.size HR4.out (Kd.R_reads' HH4.out).2.2 (Kd.R_reads' HH4.out).2.1 ⟨HHV.out, HOF.out⟩ HGL.out).mono ?_; rintro ed W3 ⟨rfl, hb6, hfr, g6, he6, hg6, hr6, hat6⟩; rw [HQ1.out] at he6; rw [HQ2.out] at hr6; have HE := Aside0.mk he6; have HG3 := Aside0.mk hg6; have HR6 := Aside0.mk hr6; have HB3 := Aside0.mk (HB4.out.trans hb6); have hce3 : W3.cell? ⟨be, 0, none⟩ = some (.int .i64 _) := (blk_cell he6 0).trans rfl; have hfg3 := blk_frozen hg6 0; clear hb6 hfr he6 hg6 hr6 hat6; obtain ⟨A6, c6', e6'⟩ := Kd.R_slice HR6.out; generalize List.length _ = m6 at e6'; subst e6'; have hcg3 : W3.cell? ⟨w.heap.size + 1 + 1 + 1, 0, none⟩ = some (.slice A6 m6 c6') := (blk_cell HG3.out 0).trans rfl)
            have hqe : W3.cell? ⟨be, 0, none⟩ = some (.int .i64 e6) := (blk_cell HE.out 0).trans rfl
            have hfg := blk_frozen HG3.out 0
            refine start_ (n := 3) (S := fun w' => w'.cell? ⟨be, 0, none⟩ = some (.int .i64 e6)) (ds := []) #[false, false, false] (by kernel_rfl) rfl rfl (hqe) (fun hHeld => ?_)
            refine take_ (i := 0) (N := some 76) (v := ?_) (a' := ?_) #[true, false, false] rfl rfl (by kernel_rfl) (fun _ _ _ h => h) (Or.inl ⟨by rfl, ?_⟩) hHeld ?_ ?_
            rotate_left
            · intro w' s0
              go_simp
              with_reducible rfl
            rotate_left
            · simp only [Act.put, List.setIfInBounds_toArray, List.set_cons_zero, List.set_cons_succ, i64_w, i32_w]
              rfl
            refine one_ (i := 1) (N := none) #[true, true, false] rfl rfl (by kernel_rfl) (by decide) (fun K hK => ?_)
            refine skip_ (w1 := ?_) (by rfl) rfl ?_ ?_
            rotate_left
            · go_simp
              rfl
            refine hK.out _ _ ((blk_cell (blk_far HE.out (p := ⟨w.heap.size + 1 + 1 + 1, 0, none⟩) HNE.out _) 0).trans rfl) (fun hHeld => ?_)
            clear hK K
            refine pure_ (i := 2) (N := some 7) (v := ?_) (a' := ?_) #[true, true, true] rfl rfl (by kernel_rfl) (fun _ _ _ h => h) (Or.inl ⟨by rfl, ?_⟩) ?_ ?_
            rotate_left
            · intro w'
              go_simp
              with_reducible rfl
            rotate_left
            · simp only [Act.put, List.setIfInBounds_toArray, List.set_cons_zero, List.set_cons_succ, i64_w, i32_w]
              rfl
            refine done_ (by kernel_rfl) ?_
            go_wp2
            have hbf := blk_set HG3.out 0 (.slice none 0 0)
            have hBf := below_drew (HB3.out.setCell (p := ⟨w.heap.size + 1 + 1 + 1, 0, none⟩) (by show w.heap.size ≤ w.heap.size + 1 + 1 + 1; omega) (.slice none 0 0))
            have hbf : (World.drew (W3.setCell ⟨w.heap.size + 1 + 1 + 1, 0, none⟩ (.slice none 0 0))).heap[w.heap.size + 1 + 1 + 1]? = _ := hbf
            generalize World.drew (W3.setCell ⟨w.heap.size + 1 + 1 + 1, 0, none⟩ (.slice none 0 0)) = Wf at hbf hBf ⊢
            have ef : Wf.cell? ⟨w.heap.size + 1 + 1 + 1, 0, none⟩ = some (.slice none 0 0) := (blk_cell hbf 0).trans rfl
            (try simp only [Exit.inBlock, Exit.then])
            refine bodyPost_ret (v := .tuple #[.slice none 0 0, .int .i64 e6]) ?_ rfl ⟨_, rfl, Kd.R_nil _ _ _ _ _, hBf⟩
            simp [results, go_sem, hu22, ef]
    · rw [if_pos ce1] at h
      obtain ⟨h1, h2⟩ : [] = r1 ∧ e1 = r2 := by cases h; exact ⟨rfl, rfl⟩
      subst h1
      subst h2
      have he0 : (e1 == 0) = false := beq_eq_false_iff_ne.2 ce1
      have he1 : (e1 != 0) = true := bne_iff_ne.2 ce1
      clear h ce1
      have hx0 := (blk_cell HX.out 0).trans rfl
      have hx1 := (blk_cell HX.out 1).trans rfl
      have hx2 := (blk_cell HX.out 2).trans rfl
      have hs0 := (blk_cell HS.out 0).trans rfl
      have hs1 := (blk_cell HS.out 1).trans rfl
      have hf0 := (blk_cell HF.out 0).trans rfl
      rw [← hW0] at hx0 hx1 hx2 hs0 hs1 hf0
      clear hW0 hsz0
      go_enter Try.func40, Try.ntmps40
      go_wp2_with (first | (go_at_call 41; rw [HW0.out]; (with_reducible refine (mlp_net_tell.calls (some al) c0_0 l0_0 A0_1 c0_1 l0_1 a0_2 A1_0 c1_0 l1_0 a2 hh t 0 W0 (Kd.C_below HR00.out HB0.out) HC00.out (Kd.C_below HR01.out HB0.out) HC01.out (Kd.C_below HR1.out HB0.out) HC1.out AT.out).mono ?_); rintro ed W2 ⟨v_, rfl, hR, hb⟩; obtain ⟨Ah, ch, eh⟩ := Kd.R_slice hR; subst eh; have HR := Aside0.mk hR; have HB2 := Aside0.mk hb; clear hR hb; have hs1b : (W2.alloc (Obj.cells #[.int .i64 0] 27)).cell? ⟨w.heap.size + 1, 1, none⟩ = some (.int .i64 a1_1) := (blk_cell (kkA (blk_below HS.out HB2.out) _) 1).trans rfl) | (go_at_call 59; (with_reducible refine (fix_Sub.calls t a1_1 off e1 _ AS.out).mono ?_); rintro ed W3 ⟨rfl, ⟨nd, rfl⟩⟩))
      have hsz := HB2.out.size
      have hE0 := blk_new W2 (Obj.cells #[.int .i64 0] 27)
      have hE := blk_set (kkN hE0 nd) 0 (.int .i64 e1)
      have hneX : w.heap.size ≠ W2.heap.size := by have := blk_lt (blk_below HX.out HB2.out); omega
      have hneS : w.heap.size + 1 ≠ W2.heap.size := by have := blk_lt (blk_below HS.out HB2.out); omega
      have hneF : w.heap.size + 1 + 1 ≠ W2.heap.size := by have := blk_lt (blk_below HF.out HB2.out); omega
      have hne : W2.heap.size ≠ w.heap.size + 1 + 1 + 1 := by have := blk_lt (blk_below HG.out HB2.out); omega
      have hX3 := blk_far (kkN (kkA (blk_below HX.out HB2.out) (Obj.cells #[.int .i64 0] 27)) nd) (p := ⟨W2.heap.size, 0, none⟩) hneX (.int .i64 e1)
      have hS3 := blk_far (kkN (kkA (blk_below HS.out HB2.out) (Obj.cells #[.int .i64 0] 27)) nd) (p := ⟨W2.heap.size, 0, none⟩) hneS (.int .i64 e1)
      have hF3 := blk_far (kkN (kkA (blk_below HF.out HB2.out) (Obj.cells #[.int .i64 0] 27)) nd) (p := ⟨W2.heap.size, 0, none⟩) hneF (.int .i64 e1)
      have hG3 := blk_far (kkN (kkA (blk_below HG.out HB2.out) (Obj.cells #[.int .i64 0] 27)) nd) (p := ⟨W2.heap.size, 0, none⟩) hne.symm (.int .i64 e1)
      have hH3 := Kd.R_set (rrN (rrA HR.out (Obj.cells #[.int .i64 0] 27)) nd) (kkN hE0 nd) (by decide) 0 (.int .i64 e1)
      have hB3 := (zzN (zzA (below_then HB0.out HB0.out.size HB2.out) (Obj.cells #[.int .i64 0] 27)) nd).setCell (p := ⟨W2.heap.size, 0, none⟩) (by show w.heap.size ≤ W2.heap.size; exact Nat.le_trans HB0.out.size hsz) (.int .i64 e1)
      have hsb : w.heap.size ≤ W2.heap.size := Nat.le_trans HB0.out.size hsz
      generalize World.setCell _ ⟨W2.heap.size, 0, none⟩ (.int .i64 e1) = W3 at hE hX3 hS3 hF3 hG3 hH3 hB3 ⊢
      clear hE0 hs1b
      generalize W2.heap.size = be at hE hne hsb hneX hneS hneF ⊢
      have HE := Aside0.mk hE
      have HNE := Aside0.mk hne
      have HX3 := Aside0.mk hX3
      have HS3 := Aside0.mk hS3
      have HF3 := Aside0.mk hF3
      have HG3 := Aside0.mk hG3
      have HH3 := Aside0.mk hH3
      have HB3 := Aside0.mk hB3
      have HSB := Aside0.mk hsb
      have hqe : W3.cell? ⟨be, 0, none⟩ = some (.int .i64 e1) := (blk_cell HE.out 0).trans rfl
      have hqg : W3.cell? ⟨w.heap.size + 1 + 1 + 1, 0, none⟩ = some (.slice none 0 0) := (blk_cell HG3.out 0).trans rfl
      have hfg := blk_frozen HG3.out 0
      clear hE hne hX3 hS3 hF3 hG3 hH3 hB3 hsb
      refine start_ (n := 3) (S := fun w' => w'.cell? ⟨be, 0, none⟩ = some (.int .i64 e1)) (ds := []) #[false, false, false] (by kernel_rfl) rfl rfl (hqe) (fun hHeld => ?_)
      refine take_ (i := 0) (N := some 37) (v := ?_) (a' := ?_) #[true, false, false] rfl rfl (by kernel_rfl) (fun _ _ _ h => h) (Or.inl ⟨by rfl, ?_⟩) hHeld ?_ ?_
      rotate_left
      · intro w' s0
        go_simp
        with_reducible rfl
      rotate_left
      · simp only [Act.put, List.setIfInBounds_toArray, List.set_cons_zero, List.set_cons_succ, i64_w, i32_w]
        rfl
      refine one_ (i := 1) (N := none) #[true, true, false] rfl rfl (by kernel_rfl) (by decide) (fun K hK => ?_)
      refine skip_ (w1 := ?_) (by rfl) rfl ?_ ?_
      rotate_left
      · go_simp
        rfl
      refine hK.out _ _ ((blk_cell (blk_far HE.out (p := ⟨w.heap.size + 1 + 1 + 1, 0, none⟩) HNE.out _) 0).trans rfl) (fun hHeld => ?_)
      clear hK K
      refine pure_ (i := 2) (N := some 7) (v := ?_) (a' := ?_) #[true, true, true] rfl rfl (by kernel_rfl) (fun _ _ _ h => h) (Or.inl ⟨by rfl, ?_⟩) ?_ ?_
      rotate_left
      · intro w'
        go_simp
        with_reducible rfl
      rotate_left
      · simp only [Act.put, List.setIfInBounds_toArray, List.set_cons_zero, List.set_cons_succ, i64_w, i32_w]
        rfl
      refine done_ (by kernel_rfl) ?_
      go_wp2
      have hbf := blk_set HG3.out 0 (.slice none 0 0)
      have hBf := below_drew (HB3.out.setCell (p := ⟨w.heap.size + 1 + 1 + 1, 0, none⟩) (by show w.heap.size ≤ w.heap.size + 1 + 1 + 1; omega) (.slice none 0 0))
      have hbf : (World.drew (W3.setCell ⟨w.heap.size + 1 + 1 + 1, 0, none⟩ (.slice none 0 0))).heap[w.heap.size + 1 + 1 + 1]? = _ := hbf
      generalize World.drew (W3.setCell ⟨w.heap.size + 1 + 1 + 1, 0, none⟩ (.slice none 0 0)) = Wf at hbf hBf ⊢
      have ef : Wf.cell? ⟨w.heap.size + 1 + 1 + 1, 0, none⟩ = some (.slice none 0 0) := (blk_cell hbf 0).trans rfl
      (try simp only [Exit.inBlock, Exit.then])
      refine bodyPost_ret (v := .tuple #[.slice none 0 0, .int .i64 e1]) ?_ rfl ⟨_, rfl, Kd.R_nil _ _ _ _ _, hBf⟩
      simp [results, go_sem, hu22, ef]
  · rw [if_pos ce] at h
    obtain ⟨h1, h2⟩ : [] = r1 ∧ e = r2 := by cases h; exact ⟨rfl, rfl⟩
    subst h1
    subst h2
    have he0 : (e == 0) = false := beq_eq_false_iff_ne.2 ce
    have he1 : (e != 0) = true := bne_iff_ne.2 ce
    clear h ce
    have hx0 := (blk_cell HX.out 0).trans rfl
    have hx1 := (blk_cell HX.out 1).trans rfl
    have hx2 := (blk_cell HX.out 2).trans rfl
    have hs0 := (blk_cell HS.out 0).trans rfl
    have hs1 := (blk_cell HS.out 1).trans rfl
    have hf0 := (blk_cell HF.out 0).trans rfl
    rw [← hW0] at hx0 hx1 hx2 hs0 hs1 hf0
    clear hW0 hsz0
    go_enter Try.func40, Try.ntmps40
    go_wp2_with (go_at_call 41; rw [HW0.out]; (with_reducible refine (mlp_net_tell.calls (some al) c0_0 l0_0 A0_1 c0_1 l0_1 a0_2 A1_0 c1_0 l1_0 a2 hh t e W0 (Kd.C_below HR00.out HB0.out) HC00.out (Kd.C_below HR01.out HB0.out) HC01.out (Kd.C_below HR1.out HB0.out) HC1.out AT.out).mono ?_); rintro ed W2 ⟨v_, rfl, hR, hb⟩; obtain ⟨Ah, ch, eh⟩ := Kd.R_slice hR; subst eh; have HR := Aside0.mk hR; have HB2 := Aside0.mk hb; clear hR hb)
    have hsz := HB2.out.size
    have hE := blk_new W2 (Obj.cells #[.int .i64 e] 27)
    have hG3 := kkA (blk_below HG.out HB2.out) (Obj.cells #[.int .i64 e] 27)
    have hB3 := zzA (below_then HB0.out HB0.out.size HB2.out) (Obj.cells #[.int .i64 e] 27)
    have hne : W2.heap.size ≠ w.heap.size + 1 + 1 + 1 := by have := blk_lt (blk_below HG.out HB2.out); omega
    generalize World.alloc W2 (Obj.cells #[.int .i64 e] 27) = W3 at hE hG3 hB3 ⊢
    generalize W2.heap.size = be at hE hne ⊢
    have HE := Aside0.mk hE
    have HNE := Aside0.mk hne
    have HG3 := Aside0.mk hG3
    have HB3 := Aside0.mk hB3
    have hqe : W3.cell? ⟨be, 0, none⟩ = some (.int .i64 e) := (blk_cell HE.out 0).trans rfl
    have hqg : W3.cell? ⟨w.heap.size + 1 + 1 + 1, 0, none⟩ = some (.slice none 0 0) := (blk_cell HG3.out 0).trans rfl
    have hfg := blk_frozen HG3.out 0
    clear hE hne hG3 hB3
    refine start_ (n := 3) (S := fun w' => w'.cell? ⟨be, 0, none⟩ = some (.int .i64 e)) (ds := []) #[false, false, false] (by kernel_rfl) rfl rfl (hqe) (fun hHeld => ?_)
    refine take_ (i := 0) (N := some 27) (v := ?_) (a' := ?_) #[true, false, false] rfl rfl (by kernel_rfl) (fun _ _ _ h => h) (Or.inl ⟨by rfl, ?_⟩) hHeld ?_ ?_
    rotate_left
    · intro w' s0
      go_simp
      with_reducible rfl
    rotate_left
    · simp only [Act.put, List.setIfInBounds_toArray, List.set_cons_zero, List.set_cons_succ, i64_w, i32_w]
      rfl
    refine one_ (i := 1) (N := none) #[true, true, false] rfl rfl (by kernel_rfl) (by decide) (fun K hK => ?_)
    refine skip_ (w1 := ?_) (by rfl) rfl ?_ ?_
    rotate_left
    · go_simp
      rfl
    refine hK.out _ _ ((blk_cell (blk_far HE.out (p := ⟨w.heap.size + 1 + 1 + 1, 0, none⟩) HNE.out _) 0).trans rfl) (fun hHeld => ?_)
    clear hK K
    refine pure_ (i := 2) (N := some 7) (v := ?_) (a' := ?_) #[true, true, true] rfl rfl (by kernel_rfl) (fun _ _ _ h => h) (Or.inl ⟨by rfl, ?_⟩) ?_ ?_
    rotate_left
    · intro w'
      go_simp
      with_reducible rfl
    rotate_left
    · simp only [Act.put, List.setIfInBounds_toArray, List.set_cons_zero, List.set_cons_succ, i64_w, i32_w]
      rfl
    refine done_ (by kernel_rfl) ?_
    go_wp2
    have hbf := blk_set HG3.out 0 (.slice none 0 0)
    have hBf := below_drew (HB3.out.setCell (p := ⟨w.heap.size + 1 + 1 + 1, 0, none⟩) (by show w.heap.size ≤ w.heap.size + 1 + 1 + 1; omega) (.slice none 0 0))
    have hbf : (World.drew (W3.setCell ⟨w.heap.size + 1 + 1 + 1, 0, none⟩ (.slice none 0 0))).heap[w.heap.size + 1 + 1 + 1]? = _ := hbf
    generalize World.drew (W3.setCell ⟨w.heap.size + 1 + 1 + 1, 0, none⟩ (.slice none 0 0)) = Wf at hbf hBf ⊢
    have ef : Wf.cell? ⟨w.heap.size + 1 + 1 + 1, 0, none⟩ = some (.slice none 0 0) := (blk_cell hbf 0).trans rfl
    (try simp only [Exit.inBlock, Exit.then])
    refine bodyPost_ret (v := .tuple #[.slice none 0 0, .int .i64 e]) ?_ rfl ⟨_, rfl, Kd.R_nil _ _ _ _ _, hBf⟩
    simp [results, go_sem, hu22, ef]


end Go.Proofs.Ytbnfejaeekljcaa.HD
