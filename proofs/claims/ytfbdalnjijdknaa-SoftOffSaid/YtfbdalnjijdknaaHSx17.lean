/- What Go functions do, each as a plain Lean function with the same answers, and the proof of it, in every world: printed by the session's driver over the kit's print, with texts by hand. -/
import Derived.Test.YtfbdalnjijdknaaHSx0
import Derived.Test.YtfbdalnjijdknaaHSx1
import Derived.Test.YtfbdalnjijdknaaHSx12
import Derived.Test.YtfbdalnjijdknaaHSx16
namespace Go.Proofs.Ytfbdalnjijdknaa.HS
open Go.RowKit Go.Proofs.YtfbdalnjijdknaaW.PrintWords Go.Proofs.YtfbdalnjijdknaaW.PrintLast Go.Proofs.YtfbdalnjijdknaaW.PrintMore
attribute [local go_sem] max2_int min2_int max_two min_two max_three min_three max_four min_four   -- for this text's walks alone
open Go.Proofs.Ytfbdalnjijdknaa.Sp
attribute [local go_sem] Go.Proofs.Ytfbdalnjijdknaa.Sp.u64_not
set_option linter.unusedVariables false
set_option linter.unusedSimpArgs false

/-! ### thrumlaw15_SoftOff: function 21 -/
def thrumlaw15_SoftOff.l0 : Nat → Int → Int → Bool → Int → List Int → Int → Int → List Int → Int → Option (Bool)
 | 0, _, _, _, _, _, _, _, _, _ => none
 | k + 1, x0, x3, x9, x12, x44, x45, x46, x256000, x256001 => if x46 < x45 then (if 0 ≤ x46 then (if x46 < (x44.length : Int) then (if x46 = x256001 then (if (rd x44 x46) > 0 then (some false) else (if 0 ≤ x3 then (if (rd x44 x46) < (shl .i64 (-1) x3) then (some false) else (thrumlaw15_SoftOff.l0 k x0 x3 x9 (wrap64 (x12 + (rd x44 x46))) x44 x45 (wrap64 (x46 + 1)) x256000 x256001)) else (none))) else (if (rd x44 x46) < 0 then (some false) else (if 0 ≤ x3 then (if (rd x44 x46) > (shl .i64 1 x3) then (some false) else (thrumlaw15_SoftOff.l0 k x0 x3 x9 (wrap64 (x12 + (rd x44 x46))) x44 x45 (wrap64 (x46 + 1)) x256000 x256001)) else (none)))) else (none)) else (none)) else (if x9 = true then (if x12 ≤ 0 then (some (decide (x12 > (wrap64 (-x0))))) else (some false)) else (some false))
def thrumlaw15_SoftOff.f (k : Nat) (a0 : Int) (l1 : List Int) (l2_0 : List Int) (a2_1 : Int) (a3 : Int) : Option (Bool) := (thrumlaw15_live.f).bind fun t256 => (if t256 = true then ((thrumref14_Few.f l1 (([(⟨l2_0, a2_1⟩ : S26)] : List (S26)))).bind fun t260 => (if t260 = true then ((soft_Off.f a0 l1 l2_0 a2_1 a3).bind fun bt261 => (if bt261.2 = 0 then (if (bt261.1.length : Int) = a0 then (thrumlaw15_SoftOff.l0 k a0 a3 t256 0 bt261.1 (bt261.1.length : Int) 0 l2_0 a2_1) else (some false)) else (some ((bt261.1.length : Int) == 0)))) else (some t256))) else (some false))
theorem thrumlaw15_SoftOff.mono_l : ∀ k, (∀ y0 y1 y2 y3 y4 y5 y6 y7 y8, LeO (thrumlaw15_SoftOff.l0 k y0 y1 y2 y3 y4 y5 y6 y7 y8) (thrumlaw15_SoftOff.l0 (k + 1) y0 y1 y2 y3 y4 y5 y6 y7 y8))
 | 0 => fun _ _ _ _ _ _ _ _ _ r h => by simp [thrumlaw15_SoftOff.l0] at h
 | k + 1 => by
  have ih0 := thrumlaw15_SoftOff.mono_l k
  ·
   intro y0 y1 y2 y3 y4 y5 y6 y7 y8
   unfold thrumlaw15_SoftOff.l0
   repeat' first
   | (with_reducible exact ih0 _ _ _ _ _ _ _ _ _)
   | (with_reducible exact LeO.refl _)
   | (with_reducible exact LeO.none _)
   | (with_reducible refine LeO.ite ?_ ?_)
   | (with_reducible refine LeO.bind ?_ (fun _ => ?_))
   | exact ih0 _ _ _ _ _ _ _ _ _
   | exact LeO.none _
   | refine LeO.ite ?_ ?_
   | refine LeO.bind ?_ (fun _ => ?_)
theorem thrumlaw15_SoftOff.mono : ∀ a0 a1 a2 a3 a4 k, LeO (thrumlaw15_SoftOff.f k a0 a1 a2 a3 a4) (thrumlaw15_SoftOff.f (k + 1) a0 a1 a2 a3 a4) := by
 intro a0 a1 a2 a3 a4 k
 have ih0 := thrumlaw15_SoftOff.mono_l k
 unfold thrumlaw15_SoftOff.f
 repeat' first
   | (with_reducible exact ih0 _ _ _ _ _ _ _ _ _)
   | (with_reducible exact LeO.refl _)
   | (with_reducible exact LeO.none _)
   | (with_reducible refine LeO.ite ?_ ?_)
   | (with_reducible refine LeO.bind ?_ (fun _ => ?_))
   | exact ih0 _ _ _ _ _ _ _ _ _
   | exact LeO.none _
   | refine LeO.ite ?_ ?_
   | refine LeO.bind ?_ (fun _ => ?_)
set_option maxHeartbeats 80000000 in
set_option maxRecDepth 100000 in
theorem thrumlaw15_SoftOff.calls (k : Nat) (a0 : Int) (A1 : Option Addr) (c1 : Nat) (l1 : List Int) (P2_0_ : Nat → Prop) (A2_0 : Option Addr) (c2_0 : Nat) (l2_0 : List Int) (a2_1 : Int) (a3 : Int) (r : Bool) (w : World) (hr1 : Kd.C (Kd.int .i64) w A1 l1.length l1) (hc1 : l1.length ≤ c1) (hs2_0 : Kd.V (Kd.int .i64) 2 w w.heap.size (fun k_ => P2_0_ k_) (.slice A2_0 l2_0.length c2_0) l2_0) (h : thrumlaw15_SoftOff.f k a0 l1 l2_0 a2_1 a3 = some r) (hr_ : r = true) :
  Calls Try.prog 21 #[.int .i64 a0, .slice A1 l1.length c1, .agg #[.slice A2_0 l2_0.length c2_0, .int .i64 a2_1], .int .i64 a3] w fun e w' => e = .returned (.bool r) ∧ Below w.heap.size w w' := by
 have HR_ := Aside0.mk hr_
 clear hr_
 have hu26 := Try.underlying26
 have HR1 := Aside0.mk hr1
 have HC1 := Aside0.mk hc1
 clear hr1 hc1
 have HO2_0 := Aside0.mk (show Kd.V (Kd.int .i64) 2 w w.heap.size (fun k_ => (P2_0_ k_ ∨ w.heap.size ≤ k_)) (.slice A2_0 l2_0.length c2_0) l2_0 from Kd.V_mono hs2_0 (fun k_ hk => .inl hk))
 have HB := Aside0.mk (Below.refl w.heap.size w)
 have H : ((thrumlaw15_live.f).bind fun t256 => (if t256 = true then ((thrumref14_Few.f l1 (([(⟨l2_0, a2_1⟩ : S26)] : List (S26)))).bind fun t260 => (if t260 = true then ((soft_Off.f a0 l1 l2_0 a2_1 a3).bind fun bt261 => (if bt261.2 = 0 then (if (bt261.1.length : Int) = a0 then (thrumlaw15_SoftOff.l0 k a0 a3 t256 0 bt261.1 (bt261.1.length : Int) 0 l2_0 a2_1) else (some false)) else (some ((bt261.1.length : Int) == 0)))) else (some t256))) else (some false))) = some r := h
 clear h
 replace H := Option.bind_eq_some_iff.mp H
 obtain ⟨t256, A50, H⟩ := H
 replace H : (if t256 = true then ((thrumref14_Few.f l1 (([(⟨l2_0, a2_1⟩ : S26)] : List (S26)))).bind fun t260 => (if t260 = true then ((soft_Off.f a0 l1 l2_0 a2_1 a3).bind fun bt261 => (if bt261.2 = 0 then (if (bt261.1.length : Int) = a0 then (thrumlaw15_SoftOff.l0 k a0 a3 t256 0 bt261.1 (bt261.1.length : Int) 0 l2_0 a2_1) else (some false)) else (some ((bt261.1.length : Int) == 0)))) else (some t256))) else (some false)) = some r := H
 have A5 := Aside0.mk A50
 clear A50
 by_cases c6 : t256 = true
 ·
  subst c6
  have H1 : ((thrumref14_Few.f l1 (([(⟨l2_0, a2_1⟩ : S26)] : List (S26)))).bind fun t260 => (if t260 = true then ((soft_Off.f a0 l1 l2_0 a2_1 a3).bind fun bt261 => (if bt261.2 = 0 then (if (bt261.1.length : Int) = a0 then (thrumlaw15_SoftOff.l0 k a0 a3 true 0 bt261.1 (bt261.1.length : Int) 0 l2_0 a2_1) else (some false)) else (some ((bt261.1.length : Int) == 0)))) else (some true))) = some r := by rw [if_pos rfl] at H; exact H
  clear H
  have H := H1
  clear H1
  obtain ⟨y257, hy257⟩ : ∃ y_ : List (S26), y_ = (([(⟨l2_0, a2_1⟩ : S26)] : List (S26))) := ⟨_, rfl⟩
  replace H : ((thrumref14_Few.f l1 y257).bind fun t260 => (if t260 = true then ((soft_Off.f a0 l1 l2_0 a2_1 a3).bind fun bt261 => (if bt261.2 = 0 then (if (bt261.1.length : Int) = a0 then (thrumlaw15_SoftOff.l0 k a0 a3 true 0 bt261.1 (bt261.1.length : Int) 0 l2_0 a2_1) else (some false)) else (some ((bt261.1.length : Int) == 0)))) else (some true))) = some r := by first | (rw [hy257]; with_reducible exact H) | (have H2_ := (Option.bind_some _ _).symm.trans H; rw [hy257]; with_reducible exact H2_) | (have H2_ := (Option.bind_some _ _).symm.trans H; with_reducible exact H2_) | with_reducible exact H | (rw [hy257]; exact H) | exact H
  have Ny257 := Aside0.mk hy257
  clear hy257
  replace H := Option.bind_eq_some_iff.mp H
  obtain ⟨t260, A70, H⟩ := H
  replace H : (if t260 = true then ((soft_Off.f a0 l1 l2_0 a2_1 a3).bind fun bt261 => (if bt261.2 = 0 then (if (bt261.1.length : Int) = a0 then (thrumlaw15_SoftOff.l0 k a0 a3 true 0 bt261.1 (bt261.1.length : Int) 0 l2_0 a2_1) else (some false)) else (some ((bt261.1.length : Int) == 0)))) else (some true)) = some r := H
  have A7 := Aside0.mk A70
  clear A70
  by_cases c8 : t260 = true
  ·
   subst c8
   have H1 : ((soft_Off.f a0 l1 l2_0 a2_1 a3).bind fun bt261 => (if bt261.2 = 0 then (if (bt261.1.length : Int) = a0 then (thrumlaw15_SoftOff.l0 k a0 a3 true 0 bt261.1 (bt261.1.length : Int) 0 l2_0 a2_1) else (some false)) else (some ((bt261.1.length : Int) == 0)))) = some r := by rw [if_pos rfl] at H; exact H
   clear H
   have H := H1
   clear H1
   replace H := Option.bind_eq_some_iff.mp H
   obtain ⟨⟨t261, t264⟩, A90, H⟩ := H
   replace H : (if t264 = 0 then (if (t261.length : Int) = a0 then (thrumlaw15_SoftOff.l0 k a0 a3 true 0 t261 (t261.length : Int) 0 l2_0 a2_1) else (some false)) else (some ((t261.length : Int) == 0))) = some r := H
   have A9 := Aside0.mk A90
   clear A90
   by_cases c10 : t264 = 0
   ·
    rw [if_pos c10] at H
    have c10b0 : (t264 == 0) = true := beq_iff_eq.mpr c10
    have c10b1 : (t264 != 0) = false := bne_eq_false_iff_eq.mpr c10
    clear c10
    by_cases c11 : (t261.length : Int) = a0
    ·
     rw [if_pos c11] at H
     have c11b0 : ((t261.length : Int) == a0) = true := beq_iff_eq.mpr c11
     have c11b1 : ((t261.length : Int) != a0) = false := bne_eq_false_iff_eq.mpr c11
     clear c11
     have H' := Aside0.mk H
     clear H
     go_enter Try.func21, Try.ntmps21
     go_wp2_with (first | ((with_reducible refine gate_dst (N := 6) rfl ?_); (try (refine gate_guard (by rfl) ?_; dsimp only)); refine box_event ?hg (N := 6) ?hd (cs := #[.slice A2_0 l2_0.length c2_0, .int .i64 a2_1]) (t := 26) ?hr ?_; (case hd => rfl); (case hg => rfl); (case hr => first | (go_simp; done) | (go_simp; rfl)); intro gb255 hg w12 hbox hb; have n0_ := Aside0.mk (Kd.V_below (Kd.V_elderB (by (with_reducible repeat (first | apply Kd.V_alloc | apply Kd.V_drewN | apply Kd.V_drew)); exact HO2_0.out) gb255 (Nat.le_of_eq hg.symm)) hb); have n1_ := Aside0.mk (zzT (by repeat (first | (with_reducible first | exact HB.out | apply zzA | apply zzN | apply zzD) | exact HB.out)) hb); have n2_ := Aside0.mk (hbox); have n3_ := Aside0.mk ((by rw [hg]; exact (zzS (by repeat (first | (with_reducible first | exact HB.out | apply zzA | apply zzN | apply zzD) | exact HB.out))) : w.heap.size ≤ gb255)); have n4_ := Aside0.mk ((by rw [hg]; exact (zzS (by repeat (first | (with_reducible first | exact HB.out | apply zzA | apply zzN | apply zzD) | exact HB.out))) : w.heap.size ≤ gb255)); clear HO2_0; clear HB; have HO2_0 := n0_; have HB := n1_; have BK255 := n2_; have GW255 := n3_; have GE255 := n4_; clear n0_ n1_ n2_ n3_ n4_; clear hb hbox hg) | ((with_reducible refine gate_callee (f := 79) rfl ?_); refine goesL_ (some 15) rfl rfl Try.func79 (by kernel_rfl) rfl #[] rfl (by (try simp only [List.map_toArray, List.map_cons, List.map_nil]); first | done | rfl | (simp only [List.length_drop, List.length_take]; rfl)) ?_; (with_reducible refine (thrumlaw15_live.calls  true _ A5.out).mono ?_); rintro e w13 ⟨rfl, hb⟩; refine ⟨_, rfl, ?_⟩; have n0_ := Aside0.mk (Kd.V_below (by (with_reducible repeat (first | apply Kd.V_alloc | apply Kd.V_drewN | apply Kd.V_drew)); exact HO2_0.out) hb); have n1_ := Aside0.mk (blk_below (g := gb255) (o := .cells #[.slice A2_0 l2_0.length c2_0, .int .i64 a2_1] 26 (0, 0)) (by (with_reducible repeat (first | refine kkN ?_ _ | refine kkD ?_ | refine kkA ?_ _)); exact BK255.out) hb); have n2_ := Aside0.mk (zzT (by repeat (first | (with_reducible first | exact HB.out | apply zzA | apply zzN | apply zzD | refine below_set ?_ GE255.out) | exact HB.out)) hb); clear HO2_0; clear BK255; clear HB; have HO2_0 := n0_; have BK255 := n1_; have HB := n2_; clear n0_ n1_ n2_; (try clear hb); (try clear hb2); (try clear hk); (try clear hi); have hcz14_0 : w13.cell? ⟨gb255, 0, none⟩ = some (.slice A2_0 l2_0.length c2_0) := (blk_cell BK255.out 0).trans rfl; have hcz14_1 : w13.cell? ⟨gb255, 1, none⟩ = some (.int .i64 a2_1) := (blk_cell BK255.out 1).trans rfl; have hfz14_0 := blk_frozen BK255.out 0; have hfz14_1 := blk_frozen BK255.out 1) | ((with_reducible refine gate_dst (N := 20) rfl ?_); (try (refine gate_guard (by rfl) ?_; dsimp only)); refine Kd.N_lit k26 _ 26 ?hg (N' := 20) ?hd (xs := ([(⟨l2_0, a2_1⟩ : S26)] : List (S26))) (inner := [.slice A2_0 l2_0.length c2_0, .int .i64 a2_1]) (ok := (fun k_ => (P2_0_ k_ ∨ w.heap.size ≤ k_) ∧ k_ ≠ gb255)) (okp := (fun k_ => (P2_0_ k_ ∨ w.heap.size ≤ k_) ∧ k_ ≠ gb255)) ?hr ?hp (fun _ hk => hk) ((show ∀ k_, w13.heap.size ≤ k_ → (fun k_ => (P2_0_ k_ ∨ w.heap.size ≤ k_) ∧ k_ ≠ gb255) k_ from fun k_ hk => ⟨(.inr (Nat.le_trans (zzS (by repeat (first | (with_reducible first | exact HB.out | apply zzA | apply zzN | apply zzD | refine below_set ?_ GE255.out) | exact HB.out))) hk)), Kd.freshB (g := gb255) (o := .cells #[.slice A2_0 l2_0.length c2_0, .int .i64 a2_1] 26 (0, 0)) (by (with_reducible repeat (first | refine kkN ?_ _ | refine kkD ?_ | refine kkA ?_ _)); exact BK255.out) k_ hk⟩) _ (Nat.le_refl _)) (Below.refl _ _) (Nat.le_refl _) (by simp) ?_; (case hd => rfl); (case hg => rfl); (case hr => first | (go_simp; done) | (go_simp; rfl)); (case hp => exact (Reps.c2 (show Kd.FK k26 _ _ (⟨l2_0, a2_1⟩ : S26) [.slice A2_0 l2_0.length c2_0, .int .i64 a2_1] from (k26_mkF _ _ (⟨l2_0, a2_1⟩ : S26) (Kd.V_reads' (Kd.V_mono (ok' := (fun k_ => (P2_0_ k_ ∨ w.heap.size ≤ k_) ∧ k_ ≠ gb255)) (HO2_0.out) (fun k_ hk => ⟨hk.1, hk.2⟩))).2.1 (Kd.V_F (Kd.V_mono (ok' := (fun k_ => (P2_0_ k_ ∨ w.heap.size ≤ k_) ∧ k_ ≠ gb255)) (HO2_0.out) (fun k_ hk => ⟨hk.1, hk.2⟩))))) (Reps.none _ _))); intro v258 w15 ho16 hb hg_ hnew_; clear hg_ hnew_; (first | rw [← Ny257.out] at ho16 | (simp only [Int.reduceToNat] at ho16; rw [← Ny257.out] at ho16)); have n0_ := Aside0.mk (Kd.V_elder' (by (with_reducible repeat (first | apply Kd.V_alloc | apply Kd.V_drewN | apply Kd.V_drew)); exact HO2_0.out) (Kd.N_base ho16) hb); have n1_ := Aside0.mk (Kd.N_lower ho16 (zzS (by repeat (first | (with_reducible first | exact HB.out | apply zzA | apply zzN | apply zzD | refine below_set ?_ GE255.out) | exact HB.out)))); have n2_ := Aside0.mk (blk_below (g := gb255) (o := .cells #[.slice A2_0 l2_0.length c2_0, .int .i64 a2_1] 26 (0, 0)) (by (with_reducible repeat (first | refine kkN ?_ _ | refine kkD ?_ | refine kkA ?_ _)); exact BK255.out) hb); have n3_ := Aside0.mk (zzT (by repeat (first | (with_reducible first | exact HB.out | apply zzA | apply zzN | apply zzD | refine below_set ?_ GE255.out) | exact HB.out)) hb); clear HO2_0; clear BK255; clear HB; have HO2_0 := n0_; have HO259 := n1_; have BK255 := n2_; have HB := n3_; clear n0_ n1_ n2_ n3_; clear hb ho16; obtain ⟨Ao17, co17, eo17⟩ := Kd.N_slice HO259.out; subst eo17) | ((with_reducible refine gate_callee (f := 30) rfl ?_); refine goesL_ (some 21) rfl rfl Try.func30 (by kernel_rfl) rfl #[.slice A1 l1.length c1, .slice Ao17 y257.length co17] rfl (by (try simp only [List.map_toArray, List.map_cons, List.map_nil]); first | done | rfl | (simp only [List.length_drop, List.length_take]; rfl)) ?_; (with_reducible refine (thrumref14_Few.calls _ _ l1 _ _ y257 true _ ?side1 ?side2 ?side3 ?side4 A7.out).mono ?_); (case side1 => repeat (first | exact (Kd.C_below HR1.out HB.out) | (with_reducible refine ccA ?_ _) | (with_reducible refine ccN ?_ _) | (with_reducible refine ccD ?_))); (case side2 => exact HC1.out); (case side3 => repeat (first | exact (Kd.N_reads' HO259.out).2.2 | (with_reducible refine ccA ?_ _) | (with_reducible refine ccN ?_ _) | (with_reducible refine ccD ?_))); (case side4 => exact (Kd.N_reads' HO259.out).2.1); rintro e w18 ⟨rfl, hb⟩; refine ⟨_, rfl, ?_⟩; have n0_ := Aside0.mk (Kd.V_below (by (with_reducible repeat (first | apply Kd.V_alloc | apply Kd.V_drewN | apply Kd.V_drew)); exact HO2_0.out) hb); have n1_ := Aside0.mk (Kd.N_below (by (with_reducible repeat (first | apply Kd.N_alloc | apply Kd.N_drewN | apply Kd.N_drew)); exact HO259.out) hb); have n2_ := Aside0.mk (blk_below (g := gb255) (o := .cells #[.slice A2_0 l2_0.length c2_0, .int .i64 a2_1] 26 (0, 0)) (by (with_reducible repeat (first | refine kkN ?_ _ | refine kkD ?_ | refine kkA ?_ _)); exact BK255.out) hb); have n3_ := Aside0.mk (zzT (by repeat (first | (with_reducible first | exact HB.out | apply zzA | apply zzN | apply zzD | refine below_set ?_ GE255.out) | exact HB.out)) hb); clear HO2_0; clear HO259; clear BK255; clear HB; have HO2_0 := n0_; have HO259 := n1_; have BK255 := n2_; have HB := n3_; clear n0_ n1_ n2_ n3_; (try clear hb); (try clear hb2); (try clear hk); (try clear hi); have hcz19_0 : w18.cell? ⟨gb255, 0, none⟩ = some (.slice A2_0 l2_0.length c2_0) := (blk_cell BK255.out 0).trans rfl; have hcz19_1 : w18.cell? ⟨gb255, 1, none⟩ = some (.int .i64 a2_1) := (blk_cell BK255.out 1).trans rfl; have hfz19_0 := blk_frozen BK255.out 0; have hfz19_1 := blk_frozen BK255.out 1) | ((with_reducible refine gate_callee (f := 80) rfl ?_); refine goesL_ (some 29) rfl rfl Try.func80 (by kernel_rfl) rfl #[.int .i64 a0, .slice A1 l1.length c1, .agg #[.slice A2_0 l2_0.length c2_0, .int .i64 a2_1], .int .i64 a3] rfl (by (try simp only [List.map_toArray, List.map_cons, List.map_nil]); first | done | rfl | (simp only [List.length_drop, List.length_take]; rfl)) ?_; (with_reducible refine (soft_Off.calls a0 _ _ l1 _ _ l2_0 a2_1 a3 t261 t264 _ ?side1 ?side2 ?side3 ?side4 A9.out).mono ?_); (case side1 => repeat (first | exact (Kd.C_below HR1.out HB.out) | (with_reducible refine ccA ?_ _) | (with_reducible refine ccN ?_ _) | (with_reducible refine ccD ?_))); (case side2 => exact HC1.out); (case side3 => repeat (first | exact (Kd.V_reads' HO2_0.out).2.2 | (with_reducible refine ccA ?_ _) | (with_reducible refine ccN ?_ _) | (with_reducible refine ccD ?_))); (case side4 => exact (Kd.V_reads' HO2_0.out).2.1); rintro e w20 ⟨v262, rfl, ho0, hb⟩; refine ⟨_, rfl, ?_⟩; have n0_ := Aside0.mk (Kd.V_elder' (by (with_reducible repeat (first | apply Kd.V_alloc | apply Kd.V_drewN | apply Kd.V_drew)); exact HO2_0.out) (Kd.R_base ho0) hb); have n1_ := Aside0.mk (Kd.N_elder' (by (with_reducible repeat (first | apply Kd.N_alloc | apply Kd.N_drewN | apply Kd.N_drew)); exact HO259.out) (Kd.R_base ho0) hb); have n2_ := Aside0.mk (Kd.R_lower (Kd.R_newM (M := fun k_ => (w.heap.size ≤ k_)) ho0 (zzS (by repeat (first | (with_reducible first | exact HB.out | apply zzA | apply zzN | apply zzD | refine below_set ?_ GE255.out) | exact HB.out))) (fun k_ h_ => h_)) (zzS (by repeat (first | (with_reducible first | exact HB.out | apply zzA | apply zzN | apply zzD | refine below_set ?_ GE255.out) | exact HB.out)))); have n3_ := Aside0.mk (blk_below (g := gb255) (o := .cells #[.slice A2_0 l2_0.length c2_0, .int .i64 a2_1] 26 (0, 0)) (by (with_reducible repeat (first | refine kkN ?_ _ | refine kkD ?_ | refine kkA ?_ _)); exact BK255.out) hb); have n4_ := Aside0.mk (zzT (by repeat (first | (with_reducible first | exact HB.out | apply zzA | apply zzN | apply zzD | refine below_set ?_ GE255.out) | exact HB.out)) hb); clear HO2_0; clear HO259; clear BK255; clear HB; have HO2_0 := n0_; have HO259 := n1_; have HO263 := n2_; have BK255 := n3_; have HB := n4_; clear n0_ n1_ n2_ n3_ n4_; (try clear hb); (try clear hb2); (try clear hk); (try clear hi); (try clear ho0); obtain ⟨Ao21, co21, eo21⟩ := Kd.R_slice HO263.out; subst eo21))
     go_loopg [12, 46] k (fun kq v12 v46 w' => ∃ (x12_1 : Int) (x46_1 : Int), v12 = .int .i64 x12_1 ∧ v46 = .int .i64 x46_1 ∧ Aside0 (thrumlaw15_SoftOff.l0 kq a0 a3 true x12_1 t261 (t261.length : Int) x46_1 l2_0 a2_1 = some r) ∧ Aside0 (kq ≤ k) ∧ Aside0 (Kd.R (Kd.int .i64) 2 w' w.heap.size (fun k_ => (w.heap.size ≤ k_)) (.slice Ao21 t261.length co21) t261) ∧ Aside0 (Kd.V (Kd.int .i64) 2 w' w.heap.size (fun k_ => (P2_0_ k_ ∨ w.heap.size ≤ k_) ∧ some k_ ≠ ((.slice Ao21 t261.length co21) : Value).ownBlock ∧ k_ ≠ gb255) (.slice A2_0 l2_0.length c2_0) l2_0) ∧ Aside0 (w'.heap[gb255]? = some (.cells #[(.slice A2_0 l2_0.length c2_0), .int .i64 a2_1] 26 (0, 0))) ∧ Aside0 (Below w.heap.size w w'))
     case atStart => exact ⟨(0), (0), (by first | rfl | (simp; done) | (simp [*]; done)), (by first | rfl | (simp; done) | (simp [*]; done)), H', ⟨Nat.le_refl _⟩, ⟨by (with_reducible repeat (first | apply rrA | apply rrN | apply rrD)); exact Kd.R_mono HO263.out (fun _ hk => hk.1)⟩, ⟨by (with_reducible repeat (first | apply Kd.V_alloc | apply Kd.V_drewN | apply Kd.V_drew)); exact Kd.V_mono HO2_0.out (fun _ hk => ⟨hk.1.1.1, ⟨hk.2, hk.1.1.2⟩⟩)⟩, ⟨by (with_reducible repeat (first | refine kkN ?_ _ | refine kkD ?_ | refine kkA ?_ _)); exact BK255.out⟩, ⟨by repeat (first | (with_reducible first | exact HB.out | apply zzA | apply zzN | apply zzD | refine below_set ?_ GE255.out) | exact HB.out)⟩⟩
     case round =>
      clear H'
      try clear c1
      try clear c2
      try clear p2
      try clear c3
      try clear c6
      try clear c7
      try clear c8
      try clear c10
      try clear c10b0
      try clear c10b1
      try clear c11
      try clear c11b0
      try clear c11b1
      try clear c21
      try clear hcz14_0
      try clear hcz14_1
      try clear hcz19_0
      try clear hcz19_1
      try clear hfz14_0
      try clear hfz14_1
      try clear hfz19_0
      try clear hfz19_1
      obtain ⟨x12_1, x46_1, rfl, rfl, HA, HK1, HO_44, HO_256000, BK255, HB⟩ := hrel
      cases gk with
      | zero => exact absurd HA.out (by simp [thrumlaw15_SoftOff.l0])
      | succ k1 =>
       have H := HA.out
       clear HA
       simp only [thrumlaw15_SoftOff.l0] at H
       by_cases c22 : x46_1 < (t261.length : Int)
       ·
        rw [if_pos c22] at H
        have c22b0 : decide (x46_1 < (t261.length : Int)) = true := decide_eq_true c22
        clear c22
        by_cases c23 : 0 ≤ x46_1
        ·
         rw [if_pos c23] at H
         have c23b0 : decide (0 ≤ x46_1) = true := decide_eq_true c23
         clear c23
         by_cases c24 : x46_1 < (t261.length : Int)
         ·
          rw [if_pos c24] at H
          have c24b0 : decide (x46_1 < (t261.length : Int)) = true := decide_eq_true c24
          clear c24
          by_cases c25 : x46_1 = a2_1
          ·
           rw [if_pos c25] at H
           have c25b0 : (x46_1 == a2_1) = true := beq_iff_eq.mpr c25
           have c25b1 : (x46_1 != a2_1) = false := bne_eq_false_iff_eq.mpr c25
           clear c25
           by_cases c26 : (rd t261 x46_1) > 0
           ·
            rw [if_pos c26] at H
            exact absurd (Option.some.inj H) (by rw [HR_.out]; decide)
           ·
            rw [if_neg c26] at H
            have c26b0 : decide (0 < (rd t261 x46_1)) = false := decide_eq_false c26
            clear c26
            by_cases c28 : 0 ≤ a3
            ·
             rw [if_pos c28] at H
             have c28b0 := eq_true c28
             have c28b1 : decide (0 ≤ a3) = true := decide_eq_true c28
             clear c28
             obtain ⟨ji29, hji29⟩ : ∃ j_ : Int, (shl .i64 (-1) a3) = j_ := ⟨_, rfl⟩
             replace H : (if (rd t261 x46_1) < (ji29) then (some false) else (thrumlaw15_SoftOff.l0 k1 a0 a3 true (wrap64 (x12_1 + (rd t261 x46_1))) t261 (t261.length : Int) (wrap64 (x46_1 + 1)) l2_0 a2_1)) = some r := by first | (rw [hji29] at H; exact H) | (simp only [hji29] at H ⊢; exact H)
             have hji29_ : (IntKind.i64.wrap ((-1) * 2 ^ min a3.toNat 64)) = ji29 := hji29
             have hji29z : a3 ≤ 64 → (IntKind.i64.wrap ((-1) * 2 ^ a3.toNat)) = ji29 := shl_small hji29
             have hji29y : (wrap64 ((-1) * 2 ^ min a3.toNat 64)) = ji29 := (i64_w _).symm.trans hji29_
             have hji29n : wrap64 (-2 ^ min a3.toNat 64) = ji29 := by rw [← hji29y, Int.neg_mul, Int.one_mul]
             have hji29x : a3 ≤ 64 → (wrap64 ((-1) * 2 ^ a3.toNat)) = ji29 := fun h_ => (i64_w _).symm.trans (hji29z h_)
             by_cases c30 : (rd t261 x46_1) < (ji29)
             ·
              rw [if_pos c30] at H
              exact absurd (Option.some.inj H) (by rw [HR_.out]; decide)
             ·
              rw [if_neg c30] at H
              have c30b0 : decide ((rd t261 x46_1) < (ji29)) = false := decide_eq_false c30
              clear c30
              have H' := Aside0.mk H
              clear H
              have p265 : 0 ≤ (x46_1 : Int) := of_decide_eq_true (by first | (with_reducible assumption) | assumption)
              have q265 : x46_1 < (t261.length : Int) := of_decide_eq_true (by first | (with_reducible assumption) | assumption)
              obtain ⟨ad265, e265, hx265_0⟩ := Kd.at_int (Kd.R_reads' HO_44.out).2.2 x46_1 p265 q265
              cases e265
              replace p265 := eq_true p265
              replace q265 := eq_true q265
              have hcz32_0 : wr.cell? ⟨gb255, 0, none⟩ = some (.slice A2_0 l2_0.length c2_0) := (blk_cell BK255.out 0).trans rfl
              have hcz32_1 : wr.cell? ⟨gb255, 1, none⟩ = some (.int .i64 a2_1) := (blk_cell BK255.out 1).trans rfl
              have hfz32_0 := blk_frozen BK255.out 0
              have hfz32_1 := blk_frozen BK255.out 1
              go_wp2
              go_roundg k1
              case measure => have := HK1.out; omega
              case rel => exact ⟨(wrap64 (x12_1 + (rd t261 x46_1))), (wrap64 (x46_1 + 1)), (by first | rfl | (simp; done) | (simp [*]; done)), (by first | rfl | (simp; done) | (simp [*]; done)), H', ⟨by have := HK1.out; omega⟩, ⟨by (with_reducible repeat (first | apply rrA | apply rrN | apply rrD)); exact HO_44.out⟩, ⟨by (with_reducible repeat (first | apply Kd.V_alloc | apply Kd.V_drewN | apply Kd.V_drew)); exact HO_256000.out⟩, ⟨by (with_reducible repeat (first | refine kkN ?_ _ | refine kkD ?_ | refine kkA ?_ _)); exact BK255.out⟩, ⟨by repeat (first | (with_reducible first | exact HB.out | apply zzA | apply zzN | apply zzD | refine below_set ?_ GE255.out) | exact HB.out)⟩⟩
            ·
             rw [if_neg c28] at H
             exact absurd H (by simp)
          ·
           rw [if_neg c25] at H
           have c25b0 : (x46_1 == a2_1) = false := beq_eq_false_iff_ne.mpr c25
           have c25b1 : (x46_1 != a2_1) = true := bne_iff_ne.mpr c25
           by_cases c33 : (rd t261 x46_1) < 0
           ·
            rw [if_pos c33] at H
            exact absurd (Option.some.inj H) (by rw [HR_.out]; decide)
           ·
            rw [if_neg c33] at H
            have c33b0 : decide ((rd t261 x46_1) < 0) = false := decide_eq_false c33
            clear c33
            by_cases c35 : 0 ≤ a3
            ·
             rw [if_pos c35] at H
             have c35b0 := eq_true c35
             have c35b1 : decide (0 ≤ a3) = true := decide_eq_true c35
             clear c35
             obtain ⟨ji36, hji36⟩ : ∃ j_ : Int, (shl .i64 1 a3) = j_ := ⟨_, rfl⟩
             replace H : (if (rd t261 x46_1) > (ji36) then (some false) else (thrumlaw15_SoftOff.l0 k1 a0 a3 true (wrap64 (x12_1 + (rd t261 x46_1))) t261 (t261.length : Int) (wrap64 (x46_1 + 1)) l2_0 a2_1)) = some r := by first | (rw [hji36] at H; exact H) | (simp only [hji36] at H ⊢; exact H)
             have hji36_ : (IntKind.i64.wrap (1 * 2 ^ min a3.toNat 64)) = ji36 := hji36
             have hji36z : a3 ≤ 64 → (IntKind.i64.wrap (1 * 2 ^ a3.toNat)) = ji36 := shl_small hji36
             have hji36u : (IntKind.i64.wrap (2 ^ min a3.toNat 64)) = ji36 := by have h_ := hji36_; rw [Int.one_mul] at h_; exact h_
             have hji36v : a3 ≤ 64 → (IntKind.i64.wrap (2 ^ a3.toNat)) = ji36 := fun hle_ => by have h_ := hji36z hle_; rw [Int.one_mul] at h_; exact h_
             have hji36y : (wrap64 (1 * 2 ^ min a3.toNat 64)) = ji36 := (i64_w _).symm.trans hji36_
             have hji36x : a3 ≤ 64 → (wrap64 (1 * 2 ^ a3.toNat)) = ji36 := fun h_ => (i64_w _).symm.trans (hji36z h_)
             by_cases c37 : (rd t261 x46_1) > (ji36)
             ·
              rw [if_pos c37] at H
              exact absurd (Option.some.inj H) (by rw [HR_.out]; decide)
             ·
              rw [if_neg c37] at H
              have c37b0 : decide ((ji36) < (rd t261 x46_1)) = false := decide_eq_false c37
              clear c37
              have H' := Aside0.mk H
              clear H
              have p265 : 0 ≤ (x46_1 : Int) := of_decide_eq_true (by first | (with_reducible assumption) | assumption)
              have q265 : x46_1 < (t261.length : Int) := of_decide_eq_true (by first | (with_reducible assumption) | assumption)
              obtain ⟨ad265, e265, hx265_0⟩ := Kd.at_int (Kd.R_reads' HO_44.out).2.2 x46_1 p265 q265
              cases e265
              replace p265 := eq_true p265
              replace q265 := eq_true q265
              have hcz39_0 : wr.cell? ⟨gb255, 0, none⟩ = some (.slice A2_0 l2_0.length c2_0) := (blk_cell BK255.out 0).trans rfl
              have hcz39_1 : wr.cell? ⟨gb255, 1, none⟩ = some (.int .i64 a2_1) := (blk_cell BK255.out 1).trans rfl
              have hfz39_0 := blk_frozen BK255.out 0
              have hfz39_1 := blk_frozen BK255.out 1
              go_wp2
              go_roundg k1
              case measure => have := HK1.out; omega
              case rel => exact ⟨(wrap64 (x12_1 + (rd t261 x46_1))), (wrap64 (x46_1 + 1)), (by first | rfl | (simp; done) | (simp [*]; done)), (by first | rfl | (simp; done) | (simp [*]; done)), H', ⟨by have := HK1.out; omega⟩, ⟨by (with_reducible repeat (first | apply rrA | apply rrN | apply rrD)); exact HO_44.out⟩, ⟨by (with_reducible repeat (first | apply Kd.V_alloc | apply Kd.V_drewN | apply Kd.V_drew)); exact HO_256000.out⟩, ⟨by (with_reducible repeat (first | refine kkN ?_ _ | refine kkD ?_ | refine kkA ?_ _)); exact BK255.out⟩, ⟨by repeat (first | (with_reducible first | exact HB.out | apply zzA | apply zzN | apply zzD | refine below_set ?_ GE255.out) | exact HB.out)⟩⟩
            ·
             rw [if_neg c35] at H
             exact absurd H (by simp)
         ·
          rw [if_neg c24] at H
          exact absurd H (by simp)
        ·
         rw [if_neg c23] at H
         exact absurd H (by simp)
       ·
        rw [if_neg c22] at H
        have c22b0 : decide (x46_1 < (t261.length : Int)) = false := decide_eq_false c22
        clear c22
        first | rw [if_pos rfl] at H | rw [if_pos trivial] at H
        by_cases c40 : x12_1 ≤ 0
        ·
         rw [if_pos c40] at H
         have c40b0 : decide (x12_1 ≤ 0) = true := decide_eq_true c40
         clear c40
         obtain rfl := Option.some.inj H
         go_wp2
         go_ret
         exact ⟨by first | rfl | (simp [errW_none, errW_some] <;> rfl) | (simp [*, errW_none, errW_some] <;> rfl), by repeat (first | (with_reducible first | exact HB.out | apply zzA | apply zzN | apply zzD | refine below_set ?_ GE255.out) | exact HB.out)⟩
        ·
         rw [if_neg c40] at H
         exact absurd (Option.some.inj H) (by rw [HR_.out]; decide)
    ·
     rw [if_neg c11] at H
     exact absurd (Option.some.inj H) (by rw [HR_.out]; decide)
   ·
    rw [if_neg c10] at H
    have c10b0 : (t264 == 0) = false := beq_eq_false_iff_ne.mpr c10
    have c10b1 : (t264 != 0) = true := bne_iff_ne.mpr c10
    obtain rfl := Option.some.inj H
    go_enter Try.func21, Try.ntmps21
    go_wp2_with (first | ((with_reducible refine gate_dst (N := 6) rfl ?_); (try (refine gate_guard (by rfl) ?_; dsimp only)); refine box_event ?hg (N := 6) ?hd (cs := #[.slice A2_0 l2_0.length c2_0, .int .i64 a2_1]) (t := 26) ?hr ?_; (case hd => rfl); (case hg => rfl); (case hr => first | (go_simp; done) | (go_simp; rfl)); intro gb255 hg w51 hbox hb; have n0_ := Aside0.mk (Kd.V_below (Kd.V_elderB (by (with_reducible repeat (first | apply Kd.V_alloc | apply Kd.V_drewN | apply Kd.V_drew)); exact HO2_0.out) gb255 (Nat.le_of_eq hg.symm)) hb); have n1_ := Aside0.mk (zzT (by repeat (first | (with_reducible first | exact HB.out | apply zzA | apply zzN | apply zzD) | exact HB.out)) hb); have n2_ := Aside0.mk (hbox); have n3_ := Aside0.mk ((by rw [hg]; exact (zzS (by repeat (first | (with_reducible first | exact HB.out | apply zzA | apply zzN | apply zzD) | exact HB.out))) : w.heap.size ≤ gb255)); have n4_ := Aside0.mk ((by rw [hg]; exact (zzS (by repeat (first | (with_reducible first | exact HB.out | apply zzA | apply zzN | apply zzD) | exact HB.out))) : w.heap.size ≤ gb255)); clear HO2_0; clear HB; have HO2_0 := n0_; have HB := n1_; have BK255 := n2_; have GW255 := n3_; have GE255 := n4_; clear n0_ n1_ n2_ n3_ n4_; clear hb hbox hg) | ((with_reducible refine gate_callee (f := 79) rfl ?_); refine goesL_ (some 15) rfl rfl Try.func79 (by kernel_rfl) rfl #[] rfl (by (try simp only [List.map_toArray, List.map_cons, List.map_nil]); first | done | rfl | (simp only [List.length_drop, List.length_take]; rfl)) ?_; (with_reducible refine (thrumlaw15_live.calls  true _ A5.out).mono ?_); rintro e w52 ⟨rfl, hb⟩; refine ⟨_, rfl, ?_⟩; have n0_ := Aside0.mk (Kd.V_below (by (with_reducible repeat (first | apply Kd.V_alloc | apply Kd.V_drewN | apply Kd.V_drew)); exact HO2_0.out) hb); have n1_ := Aside0.mk (blk_below (g := gb255) (o := .cells #[.slice A2_0 l2_0.length c2_0, .int .i64 a2_1] 26 (0, 0)) (by (with_reducible repeat (first | refine kkN ?_ _ | refine kkD ?_ | refine kkA ?_ _)); exact BK255.out) hb); have n2_ := Aside0.mk (zzT (by repeat (first | (with_reducible first | exact HB.out | apply zzA | apply zzN | apply zzD | refine below_set ?_ GE255.out) | exact HB.out)) hb); clear HO2_0; clear BK255; clear HB; have HO2_0 := n0_; have BK255 := n1_; have HB := n2_; clear n0_ n1_ n2_; (try clear hb); (try clear hb2); (try clear hk); (try clear hi); have hcz53_0 : w52.cell? ⟨gb255, 0, none⟩ = some (.slice A2_0 l2_0.length c2_0) := (blk_cell BK255.out 0).trans rfl; have hcz53_1 : w52.cell? ⟨gb255, 1, none⟩ = some (.int .i64 a2_1) := (blk_cell BK255.out 1).trans rfl; have hfz53_0 := blk_frozen BK255.out 0; have hfz53_1 := blk_frozen BK255.out 1) | ((with_reducible refine gate_dst (N := 20) rfl ?_); (try (refine gate_guard (by rfl) ?_; dsimp only)); refine Kd.N_lit k26 _ 26 ?hg (N' := 20) ?hd (xs := ([(⟨l2_0, a2_1⟩ : S26)] : List (S26))) (inner := [.slice A2_0 l2_0.length c2_0, .int .i64 a2_1]) (ok := (fun k_ => (P2_0_ k_ ∨ w.heap.size ≤ k_) ∧ k_ ≠ gb255)) (okp := (fun k_ => (P2_0_ k_ ∨ w.heap.size ≤ k_) ∧ k_ ≠ gb255)) ?hr ?hp (fun _ hk => hk) ((show ∀ k_, w52.heap.size ≤ k_ → (fun k_ => (P2_0_ k_ ∨ w.heap.size ≤ k_) ∧ k_ ≠ gb255) k_ from fun k_ hk => ⟨(.inr (Nat.le_trans (zzS (by repeat (first | (with_reducible first | exact HB.out | apply zzA | apply zzN | apply zzD | refine below_set ?_ GE255.out) | exact HB.out))) hk)), Kd.freshB (g := gb255) (o := .cells #[.slice A2_0 l2_0.length c2_0, .int .i64 a2_1] 26 (0, 0)) (by (with_reducible repeat (first | refine kkN ?_ _ | refine kkD ?_ | refine kkA ?_ _)); exact BK255.out) k_ hk⟩) _ (Nat.le_refl _)) (Below.refl _ _) (Nat.le_refl _) (by simp) ?_; (case hd => rfl); (case hg => rfl); (case hr => first | (go_simp; done) | (go_simp; rfl)); (case hp => exact (Reps.c2 (show Kd.FK k26 _ _ (⟨l2_0, a2_1⟩ : S26) [.slice A2_0 l2_0.length c2_0, .int .i64 a2_1] from (k26_mkF _ _ (⟨l2_0, a2_1⟩ : S26) (Kd.V_reads' (Kd.V_mono (ok' := (fun k_ => (P2_0_ k_ ∨ w.heap.size ≤ k_) ∧ k_ ≠ gb255)) (HO2_0.out) (fun k_ hk => ⟨hk.1, hk.2⟩))).2.1 (Kd.V_F (Kd.V_mono (ok' := (fun k_ => (P2_0_ k_ ∨ w.heap.size ≤ k_) ∧ k_ ≠ gb255)) (HO2_0.out) (fun k_ hk => ⟨hk.1, hk.2⟩))))) (Reps.none _ _))); intro v258 w54 ho55 hb hg_ hnew_; clear hg_ hnew_; (first | rw [← Ny257.out] at ho55 | (simp only [Int.reduceToNat] at ho55; rw [← Ny257.out] at ho55)); have n0_ := Aside0.mk (Kd.V_elder' (by (with_reducible repeat (first | apply Kd.V_alloc | apply Kd.V_drewN | apply Kd.V_drew)); exact HO2_0.out) (Kd.N_base ho55) hb); have n1_ := Aside0.mk (Kd.N_lower ho55 (zzS (by repeat (first | (with_reducible first | exact HB.out | apply zzA | apply zzN | apply zzD | refine below_set ?_ GE255.out) | exact HB.out)))); have n2_ := Aside0.mk (blk_below (g := gb255) (o := .cells #[.slice A2_0 l2_0.length c2_0, .int .i64 a2_1] 26 (0, 0)) (by (with_reducible repeat (first | refine kkN ?_ _ | refine kkD ?_ | refine kkA ?_ _)); exact BK255.out) hb); have n3_ := Aside0.mk (zzT (by repeat (first | (with_reducible first | exact HB.out | apply zzA | apply zzN | apply zzD | refine below_set ?_ GE255.out) | exact HB.out)) hb); clear HO2_0; clear BK255; clear HB; have HO2_0 := n0_; have HO259 := n1_; have BK255 := n2_; have HB := n3_; clear n0_ n1_ n2_ n3_; clear hb ho55; obtain ⟨Ao56, co56, eo56⟩ := Kd.N_slice HO259.out; subst eo56) | ((with_reducible refine gate_callee (f := 30) rfl ?_); refine goesL_ (some 21) rfl rfl Try.func30 (by kernel_rfl) rfl #[.slice A1 l1.length c1, .slice Ao56 y257.length co56] rfl (by (try simp only [List.map_toArray, List.map_cons, List.map_nil]); first | done | rfl | (simp only [List.length_drop, List.length_take]; rfl)) ?_; (with_reducible refine (thrumref14_Few.calls _ _ l1 _ _ y257 true _ ?side1 ?side2 ?side3 ?side4 A7.out).mono ?_); (case side1 => repeat (first | exact (Kd.C_below HR1.out HB.out) | (with_reducible refine ccA ?_ _) | (with_reducible refine ccN ?_ _) | (with_reducible refine ccD ?_))); (case side2 => exact HC1.out); (case side3 => repeat (first | exact (Kd.N_reads' HO259.out).2.2 | (with_reducible refine ccA ?_ _) | (with_reducible refine ccN ?_ _) | (with_reducible refine ccD ?_))); (case side4 => exact (Kd.N_reads' HO259.out).2.1); rintro e w57 ⟨rfl, hb⟩; refine ⟨_, rfl, ?_⟩; have n0_ := Aside0.mk (Kd.V_below (by (with_reducible repeat (first | apply Kd.V_alloc | apply Kd.V_drewN | apply Kd.V_drew)); exact HO2_0.out) hb); have n1_ := Aside0.mk (Kd.N_below (by (with_reducible repeat (first | apply Kd.N_alloc | apply Kd.N_drewN | apply Kd.N_drew)); exact HO259.out) hb); have n2_ := Aside0.mk (blk_below (g := gb255) (o := .cells #[.slice A2_0 l2_0.length c2_0, .int .i64 a2_1] 26 (0, 0)) (by (with_reducible repeat (first | refine kkN ?_ _ | refine kkD ?_ | refine kkA ?_ _)); exact BK255.out) hb); have n3_ := Aside0.mk (zzT (by repeat (first | (with_reducible first | exact HB.out | apply zzA | apply zzN | apply zzD | refine below_set ?_ GE255.out) | exact HB.out)) hb); clear HO2_0; clear HO259; clear BK255; clear HB; have HO2_0 := n0_; have HO259 := n1_; have BK255 := n2_; have HB := n3_; clear n0_ n1_ n2_ n3_; (try clear hb); (try clear hb2); (try clear hk); (try clear hi); have hcz58_0 : w57.cell? ⟨gb255, 0, none⟩ = some (.slice A2_0 l2_0.length c2_0) := (blk_cell BK255.out 0).trans rfl; have hcz58_1 : w57.cell? ⟨gb255, 1, none⟩ = some (.int .i64 a2_1) := (blk_cell BK255.out 1).trans rfl; have hfz58_0 := blk_frozen BK255.out 0; have hfz58_1 := blk_frozen BK255.out 1) | ((with_reducible refine gate_callee (f := 80) rfl ?_); refine goesL_ (some 29) rfl rfl Try.func80 (by kernel_rfl) rfl #[.int .i64 a0, .slice A1 l1.length c1, .agg #[.slice A2_0 l2_0.length c2_0, .int .i64 a2_1], .int .i64 a3] rfl (by (try simp only [List.map_toArray, List.map_cons, List.map_nil]); first | done | rfl | (simp only [List.length_drop, List.length_take]; rfl)) ?_; (with_reducible refine (soft_Off.calls a0 _ _ l1 _ _ l2_0 a2_1 a3 t261 t264 _ ?side1 ?side2 ?side3 ?side4 A9.out).mono ?_); (case side1 => repeat (first | exact (Kd.C_below HR1.out HB.out) | (with_reducible refine ccA ?_ _) | (with_reducible refine ccN ?_ _) | (with_reducible refine ccD ?_))); (case side2 => exact HC1.out); (case side3 => repeat (first | exact (Kd.V_reads' HO2_0.out).2.2 | (with_reducible refine ccA ?_ _) | (with_reducible refine ccN ?_ _) | (with_reducible refine ccD ?_))); (case side4 => exact (Kd.V_reads' HO2_0.out).2.1); rintro e w59 ⟨v262, rfl, ho0, hb⟩; refine ⟨_, rfl, ?_⟩; have n0_ := Aside0.mk (Kd.V_elder' (by (with_reducible repeat (first | apply Kd.V_alloc | apply Kd.V_drewN | apply Kd.V_drew)); exact HO2_0.out) (Kd.R_base ho0) hb); have n1_ := Aside0.mk (Kd.N_elder' (by (with_reducible repeat (first | apply Kd.N_alloc | apply Kd.N_drewN | apply Kd.N_drew)); exact HO259.out) (Kd.R_base ho0) hb); have n2_ := Aside0.mk (Kd.R_lower (Kd.R_newM (M := fun k_ => (w.heap.size ≤ k_)) ho0 (zzS (by repeat (first | (with_reducible first | exact HB.out | apply zzA | apply zzN | apply zzD | refine below_set ?_ GE255.out) | exact HB.out))) (fun k_ h_ => h_)) (zzS (by repeat (first | (with_reducible first | exact HB.out | apply zzA | apply zzN | apply zzD | refine below_set ?_ GE255.out) | exact HB.out)))); have n3_ := Aside0.mk (blk_below (g := gb255) (o := .cells #[.slice A2_0 l2_0.length c2_0, .int .i64 a2_1] 26 (0, 0)) (by (with_reducible repeat (first | refine kkN ?_ _ | refine kkD ?_ | refine kkA ?_ _)); exact BK255.out) hb); have n4_ := Aside0.mk (zzT (by repeat (first | (with_reducible first | exact HB.out | apply zzA | apply zzN | apply zzD | refine below_set ?_ GE255.out) | exact HB.out)) hb); clear HO2_0; clear HO259; clear BK255; clear HB; have HO2_0 := n0_; have HO259 := n1_; have HO263 := n2_; have BK255 := n3_; have HB := n4_; clear n0_ n1_ n2_ n3_ n4_; (try clear hb); (try clear hb2); (try clear hk); (try clear hi); (try clear ho0); obtain ⟨Ao60, co60, eo60⟩ := Kd.R_slice HO263.out; subst eo60))
    go_ret
    exact ⟨by first | rfl | (simp [errW_none, errW_some] <;> rfl) | (simp [*, errW_none, errW_some] <;> rfl), by repeat (first | (with_reducible first | exact HB.out | apply zzA | apply zzN | apply zzD | refine below_set ?_ GE255.out) | exact HB.out)⟩
  ·
   replace c8 := Bool.eq_false_iff.mpr c8
   subst c8
   have H1 : (some true) = some r := by rw [if_neg (show ¬ (false = true) by decide)] at H; exact H
   clear H
   have H := H1
   clear H1
   obtain rfl := Option.some.inj H
   go_enter Try.func21, Try.ntmps21
   go_wp2_with (first | ((with_reducible refine gate_dst (N := 6) rfl ?_); (try (refine gate_guard (by rfl) ?_; dsimp only)); refine box_event ?hg (N := 6) ?hd (cs := #[.slice A2_0 l2_0.length c2_0, .int .i64 a2_1]) (t := 26) ?hr ?_; (case hd => rfl); (case hg => rfl); (case hr => first | (go_simp; done) | (go_simp; rfl)); intro gb255 hg w61 hbox hb; have n0_ := Aside0.mk (Kd.V_below (Kd.V_elderB (by (with_reducible repeat (first | apply Kd.V_alloc | apply Kd.V_drewN | apply Kd.V_drew)); exact HO2_0.out) gb255 (Nat.le_of_eq hg.symm)) hb); have n1_ := Aside0.mk (zzT (by repeat (first | (with_reducible first | exact HB.out | apply zzA | apply zzN | apply zzD) | exact HB.out)) hb); have n2_ := Aside0.mk (hbox); have n3_ := Aside0.mk ((by rw [hg]; exact (zzS (by repeat (first | (with_reducible first | exact HB.out | apply zzA | apply zzN | apply zzD) | exact HB.out))) : w.heap.size ≤ gb255)); have n4_ := Aside0.mk ((by rw [hg]; exact (zzS (by repeat (first | (with_reducible first | exact HB.out | apply zzA | apply zzN | apply zzD) | exact HB.out))) : w.heap.size ≤ gb255)); clear HO2_0; clear HB; have HO2_0 := n0_; have HB := n1_; have BK255 := n2_; have GW255 := n3_; have GE255 := n4_; clear n0_ n1_ n2_ n3_ n4_; clear hb hbox hg) | ((with_reducible refine gate_callee (f := 79) rfl ?_); refine goesL_ (some 15) rfl rfl Try.func79 (by kernel_rfl) rfl #[] rfl (by (try simp only [List.map_toArray, List.map_cons, List.map_nil]); first | done | rfl | (simp only [List.length_drop, List.length_take]; rfl)) ?_; (with_reducible refine (thrumlaw15_live.calls  true _ A5.out).mono ?_); rintro e w62 ⟨rfl, hb⟩; refine ⟨_, rfl, ?_⟩; have n0_ := Aside0.mk (Kd.V_below (by (with_reducible repeat (first | apply Kd.V_alloc | apply Kd.V_drewN | apply Kd.V_drew)); exact HO2_0.out) hb); have n1_ := Aside0.mk (blk_below (g := gb255) (o := .cells #[.slice A2_0 l2_0.length c2_0, .int .i64 a2_1] 26 (0, 0)) (by (with_reducible repeat (first | refine kkN ?_ _ | refine kkD ?_ | refine kkA ?_ _)); exact BK255.out) hb); have n2_ := Aside0.mk (zzT (by repeat (first | (with_reducible first | exact HB.out | apply zzA | apply zzN | apply zzD | refine below_set ?_ GE255.out) | exact HB.out)) hb); clear HO2_0; clear BK255; clear HB; have HO2_0 := n0_; have BK255 := n1_; have HB := n2_; clear n0_ n1_ n2_; (try clear hb); (try clear hb2); (try clear hk); (try clear hi); have hcz63_0 : w62.cell? ⟨gb255, 0, none⟩ = some (.slice A2_0 l2_0.length c2_0) := (blk_cell BK255.out 0).trans rfl; have hcz63_1 : w62.cell? ⟨gb255, 1, none⟩ = some (.int .i64 a2_1) := (blk_cell BK255.out 1).trans rfl; have hfz63_0 := blk_frozen BK255.out 0; have hfz63_1 := blk_frozen BK255.out 1) | ((with_reducible refine gate_dst (N := 20) rfl ?_); (try (refine gate_guard (by rfl) ?_; dsimp only)); refine Kd.N_lit k26 _ 26 ?hg (N' := 20) ?hd (xs := ([(⟨l2_0, a2_1⟩ : S26)] : List (S26))) (inner := [.slice A2_0 l2_0.length c2_0, .int .i64 a2_1]) (ok := (fun k_ => (P2_0_ k_ ∨ w.heap.size ≤ k_) ∧ k_ ≠ gb255)) (okp := (fun k_ => (P2_0_ k_ ∨ w.heap.size ≤ k_) ∧ k_ ≠ gb255)) ?hr ?hp (fun _ hk => hk) ((show ∀ k_, w62.heap.size ≤ k_ → (fun k_ => (P2_0_ k_ ∨ w.heap.size ≤ k_) ∧ k_ ≠ gb255) k_ from fun k_ hk => ⟨(.inr (Nat.le_trans (zzS (by repeat (first | (with_reducible first | exact HB.out | apply zzA | apply zzN | apply zzD | refine below_set ?_ GE255.out) | exact HB.out))) hk)), Kd.freshB (g := gb255) (o := .cells #[.slice A2_0 l2_0.length c2_0, .int .i64 a2_1] 26 (0, 0)) (by (with_reducible repeat (first | refine kkN ?_ _ | refine kkD ?_ | refine kkA ?_ _)); exact BK255.out) k_ hk⟩) _ (Nat.le_refl _)) (Below.refl _ _) (Nat.le_refl _) (by simp) ?_; (case hd => rfl); (case hg => rfl); (case hr => first | (go_simp; done) | (go_simp; rfl)); (case hp => exact (Reps.c2 (show Kd.FK k26 _ _ (⟨l2_0, a2_1⟩ : S26) [.slice A2_0 l2_0.length c2_0, .int .i64 a2_1] from (k26_mkF _ _ (⟨l2_0, a2_1⟩ : S26) (Kd.V_reads' (Kd.V_mono (ok' := (fun k_ => (P2_0_ k_ ∨ w.heap.size ≤ k_) ∧ k_ ≠ gb255)) (HO2_0.out) (fun k_ hk => ⟨hk.1, hk.2⟩))).2.1 (Kd.V_F (Kd.V_mono (ok' := (fun k_ => (P2_0_ k_ ∨ w.heap.size ≤ k_) ∧ k_ ≠ gb255)) (HO2_0.out) (fun k_ hk => ⟨hk.1, hk.2⟩))))) (Reps.none _ _))); intro v258 w64 ho65 hb hg_ hnew_; clear hg_ hnew_; (first | rw [← Ny257.out] at ho65 | (simp only [Int.reduceToNat] at ho65; rw [← Ny257.out] at ho65)); have n0_ := Aside0.mk (Kd.V_elder' (by (with_reducible repeat (first | apply Kd.V_alloc | apply Kd.V_drewN | apply Kd.V_drew)); exact HO2_0.out) (Kd.N_base ho65) hb); have n1_ := Aside0.mk (Kd.N_lower ho65 (zzS (by repeat (first | (with_reducible first | exact HB.out | apply zzA | apply zzN | apply zzD | refine below_set ?_ GE255.out) | exact HB.out)))); have n2_ := Aside0.mk (blk_below (g := gb255) (o := .cells #[.slice A2_0 l2_0.length c2_0, .int .i64 a2_1] 26 (0, 0)) (by (with_reducible repeat (first | refine kkN ?_ _ | refine kkD ?_ | refine kkA ?_ _)); exact BK255.out) hb); have n3_ := Aside0.mk (zzT (by repeat (first | (with_reducible first | exact HB.out | apply zzA | apply zzN | apply zzD | refine below_set ?_ GE255.out) | exact HB.out)) hb); clear HO2_0; clear BK255; clear HB; have HO2_0 := n0_; have HO259 := n1_; have BK255 := n2_; have HB := n3_; clear n0_ n1_ n2_ n3_; clear hb ho65; obtain ⟨Ao66, co66, eo66⟩ := Kd.N_slice HO259.out; subst eo66) | ((with_reducible refine gate_callee (f := 30) rfl ?_); refine goesL_ (some 21) rfl rfl Try.func30 (by kernel_rfl) rfl #[.slice A1 l1.length c1, .slice Ao66 y257.length co66] rfl (by (try simp only [List.map_toArray, List.map_cons, List.map_nil]); first | done | rfl | (simp only [List.length_drop, List.length_take]; rfl)) ?_; (with_reducible refine (thrumref14_Few.calls _ _ l1 _ _ y257 false _ ?side1 ?side2 ?side3 ?side4 A7.out).mono ?_); (case side1 => repeat (first | exact (Kd.C_below HR1.out HB.out) | (with_reducible refine ccA ?_ _) | (with_reducible refine ccN ?_ _) | (with_reducible refine ccD ?_))); (case side2 => exact HC1.out); (case side3 => repeat (first | exact (Kd.N_reads' HO259.out).2.2 | (with_reducible refine ccA ?_ _) | (with_reducible refine ccN ?_ _) | (with_reducible refine ccD ?_))); (case side4 => exact (Kd.N_reads' HO259.out).2.1); rintro e w67 ⟨rfl, hb⟩; refine ⟨_, rfl, ?_⟩; have n0_ := Aside0.mk (Kd.V_below (by (with_reducible repeat (first | apply Kd.V_alloc | apply Kd.V_drewN | apply Kd.V_drew)); exact HO2_0.out) hb); have n1_ := Aside0.mk (Kd.N_below (by (with_reducible repeat (first | apply Kd.N_alloc | apply Kd.N_drewN | apply Kd.N_drew)); exact HO259.out) hb); have n2_ := Aside0.mk (blk_below (g := gb255) (o := .cells #[.slice A2_0 l2_0.length c2_0, .int .i64 a2_1] 26 (0, 0)) (by (with_reducible repeat (first | refine kkN ?_ _ | refine kkD ?_ | refine kkA ?_ _)); exact BK255.out) hb); have n3_ := Aside0.mk (zzT (by repeat (first | (with_reducible first | exact HB.out | apply zzA | apply zzN | apply zzD | refine below_set ?_ GE255.out) | exact HB.out)) hb); clear HO2_0; clear HO259; clear BK255; clear HB; have HO2_0 := n0_; have HO259 := n1_; have BK255 := n2_; have HB := n3_; clear n0_ n1_ n2_ n3_; (try clear hb); (try clear hb2); (try clear hk); (try clear hi)))
   go_ret
   exact ⟨by first | rfl | (simp [errW_none, errW_some] <;> rfl) | (simp [*, errW_none, errW_some] <;> rfl), by repeat (first | (with_reducible first | exact HB.out | apply zzA | apply zzN | apply zzD | refine below_set ?_ GE255.out) | exact HB.out)⟩
 ·
  replace c6 := Bool.eq_false_iff.mpr c6
  subst c6
  have H1 : (some false) = some r := by rw [if_neg (show ¬ (false = true) by decide)] at H; exact H
  exact absurd (Option.some.inj H1) (by rw [HR_.out]; decide)

/-- THE ONE PURE STATEMENT of thrumlaw15_SoftOff: yours. -/
def thrumlaw15_SoftOff.Pure : Prop := ∀ (a0 : Int) (l1 : List Int) (l2_0 : List Int) (a2_1 : Int) (a3 : Int), (Lit.int .i64 a0).wf = true → l1.length ≤ maxLen → l1.length * 8 ≤ 140737488351232 → (∀ x ∈ l1, (Lit.int .i64 x).wf = true) → (l2_0.length ≤ maxLen ∧ ∀ x__ ∈ l2_0, (Lit.int .i64 x__).wf = true) → (Lit.int .i64 a2_1).wf = true → (Lit.int .i64 a3).wf = true → ∃ k, thrumlaw15_SoftOff.f k a0 l1 l2_0 a2_1 a3 = some true
theorem thrumlaw15_SoftOff.walk (P : thrumlaw15_SoftOff.Pure) (a0 : Int) (a1 : Option Addr) (len1 cap1 : Nat) (z1 : List Int) (A2_0 : Option Addr) (c2_0 : Nat) (l2_0 : List Int) (a2_1 : Int) (a3 : Int) (w : World) (w0 : (Lit.int .i64 a0).wf = true) (w1 : (a1 = none ∧ len1 = 0 ∧ cap1 = 0 ∧ z1 = []) ∨ ∃ x, a1 = some x ∧ len1 ≤ cap1 ∧ cap1 ≤ maxLen ∧ z1.length = cap1 ∧ (∀ i, i < z1.length → w.cell? (x.add i) = some (.int .i64 (z1.getD i 0))) ∧ ∀ n ∈ z1, (Lit.int .i64 n).wf = true) (y1 : len1 * 8 ≤ 140737488351232) (hr2_0 : Kd.C (Kd.int .i64) w A2_0 l2_0.length l2_0) (hc2_0 : l2_0.length ≤ c2_0) (hg2_0 : (l2_0.length ≤ maxLen ∧ ∀ x__ ∈ l2_0, (Lit.int .i64 x__).wf = true)) (w2_1 : (Lit.int .i64 a2_1).wf = true) (w3 : (Lit.int .i64 a3).wf = true) :
  Calls Try.prog 21 #[.int .i64 a0, .slice a1 len1 cap1, .agg #[.slice A2_0 l2_0.length c2_0, .int .i64 a2_1], .int .i64 a3] w fun e w' => e = .returned (.bool true) ∧ Below w.heap.size w w' := by
 obtain ⟨l1, rfl, hr1, hm1, hw1, hc1⟩ := ReadsInt.ofRowC w1
 obtain ⟨k, h⟩ := P a0 l1 l2_0 a2_1 a3 w0 hm1 y1 hw1 hg2_0 w2_1 w3
 refine (thrumlaw15_SoftOff.calls k a0 _ _ l1 (fun k_ => k_ < w.heap.size) _ _ l2_0 a2_1 a3 true w (Kd.C_of_reads (d := (0 : Int)) (h1 := fun _ => rfl) hr1) hc1 (Kd.V_mk hc2_0 (Kd.C_F (Kd.heap_int _) hr2_0)) h rfl).mono ?_
 rintro e w' ⟨rfl, hd⟩
 exact ⟨rfl, hd⟩





































































































































































































































































































































































































































































































































































































































































































































































































































































































































































































































































































end Go.Proofs.Ytfbdalnjijdknaa.HS
