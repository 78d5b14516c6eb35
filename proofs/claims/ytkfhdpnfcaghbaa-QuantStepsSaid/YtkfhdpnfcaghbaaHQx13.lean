/- What Go functions do, each as a plain Lean function with the same answers, and the proof of it, in every world: printed by the session's driver over the kit's print, with texts by hand. -/
import Derived.Test.YtkfhdpnfcaghbaaHQx0
import Derived.Test.YtkfhdpnfcaghbaaHQx3
import Derived.Test.YtkfhdpnfcaghbaaHQx6
import Derived.Test.YtkfhdpnfcaghbaaHQx12
namespace Go.Proofs.Ytkfhdpnfcaghbaa.HQ
open Go.RowKit Go.Proofs.YtkfhdpnfcaghbaaW.PrintWords Go.Proofs.YtkfhdpnfcaghbaaW.PrintLast Go.Proofs.YtkfhdpnfcaghbaaW.PrintMore
attribute [local go_sem] max2_int min2_int max_two min_two max_three min_three max_four min_four   -- for this text's walks alone
open Go.Proofs.Ytkfhdpnfcaghbaa.Sp
attribute [local go_sem] Go.Proofs.Ytkfhdpnfcaghbaa.Sp.u64_not
set_option linter.unusedVariables false
set_option linter.unusedSimpArgs false

/-! ### thrumlaw10_liveP: function 44 -/
def thrumlaw10_liveP.f (k : Nat)  : Option (Bool) := (quant_Level.f 7 10 2).bind fun bt171 => ((quant_Press.f k (([5, (-5)] : List Int)) 1 3 ([] : List Int)).bind fun bt177 => (if bt171.1 = 2 then (if bt171.2.1 = 1 then (if bt171.2.2 = 0 then (if bt177.2.2.2.2.2.2.2.2 = 0 then (if bt177.2.1 = 2 then (if bt177.2.2.2.2.1 = 5 then ((quant_Near.f (([5, (-5)] : List Int)) bt177.1 bt177.2.1 bt177.2.2.1 bt177.2.2.2.1 bt177.2.2.2.2.1 bt177.2.2.2.2.2.1 bt177.2.2.2.2.2.2.1 bt177.2.2.2.2.2.2.2.1).bind fun t198 => (some t198)) else (some false)) else (some false)) else (some false)) else (some false)) else (some false)) else (some false)))
theorem thrumlaw10_liveP.mono : ∀ k, LeO (thrumlaw10_liveP.f k ) (thrumlaw10_liveP.f (k + 1) ) := by
 intro  k
 unfold thrumlaw10_liveP.f
 repeat' first
   | (with_reducible exact quant_Press.mono _ _ _ _ _)
   | (with_reducible exact LeO.refl _)
   | (with_reducible exact LeO.none _)
   | (with_reducible refine LeO.ite ?_ ?_)
   | (with_reducible refine LeO.bind ?_ (fun _ => ?_))
   | exact quant_Press.mono _ _ _ _ _
   | exact LeO.none _
   | refine LeO.ite ?_ ?_
   | refine LeO.bind ?_ (fun _ => ?_)
set_option maxHeartbeats 80000000 in
set_option maxRecDepth 100000 in
theorem thrumlaw10_liveP.calls (k : Nat)  (r : Bool) (w : World) (h : thrumlaw10_liveP.f k  = some r) (hr_ : r = true) :
  Calls Try.prog 44 #[] w fun e w' => e = .returned (.bool r) ∧ Below w.heap.size w w' := by
 have HR_ := Aside0.mk hr_
 clear hr_
 have hu30 := Try.underlying30
 have HB := Aside0.mk (Below.refl w.heap.size w)
 have H : ((quant_Level.f 7 10 2).bind fun bt171 => ((quant_Press.f k (([5, (-5)] : List Int)) 1 3 ([] : List Int)).bind fun bt177 => (if bt171.1 = 2 then (if bt171.2.1 = 1 then (if bt171.2.2 = 0 then (if bt177.2.2.2.2.2.2.2.2 = 0 then (if bt177.2.1 = 2 then (if bt177.2.2.2.2.1 = 5 then ((quant_Near.f (([5, (-5)] : List Int)) bt177.1 bt177.2.1 bt177.2.2.1 bt177.2.2.2.1 bt177.2.2.2.2.1 bt177.2.2.2.2.2.1 bt177.2.2.2.2.2.2.1 bt177.2.2.2.2.2.2.2.1).bind fun t198 => (some t198)) else (some false)) else (some false)) else (some false)) else (some false)) else (some false)) else (some false)))) = some r := h
 clear h
 replace H := Option.bind_eq_some_iff.mp H
 obtain ⟨⟨t171, t172, t173⟩, A10, H⟩ := H
 replace H : ((quant_Press.f k (([5, (-5)] : List Int)) 1 3 ([] : List Int)).bind fun bt177 => (if t171 = 2 then (if t172 = 1 then (if t173 = 0 then (if bt177.2.2.2.2.2.2.2.2 = 0 then (if bt177.2.1 = 2 then (if bt177.2.2.2.2.1 = 5 then ((quant_Near.f (([5, (-5)] : List Int)) bt177.1 bt177.2.1 bt177.2.2.1 bt177.2.2.2.1 bt177.2.2.2.2.1 bt177.2.2.2.2.2.1 bt177.2.2.2.2.2.2.1 bt177.2.2.2.2.2.2.2.1).bind fun t198 => (some t198)) else (some false)) else (some false)) else (some false)) else (some false)) else (some false)) else (some false))) = some r := H
 have A1 := Aside0.mk A10
 clear A10
 obtain ⟨y174, hy174⟩ : ∃ y_ : List Int, y_ = (([5, (-5)] : List Int)) := ⟨_, rfl⟩
 replace H : ((quant_Press.f k y174 1 3 ([] : List Int)).bind fun bt177 => (if t171 = 2 then (if t172 = 1 then (if t173 = 0 then (if bt177.2.2.2.2.2.2.2.2 = 0 then (if bt177.2.1 = 2 then (if bt177.2.2.2.2.1 = 5 then ((quant_Near.f (([5, (-5)] : List Int)) bt177.1 bt177.2.1 bt177.2.2.1 bt177.2.2.2.1 bt177.2.2.2.2.1 bt177.2.2.2.2.2.1 bt177.2.2.2.2.2.2.1 bt177.2.2.2.2.2.2.2.1).bind fun t198 => (some t198)) else (some false)) else (some false)) else (some false)) else (some false)) else (some false)) else (some false))) = some r := by first | (rw [hy174]; with_reducible exact H) | (have H2_ := (Option.bind_some _ _).symm.trans H; rw [hy174]; with_reducible exact H2_) | (have H2_ := (Option.bind_some _ _).symm.trans H; with_reducible exact H2_) | with_reducible exact H | (rw [hy174]; exact H) | exact H
 have Ny174 := Aside0.mk hy174
 clear hy174
 replace H := Option.bind_eq_some_iff.mp H
 obtain ⟨⟨t177, t178, t179, t182, t185, t186, t187, t190, t193⟩, A20, H⟩ := H
 replace H : (if t171 = 2 then (if t172 = 1 then (if t173 = 0 then (if t193 = 0 then (if t178 = 2 then (if t185 = 5 then ((quant_Near.f (([5, (-5)] : List Int)) t177 t178 t179 t182 t185 t186 t187 t190).bind fun t198 => (some t198)) else (some false)) else (some false)) else (some false)) else (some false)) else (some false)) else (some false)) = some r := H
 have A2 := Aside0.mk A20
 clear A20
 by_cases c3 : t171 = 2
 ·
  rw [if_pos c3] at H
  have c3b0 : (t171 == 2) = true := beq_iff_eq.mpr c3
  have c3b1 : (t171 != 2) = false := bne_eq_false_iff_eq.mpr c3
  clear c3
  by_cases c4 : t172 = 1
  ·
   rw [if_pos c4] at H
   have c4b0 : (t172 == 1) = true := beq_iff_eq.mpr c4
   have c4b1 : (t172 != 1) = false := bne_eq_false_iff_eq.mpr c4
   clear c4
   by_cases c5 : t173 = 0
   ·
    rw [if_pos c5] at H
    have c5b0 : (t173 == 0) = true := beq_iff_eq.mpr c5
    have c5b1 : (t173 != 0) = false := bne_eq_false_iff_eq.mpr c5
    clear c5
    by_cases c6 : t193 = 0
    ·
     rw [if_pos c6] at H
     have c6b0 : (t193 == 0) = true := beq_iff_eq.mpr c6
     have c6b1 : (t193 != 0) = false := bne_eq_false_iff_eq.mpr c6
     clear c6
     by_cases c7 : t178 = 2
     ·
      rw [if_pos c7] at H
      have c7b0 : (t178 == 2) = true := beq_iff_eq.mpr c7
      have c7b1 : (t178 != 2) = false := bne_eq_false_iff_eq.mpr c7
      clear c7
      by_cases c8 : t185 = 5
      ·
       rw [if_pos c8] at H
       have c8b0 : (t185 == 5) = true := beq_iff_eq.mpr c8
       have c8b1 : (t185 != 5) = false := bne_eq_false_iff_eq.mpr c8
       clear c8
       obtain ⟨y195, hy195⟩ : ∃ y_ : List Int, y_ = (([5, (-5)] : List Int)) := ⟨_, rfl⟩
       replace H : ((quant_Near.f y195 t177 t178 t179 t182 t185 t186 t187 t190).bind fun t198 => (some t198)) = some r := by first | (rw [hy195]; with_reducible exact H) | (have H2_ := (Option.bind_some _ _).symm.trans H; rw [hy195]; with_reducible exact H2_) | (have H2_ := (Option.bind_some _ _).symm.trans H; with_reducible exact H2_) | with_reducible exact H | (rw [hy195]; exact H) | exact H
       have Ny195 := Aside0.mk hy195
       clear hy195
       replace H := Option.bind_eq_some_iff.mp H
       obtain ⟨t198, A90, H⟩ := H
       replace H : (some t198) = some r := H
       have A9 := Aside0.mk A90
       clear A90
       obtain rfl := Option.some.inj H
       go_enter Try.func44, Try.ntmps44
       go_wp2_with (first | ((with_reducible refine gate_callee (f := 47) rfl ?_); refine goesL_ (some 7) rfl rfl Try.func47 (by kernel_rfl) rfl #[.int .i64 7, .int .i64 10, .int .i64 2] rfl (by (try simp only [List.map_toArray, List.map_cons, List.map_nil]); first | done | rfl | (simp only [List.length_drop, List.length_take]; rfl)) ?_; (with_reducible refine (quant_Level.calls 7 10 2 t171 t172 t173 _ A1.out).mono ?_); rintro e w' ⟨rfl, ⟨nd, rfl⟩⟩; refine ⟨_, rfl, ?_⟩) | ((with_reducible refine gate_dst (N := 12) rfl ?_); (try (refine gate_guard (by rfl) ?_; dsimp only)); refine Kd.R_lit (Kd.int .i64) _ 2 ?hg (N := 12) ?hd (xs := ([5, (-5)] : List Int)) (inner := [.int .i64 5, .int .i64 (-5)]) (ok := fun _ => True) (okp := fun _ => True) ?hr ?hp (fun _ hk => hk) trivial (Below.refl _ _) (Nat.le_refl _) (by simp) ?_; (case hd => rfl); (case hg => rfl); (case hr => first | (go_simp; done) | (go_simp; rfl)); (case hp => exact (Reps.one (show Kd.M (Kd.int .i64) _ _ _ 5 [.int .i64 5] from rfl) (Reps.one (show Kd.M (Kd.int .i64) _ _ _ (-5) [.int .i64 (-5)] from rfl) (Reps.none _ _)))); intro v175 w10 ho11 hb hg_ hnew_; clear hg_ hnew_; (first | rw [← Ny174.out] at ho11 | (simp only [Int.reduceToNat] at ho11; rw [← Ny174.out] at ho11)); have n0_ := Aside0.mk (Kd.R_lower ho11 (below_size (by repeat (first | (with_reducible first | exact HB.out | apply below_alloc | apply pw_below_drewN | apply below_drew1) | exact HB.out)))); have n1_ := Aside0.mk (below_step (by repeat (first | (with_reducible first | exact HB.out | apply below_alloc | apply pw_below_drewN | apply below_drew1) | exact HB.out)) hb); clear HB; have HO176 := n0_; have HB := n1_; clear n0_ n1_; clear hb ho11; obtain ⟨Ao12, co12, eo12⟩ := Kd.R_slice HO176.out; subst eo12) | ((with_reducible refine gate_callee (f := 46) rfl ?_); refine goesL_ (some 13) rfl rfl Try.func46 (by kernel_rfl) rfl #[.slice Ao12 y174.length co12, .int .i64 1, .int .u64 3, .slice none 0 0] rfl (by (try simp only [List.map_toArray, List.map_cons, List.map_nil]); first | done | rfl | (simp only [List.length_drop, List.length_take]; rfl)) ?_; (refine (quant_Press.calls k _ _ y174 1 3 _ _ ([] : List Int) t177 t178 t179 t182 t185 t186 t187 t190 t193 _ ?side1 ?side2 ?side3 ?side4 A2.out).mono ?_); (case side1 => repeat (first | exact (Kd.R_reads' HO176.out).2.2 | (with_reducible refine Kd.C_alloc ?_ _) | (with_reducible refine Kd.C_drewN ?_ _) | (with_reducible refine Kd.C_drew ?_))); (case side2 => exact (Kd.R_reads' HO176.out).2.1); (case side3 => exact Kd.C_nil _ _); (case side4 => exact Nat.le_refl _); rintro e w13 ⟨v180, v183, v188, v191, rfl, ho0, ho1, ho2, ho3, hb⟩; refine ⟨_, rfl, ?_⟩; have n0_ := Aside0.mk (Kd.R_elder' (by (with_reducible repeat (first | apply Kd.R_alloc | apply Kd.R_drewN | apply Kd.R_drew)); exact HO176.out) (Kd.R_base ho1) hb); have n1_ := Aside0.mk (Kd.R_lower ho0 (below_size (by repeat (first | (with_reducible first | exact HB.out | apply below_alloc | apply pw_below_drewN | apply below_drew1) | exact HB.out)))); have n2_ := Aside0.mk (Kd.R_lower (Kd.R_new' ho1 (Kd.R_lt (by (with_reducible repeat (first | apply Kd.R_alloc | apply Kd.R_drewN | apply Kd.R_drew)); exact HO176.out))) (below_size (by repeat (first | (with_reducible first | exact HB.out | apply below_alloc | apply pw_below_drewN | apply below_drew1) | exact HB.out)))); have n3_ := Aside0.mk (Kd.R_lower ho2 (below_size (by repeat (first | (with_reducible first | exact HB.out | apply below_alloc | apply pw_below_drewN | apply below_drew1) | exact HB.out)))); have n4_ := Aside0.mk (Kd.R_lower ho3 (below_size (by repeat (first | (with_reducible first | exact HB.out | apply below_alloc | apply pw_below_drewN | apply below_drew1) | exact HB.out)))); have n5_ := Aside0.mk (below_step (by repeat (first | (with_reducible first | exact HB.out | apply below_alloc | apply pw_below_drewN | apply below_drew1) | exact HB.out)) hb); clear HO176; clear HB; have HO176 := n0_; have HO181 := n1_; have HO184 := n2_; have HO189 := n3_; have HO192 := n4_; have HB := n5_; clear n0_ n1_ n2_ n3_ n4_ n5_; (try clear hb); (try clear hb2); (try clear hk); (try clear hi); (try clear ho0); (try clear ho1); (try clear ho2); (try clear ho3)) | ((with_reducible refine gate_dst (N := 4) rfl ?_); (try (refine gate_guard (by rfl) ?_; dsimp only)); refine box_event ?hg (N := 4) ?hd (cs := #[.int .i64 0, .int .i64 0, .slice none 0 0, .slice none 0 0, .int .i64 0, .int .i64 0, .slice none 0 0, .slice none 0 0]) (t := 30) ?hr ?_; (case hd => rfl); (case hg => rfl); (case hr => first | (go_simp; done) | (go_simp; rfl)); intro gb194 hg w14 hbox hb; have n0_ := Aside0.mk (Kd.R_below (by (with_reducible repeat (first | apply Kd.R_alloc | apply Kd.R_drewN | apply Kd.R_drew)); exact HO176.out) hb); have n1_ := Aside0.mk (Kd.R_below (by (with_reducible repeat (first | apply Kd.R_alloc | apply Kd.R_drewN | apply Kd.R_drew)); exact HO181.out) hb); have n2_ := Aside0.mk (Kd.R_below (by (with_reducible repeat (first | apply Kd.R_alloc | apply Kd.R_drewN | apply Kd.R_drew)); exact HO184.out) hb); have n3_ := Aside0.mk (Kd.R_below (by (with_reducible repeat (first | apply Kd.R_alloc | apply Kd.R_drewN | apply Kd.R_drew)); exact HO189.out) hb); have n4_ := Aside0.mk (Kd.R_below (by (with_reducible repeat (first | apply Kd.R_alloc | apply Kd.R_drewN | apply Kd.R_drew)); exact HO192.out) hb); have n5_ := Aside0.mk (below_step (by repeat (first | (with_reducible first | exact HB.out | apply below_alloc | apply pw_below_drewN | apply below_drew1) | exact HB.out)) hb); have n6_ := Aside0.mk (hbox); have n7_ := Aside0.mk ((by rw [hg]; exact (below_size (by repeat (first | (with_reducible first | exact HB.out | apply below_alloc | apply pw_below_drewN | apply below_drew1) | exact HB.out))) : w.heap.size ≤ gb194)); have n8_ := Aside0.mk ((by rw [hg]; exact (below_size (by repeat (first | (with_reducible first | exact HB.out | apply below_alloc | apply pw_below_drewN | apply below_drew1) | exact HB.out))) : w.heap.size ≤ gb194)); clear HO176; clear HO181; clear HO184; clear HO189; clear HO192; clear HB; have HO176 := n0_; have HO181 := n1_; have HO184 := n2_; have HO189 := n3_; have HO192 := n4_; have HB := n5_; have BK194 := n6_; have GW194 := n7_; have GE194 := n8_; clear n0_ n1_ n2_ n3_ n4_ n5_ n6_ n7_ n8_; clear hb hbox hg; have hcz15_0 : w14.cell? ⟨gb194, 0, none⟩ = some (.int .i64 0) := (blk_cell BK194.out 0).trans rfl; have hcz15_1 : w14.cell? ⟨gb194, 1, none⟩ = some (.int .i64 0) := (blk_cell BK194.out 1).trans rfl; have hcz15_2 : w14.cell? ⟨gb194, 2, none⟩ = some (.slice none 0 0) := (blk_cell BK194.out 2).trans rfl; have hcz15_3 : w14.cell? ⟨gb194, 3, none⟩ = some (.slice none 0 0) := (blk_cell BK194.out 3).trans rfl; have hcz15_4 : w14.cell? ⟨gb194, 4, none⟩ = some (.int .i64 0) := (blk_cell BK194.out 4).trans rfl; have hcz15_5 : w14.cell? ⟨gb194, 5, none⟩ = some (.int .i64 0) := (blk_cell BK194.out 5).trans rfl; have hcz15_6 : w14.cell? ⟨gb194, 6, none⟩ = some (.slice none 0 0) := (blk_cell BK194.out 6).trans rfl; have hcz15_7 : w14.cell? ⟨gb194, 7, none⟩ = some (.slice none 0 0) := (blk_cell BK194.out 7).trans rfl; have hfz15_0 := blk_frozen BK194.out 0; have hfz15_1 := blk_frozen BK194.out 1; have hfz15_2 := blk_frozen BK194.out 2; have hfz15_3 := blk_frozen BK194.out 3; have hfz15_4 := blk_frozen BK194.out 4; have hfz15_5 := blk_frozen BK194.out 5; have hfz15_6 := blk_frozen BK194.out 6; have hfz15_7 := blk_frozen BK194.out 7; obtain ⟨Ao16, co16, eo16⟩ := Kd.R_slice HO181.out; subst eo16; obtain ⟨Ao17, co17, eo17⟩ := Kd.R_slice HO184.out; subst eo17; obtain ⟨Ao18, co18, eo18⟩ := Kd.R_slice HO189.out; subst eo18; obtain ⟨Ao19, co19, eo19⟩ := Kd.R_slice HO192.out; subst eo19) | ((with_reducible refine gate_dst (N := 41) rfl ?_); (try (refine gate_guard (by rfl) ?_; dsimp only)); refine Kd.R_lit (Kd.int .i64) _ 2 ?hg (N := 41) ?hd (xs := ([5, (-5)] : List Int)) (inner := [.int .i64 5, .int .i64 (-5)]) (ok := fun _ => True) (okp := fun _ => True) ?hr ?hp (fun _ hk => hk) trivial (Below.refl _ _) (Nat.le_refl _) (by simp) ?_; (case hd => rfl); (case hg => rfl); (case hr => first | (go_simp; done) | (go_simp; rfl)); (case hp => exact (Reps.one (show Kd.M (Kd.int .i64) _ _ _ 5 [.int .i64 5] from rfl) (Reps.one (show Kd.M (Kd.int .i64) _ _ _ (-5) [.int .i64 (-5)] from rfl) (Reps.none _ _)))); intro v196 w20 ho21 hb hg_ hnew_; clear hg_ hnew_; (first | rw [← Ny195.out] at ho21 | (simp only [Int.reduceToNat] at ho21; rw [← Ny195.out] at ho21)); have n0_ := Aside0.mk (Kd.R_elder' (by (with_reducible repeat (first | apply Kd.R_alloc | apply Kd.R_drewN | apply Kd.R_drew)); exact (Kd.R_mono (Kd.R_far (p := ⟨gb194, 7, none⟩) (Kd.R_far (p := ⟨gb194, 6, none⟩) (Kd.R_far (p := ⟨gb194, 5, none⟩) (Kd.R_far (p := ⟨gb194, 4, none⟩) (Kd.R_far (p := ⟨gb194, 3, none⟩) (Kd.R_far (p := ⟨gb194, 2, none⟩) (Kd.R_far (p := ⟨gb194, 1, none⟩) (Kd.R_far (p := ⟨gb194, 0, none⟩) (Kd.R_types HO176.out BK194.out (by decide)) (fun _ hk => hk.2) (.int .i64 t177)) (fun _ hk => hk.2) (.int .i64 t178)) (fun _ hk => hk.2) (.slice Ao16 t179.length co16)) (fun _ hk => hk.2) (.slice Ao17 t182.length co17)) (fun _ hk => hk.2) (.int .i64 t185)) (fun _ hk => hk.2) (.int .i64 t186)) (fun _ hk => hk.2) (.slice Ao18 t187.length co18)) (fun _ hk => hk.2) (.slice Ao19 t190.length co19)) (fun _ h_ => h_.1))) (Kd.R_base ho21) hb); have n1_ := Aside0.mk (Kd.R_below (by (with_reducible repeat (first | apply Kd.R_alloc | apply Kd.R_drewN | apply Kd.R_drew)); exact (Kd.R_mono (Kd.R_far (p := ⟨gb194, 7, none⟩) (Kd.R_far (p := ⟨gb194, 6, none⟩) (Kd.R_far (p := ⟨gb194, 5, none⟩) (Kd.R_far (p := ⟨gb194, 4, none⟩) (Kd.R_far (p := ⟨gb194, 3, none⟩) (Kd.R_far (p := ⟨gb194, 2, none⟩) (Kd.R_far (p := ⟨gb194, 1, none⟩) (Kd.R_far (p := ⟨gb194, 0, none⟩) (Kd.R_types HO181.out BK194.out (by decide)) (fun _ hk => hk.2) (.int .i64 t177)) (fun _ hk => hk.2) (.int .i64 t178)) (fun _ hk => hk.2) (.slice Ao16 t179.length co16)) (fun _ hk => hk.2) (.slice Ao17 t182.length co17)) (fun _ hk => hk.2) (.int .i64 t185)) (fun _ hk => hk.2) (.int .i64 t186)) (fun _ hk => hk.2) (.slice Ao18 t187.length co18)) (fun _ hk => hk.2) (.slice Ao19 t190.length co19)) (fun _ h_ => h_.1))) hb); have n2_ := Aside0.mk (Kd.R_elder' (by (with_reducible repeat (first | apply Kd.R_alloc | apply Kd.R_drewN | apply Kd.R_drew)); exact (Kd.R_mono (Kd.R_far (p := ⟨gb194, 7, none⟩) (Kd.R_far (p := ⟨gb194, 6, none⟩) (Kd.R_far (p := ⟨gb194, 5, none⟩) (Kd.R_far (p := ⟨gb194, 4, none⟩) (Kd.R_far (p := ⟨gb194, 3, none⟩) (Kd.R_far (p := ⟨gb194, 2, none⟩) (Kd.R_far (p := ⟨gb194, 1, none⟩) (Kd.R_far (p := ⟨gb194, 0, none⟩) (Kd.R_types HO184.out BK194.out (by decide)) (fun _ hk => hk.2) (.int .i64 t177)) (fun _ hk => hk.2) (.int .i64 t178)) (fun _ hk => hk.2) (.slice Ao16 t179.length co16)) (fun _ hk => hk.2) (.slice Ao17 t182.length co17)) (fun _ hk => hk.2) (.int .i64 t185)) (fun _ hk => hk.2) (.int .i64 t186)) (fun _ hk => hk.2) (.slice Ao18 t187.length co18)) (fun _ hk => hk.2) (.slice Ao19 t190.length co19)) (fun _ h_ => h_.1))) (Kd.R_base ho21) hb); have n3_ := Aside0.mk (Kd.R_below (by (with_reducible repeat (first | apply Kd.R_alloc | apply Kd.R_drewN | apply Kd.R_drew)); exact (Kd.R_mono (Kd.R_far (p := ⟨gb194, 7, none⟩) (Kd.R_far (p := ⟨gb194, 6, none⟩) (Kd.R_far (p := ⟨gb194, 5, none⟩) (Kd.R_far (p := ⟨gb194, 4, none⟩) (Kd.R_far (p := ⟨gb194, 3, none⟩) (Kd.R_far (p := ⟨gb194, 2, none⟩) (Kd.R_far (p := ⟨gb194, 1, none⟩) (Kd.R_far (p := ⟨gb194, 0, none⟩) (Kd.R_types HO189.out BK194.out (by decide)) (fun _ hk => hk.2) (.int .i64 t177)) (fun _ hk => hk.2) (.int .i64 t178)) (fun _ hk => hk.2) (.slice Ao16 t179.length co16)) (fun _ hk => hk.2) (.slice Ao17 t182.length co17)) (fun _ hk => hk.2) (.int .i64 t185)) (fun _ hk => hk.2) (.int .i64 t186)) (fun _ hk => hk.2) (.slice Ao18 t187.length co18)) (fun _ hk => hk.2) (.slice Ao19 t190.length co19)) (fun _ h_ => h_.1))) hb); have n4_ := Aside0.mk (Kd.R_below (by (with_reducible repeat (first | apply Kd.R_alloc | apply Kd.R_drewN | apply Kd.R_drew)); exact (Kd.R_mono (Kd.R_far (p := ⟨gb194, 7, none⟩) (Kd.R_far (p := ⟨gb194, 6, none⟩) (Kd.R_far (p := ⟨gb194, 5, none⟩) (Kd.R_far (p := ⟨gb194, 4, none⟩) (Kd.R_far (p := ⟨gb194, 3, none⟩) (Kd.R_far (p := ⟨gb194, 2, none⟩) (Kd.R_far (p := ⟨gb194, 1, none⟩) (Kd.R_far (p := ⟨gb194, 0, none⟩) (Kd.R_types HO192.out BK194.out (by decide)) (fun _ hk => hk.2) (.int .i64 t177)) (fun _ hk => hk.2) (.int .i64 t178)) (fun _ hk => hk.2) (.slice Ao16 t179.length co16)) (fun _ hk => hk.2) (.slice Ao17 t182.length co17)) (fun _ hk => hk.2) (.int .i64 t185)) (fun _ hk => hk.2) (.int .i64 t186)) (fun _ hk => hk.2) (.slice Ao18 t187.length co18)) (fun _ hk => hk.2) (.slice Ao19 t190.length co19)) (fun _ h_ => h_.1))) hb); have n5_ := Aside0.mk (Kd.R_lower (Kd.R_new' (Kd.R_new' ho21 (Kd.R_lt (by (with_reducible repeat (first | apply Kd.R_alloc | apply Kd.R_drewN | apply Kd.R_drew)); exact (Kd.R_mono (Kd.R_far (p := ⟨gb194, 7, none⟩) (Kd.R_far (p := ⟨gb194, 6, none⟩) (Kd.R_far (p := ⟨gb194, 5, none⟩) (Kd.R_far (p := ⟨gb194, 4, none⟩) (Kd.R_far (p := ⟨gb194, 3, none⟩) (Kd.R_far (p := ⟨gb194, 2, none⟩) (Kd.R_far (p := ⟨gb194, 1, none⟩) (Kd.R_far (p := ⟨gb194, 0, none⟩) (Kd.R_types HO176.out BK194.out (by decide)) (fun _ hk => hk.2) (.int .i64 t177)) (fun _ hk => hk.2) (.int .i64 t178)) (fun _ hk => hk.2) (.slice Ao16 t179.length co16)) (fun _ hk => hk.2) (.slice Ao17 t182.length co17)) (fun _ hk => hk.2) (.int .i64 t185)) (fun _ hk => hk.2) (.int .i64 t186)) (fun _ hk => hk.2) (.slice Ao18 t187.length co18)) (fun _ hk => hk.2) (.slice Ao19 t190.length co19)) (fun _ h_ => h_.1))))) (Kd.R_lt (by (with_reducible repeat (first | apply Kd.R_alloc | apply Kd.R_drewN | apply Kd.R_drew)); exact (Kd.R_mono (Kd.R_far (p := ⟨gb194, 7, none⟩) (Kd.R_far (p := ⟨gb194, 6, none⟩) (Kd.R_far (p := ⟨gb194, 5, none⟩) (Kd.R_far (p := ⟨gb194, 4, none⟩) (Kd.R_far (p := ⟨gb194, 3, none⟩) (Kd.R_far (p := ⟨gb194, 2, none⟩) (Kd.R_far (p := ⟨gb194, 1, none⟩) (Kd.R_far (p := ⟨gb194, 0, none⟩) (Kd.R_types HO184.out BK194.out (by decide)) (fun _ hk => hk.2) (.int .i64 t177)) (fun _ hk => hk.2) (.int .i64 t178)) (fun _ hk => hk.2) (.slice Ao16 t179.length co16)) (fun _ hk => hk.2) (.slice Ao17 t182.length co17)) (fun _ hk => hk.2) (.int .i64 t185)) (fun _ hk => hk.2) (.int .i64 t186)) (fun _ hk => hk.2) (.slice Ao18 t187.length co18)) (fun _ hk => hk.2) (.slice Ao19 t190.length co19)) (fun _ h_ => h_.1))))) (below_size (by repeat (first | (with_reducible first | exact HB.out | apply below_alloc | apply pw_below_drewN | apply below_drew1 | refine below_set ?_ GE194.out) | exact HB.out)))); have n6_ := Aside0.mk (blk_below (g := gb194) (o := .cells #[.int .i64 t177, .int .i64 t178, .slice Ao16 t179.length co16, .slice Ao17 t182.length co17, .int .i64 t185, .int .i64 t186, .slice Ao18 t187.length co18, .slice Ao19 t190.length co19] 30 (0, 0)) (by (with_reducible repeat (first | refine blk_drewN ?_ _ | refine blk_drew ?_ | refine blk_alloc ?_ _)); refine blk_put (cs := #[.int .i64 t177, .int .i64 t178, .slice Ao16 t179.length co16, .slice Ao17 t182.length co17, .int .i64 t185, .int .i64 t186, .slice Ao18 t187.length co18, .slice none 0 0]) ?_ 7 _ rfl; (with_reducible repeat (first | refine blk_drewN ?_ _ | refine blk_drew ?_ | refine blk_alloc ?_ _)); refine blk_put (cs := #[.int .i64 t177, .int .i64 t178, .slice Ao16 t179.length co16, .slice Ao17 t182.length co17, .int .i64 t185, .int .i64 t186, .slice none 0 0, .slice none 0 0]) ?_ 6 _ rfl; (with_reducible repeat (first | refine blk_drewN ?_ _ | refine blk_drew ?_ | refine blk_alloc ?_ _)); refine blk_put (cs := #[.int .i64 t177, .int .i64 t178, .slice Ao16 t179.length co16, .slice Ao17 t182.length co17, .int .i64 t185, .int .i64 0, .slice none 0 0, .slice none 0 0]) ?_ 5 _ rfl; (with_reducible repeat (first | refine blk_drewN ?_ _ | refine blk_drew ?_ | refine blk_alloc ?_ _)); refine blk_put (cs := #[.int .i64 t177, .int .i64 t178, .slice Ao16 t179.length co16, .slice Ao17 t182.length co17, .int .i64 0, .int .i64 0, .slice none 0 0, .slice none 0 0]) ?_ 4 _ rfl; (with_reducible repeat (first | refine blk_drewN ?_ _ | refine blk_drew ?_ | refine blk_alloc ?_ _)); refine blk_put (cs := #[.int .i64 t177, .int .i64 t178, .slice Ao16 t179.length co16, .slice none 0 0, .int .i64 0, .int .i64 0, .slice none 0 0, .slice none 0 0]) ?_ 3 _ rfl; (with_reducible repeat (first | refine blk_drewN ?_ _ | refine blk_drew ?_ | refine blk_alloc ?_ _)); refine blk_put (cs := #[.int .i64 t177, .int .i64 t178, .slice none 0 0, .slice none 0 0, .int .i64 0, .int .i64 0, .slice none 0 0, .slice none 0 0]) ?_ 2 _ rfl; (with_reducible repeat (first | refine blk_drewN ?_ _ | refine blk_drew ?_ | refine blk_alloc ?_ _)); refine blk_put (cs := #[.int .i64 t177, .int .i64 0, .slice none 0 0, .slice none 0 0, .int .i64 0, .int .i64 0, .slice none 0 0, .slice none 0 0]) ?_ 1 _ rfl; (with_reducible repeat (first | refine blk_drewN ?_ _ | refine blk_drew ?_ | refine blk_alloc ?_ _)); refine blk_put (cs := #[.int .i64 0, .int .i64 0, .slice none 0 0, .slice none 0 0, .int .i64 0, .int .i64 0, .slice none 0 0, .slice none 0 0]) ?_ 0 _ rfl; (with_reducible repeat (first | refine blk_drewN ?_ _ | refine blk_drew ?_ | refine blk_alloc ?_ _)); exact BK194.out) hb); have n7_ := Aside0.mk (below_step (by repeat (first | (with_reducible first | exact HB.out | apply below_alloc | apply pw_below_drewN | apply below_drew1 | refine below_set ?_ GE194.out) | exact HB.out)) hb); clear HO176; clear HO181; clear HO184; clear HO189; clear HO192; clear BK194; clear HB; have HO176 := n0_; have HO181 := n1_; have HO184 := n2_; have HO189 := n3_; have HO192 := n4_; have HO197 := n5_; have BK194 := n6_; have HB := n7_; clear n0_ n1_ n2_ n3_ n4_ n5_ n6_ n7_; clear hb ho21; have hcz22_0 : w20.cell? ⟨gb194, 0, none⟩ = some (.int .i64 t177) := (blk_cell BK194.out 0).trans rfl; have hcz22_1 : w20.cell? ⟨gb194, 1, none⟩ = some (.int .i64 t178) := (blk_cell BK194.out 1).trans rfl; have hcz22_2 : w20.cell? ⟨gb194, 2, none⟩ = some (.slice Ao16 t179.length co16) := (blk_cell BK194.out 2).trans rfl; have hcz22_3 : w20.cell? ⟨gb194, 3, none⟩ = some (.slice Ao17 t182.length co17) := (blk_cell BK194.out 3).trans rfl; have hcz22_4 : w20.cell? ⟨gb194, 4, none⟩ = some (.int .i64 t185) := (blk_cell BK194.out 4).trans rfl; have hcz22_5 : w20.cell? ⟨gb194, 5, none⟩ = some (.int .i64 t186) := (blk_cell BK194.out 5).trans rfl; have hcz22_6 : w20.cell? ⟨gb194, 6, none⟩ = some (.slice Ao18 t187.length co18) := (blk_cell BK194.out 6).trans rfl; have hcz22_7 : w20.cell? ⟨gb194, 7, none⟩ = some (.slice Ao19 t190.length co19) := (blk_cell BK194.out 7).trans rfl; have hfz22_0 := blk_frozen BK194.out 0; have hfz22_1 := blk_frozen BK194.out 1; have hfz22_2 := blk_frozen BK194.out 2; have hfz22_3 := blk_frozen BK194.out 3; have hfz22_4 := blk_frozen BK194.out 4; have hfz22_5 := blk_frozen BK194.out 5; have hfz22_6 := blk_frozen BK194.out 6; have hfz22_7 := blk_frozen BK194.out 7; obtain ⟨Ao23, co23, eo23⟩ := Kd.R_slice HO197.out; subst eo23) | (go_at_call 58; (with_reducible refine (quant_Near.calls _ _ y195 t177 t178 _ _ t179 _ _ t182 t185 t186 _ _ t187 _ _ t190 t198 _ ?side1 ?side2 ?side3 ?side4 ?side5 ?side6 ?side7 ?side8 ?side9 ?side10 A9.out).mono ?_); (case side1 => repeat (first | exact (Kd.R_reads' HO197.out).2.2 | (with_reducible refine Kd.C_alloc ?_ _) | (with_reducible refine Kd.C_drewN ?_ _) | (with_reducible refine Kd.C_drew ?_))); (case side2 => exact (Kd.R_reads' HO197.out).2.1); (case side3 => repeat (first | exact (Kd.R_reads' HO181.out).2.2 | (with_reducible refine Kd.C_alloc ?_ _) | (with_reducible refine Kd.C_drewN ?_ _) | (with_reducible refine Kd.C_drew ?_))); (case side4 => exact (Kd.R_reads' HO181.out).2.1); (case side5 => repeat (first | exact (Kd.R_reads' HO184.out).2.2 | (with_reducible refine Kd.C_alloc ?_ _) | (with_reducible refine Kd.C_drewN ?_ _) | (with_reducible refine Kd.C_drew ?_))); (case side6 => exact (Kd.R_reads' HO184.out).2.1); (case side7 => repeat (first | exact (Kd.R_reads' HO189.out).2.2 | (with_reducible refine Kd.C_alloc ?_ _) | (with_reducible refine Kd.C_drewN ?_ _) | (with_reducible refine Kd.C_drew ?_))); (case side8 => exact (Kd.R_reads' HO189.out).2.1); (case side9 => repeat (first | exact (Kd.R_reads' HO192.out).2.2 | (with_reducible refine Kd.C_alloc ?_ _) | (with_reducible refine Kd.C_drewN ?_ _) | (with_reducible refine Kd.C_drew ?_))); (case side10 => exact (Kd.R_reads' HO192.out).2.1); rintro e w24 ⟨rfl, hb⟩; have n0_ := Aside0.mk (Kd.R_below (by (with_reducible repeat (first | apply Kd.R_alloc | apply Kd.R_drewN | apply Kd.R_drew)); exact HO176.out) hb); have n1_ := Aside0.mk (Kd.R_below (by (with_reducible repeat (first | apply Kd.R_alloc | apply Kd.R_drewN | apply Kd.R_drew)); exact HO181.out) hb); have n2_ := Aside0.mk (Kd.R_below (by (with_reducible repeat (first | apply Kd.R_alloc | apply Kd.R_drewN | apply Kd.R_drew)); exact HO184.out) hb); have n3_ := Aside0.mk (Kd.R_below (by (with_reducible repeat (first | apply Kd.R_alloc | apply Kd.R_drewN | apply Kd.R_drew)); exact HO189.out) hb); have n4_ := Aside0.mk (Kd.R_below (by (with_reducible repeat (first | apply Kd.R_alloc | apply Kd.R_drewN | apply Kd.R_drew)); exact HO192.out) hb); have n5_ := Aside0.mk (Kd.R_below (by (with_reducible repeat (first | apply Kd.R_alloc | apply Kd.R_drewN | apply Kd.R_drew)); exact HO197.out) hb); have n6_ := Aside0.mk (blk_below (g := gb194) (o := .cells #[.int .i64 t177, .int .i64 t178, .slice Ao16 t179.length co16, .slice Ao17 t182.length co17, .int .i64 t185, .int .i64 t186, .slice Ao18 t187.length co18, .slice Ao19 t190.length co19] 30 (0, 0)) (by (with_reducible repeat (first | refine blk_drewN ?_ _ | refine blk_drew ?_ | refine blk_alloc ?_ _)); exact BK194.out) hb); have n7_ := Aside0.mk (below_step (by repeat (first | (with_reducible first | exact HB.out | apply below_alloc | apply pw_below_drewN | apply below_drew1 | refine below_set ?_ GE194.out) | exact HB.out)) hb); clear HO176; clear HO181; clear HO184; clear HO189; clear HO192; clear HO197; clear BK194; clear HB; have HO176 := n0_; have HO181 := n1_; have HO184 := n2_; have HO189 := n3_; have HO192 := n4_; have HO197 := n5_; have BK194 := n6_; have HB := n7_; clear n0_ n1_ n2_ n3_ n4_ n5_ n6_ n7_; (try clear hb); (try clear hb2); (try clear hk); (try clear hi)))
       go_ret
       exact ⟨by first | rfl | (simp [errW_none, errW_some] <;> rfl) | (simp [*, errW_none, errW_some] <;> rfl), by repeat (first | (with_reducible first | exact HB.out | apply below_alloc | apply pw_below_drewN | apply below_drew1 | refine below_set ?_ GE194.out) | exact HB.out)⟩
      ·
       rw [if_neg c8] at H
       exact absurd (Option.some.inj H) (by rw [HR_.out]; decide)
     ·
      rw [if_neg c7] at H
      exact absurd (Option.some.inj H) (by rw [HR_.out]; decide)
    ·
     rw [if_neg c6] at H
     exact absurd (Option.some.inj H) (by rw [HR_.out]; decide)
   ·
    rw [if_neg c5] at H
    exact absurd (Option.some.inj H) (by rw [HR_.out]; decide)
  ·
   rw [if_neg c4] at H
   exact absurd (Option.some.inj H) (by rw [HR_.out]; decide)
 ·
  rw [if_neg c3] at H
  exact absurd (Option.some.inj H) (by rw [HR_.out]; decide)

def thrumlaw10_live.f : Option Bool := some true
theorem thrumlaw10_live.calls  (r : Bool) (w : World) (h : thrumlaw10_live.f  = some r) :
    Calls Try.prog 44 #[] w fun e w' => e = .returned (.bool r) ∧ Below w.heap.size w w' := by
  have hr : r = true := (Option.some.inj h).symm
  refine thrumlaw10_liveP.calls 12 r w (Eq.trans ?_ h) hr
  decide +kernel


/-! ### thrumref10_StepsP: function 52 -/
def thrumref10_StepsP.f (a0 : Int) : Option (Int × Int) := if a0 < 1 then (some (0, 1)) else (if a0 > 8 then (some (0, 1)) else (if 0 ≤ a0 then (some (IntKind.u64.wrap ((shl .u64 1 a0) - 1), 0)) else (none)))
set_option maxHeartbeats 8000000 in
set_option maxRecDepth 100000 in
theorem thrumref10_StepsP.calls (a0 : Int) (r1 : Int) (r2 : Int) (w : World) (h : thrumref10_StepsP.f a0 = some (r1, r2)) :
  Calls Try.prog 52 #[.int .i64 a0] w fun e w' => e = .returned (.tuple #[.int .u64 r1, .int .i64 r2]) ∧ Drawn0 w w' := by
 have H : (if a0 < 1 then (some (0, 1)) else (if a0 > 8 then (some (0, 1)) else (if 0 ≤ a0 then (some (IntKind.u64.wrap ((shl .u64 1 a0) - 1), 0)) else (none)))) = some (r1, r2) := h
 clear h
 by_cases c2 : a0 < 1
 ·
  rw [if_pos c2] at H
  have c2b0 : decide (a0 < 1) = true := decide_eq_true c2
  clear c2
  simp only [Option.some.injEq, Prod.mk.injEq] at H
  obtain ⟨rfl, rfl⟩ := H
  go_enter Try.func52, Try.ntmps52
  go_wp2
  go_ret2
  exact ⟨by first | rfl | (simp; done) | (simp [*]; done), by repeat (first | exact Drawn0.refl _ | apply Drawn0.step)⟩
 ·
  rw [if_neg c2] at H
  have c2b0 : decide (a0 < 1) = false := decide_eq_false c2
  clear c2
  by_cases c3 : a0 > 8
  ·
   rw [if_pos c3] at H
   have c3b0 : decide (8 < a0) = true := decide_eq_true c3
   clear c3
   simp only [Option.some.injEq, Prod.mk.injEq] at H
   obtain ⟨rfl, rfl⟩ := H
   go_enter Try.func52, Try.ntmps52
   go_wp2
   go_ret2
   exact ⟨by first | rfl | (simp; done) | (simp [*]; done), by repeat (first | exact Drawn0.refl _ | apply Drawn0.step)⟩
  ·
   rw [if_neg c3] at H
   have c3b0 : decide (8 < a0) = false := decide_eq_false c3
   clear c3
   by_cases c4 : 0 ≤ a0
   ·
    rw [if_pos c4] at H
    have c4b0 := eq_true c4
    have c4b1 : decide (0 ≤ a0) = true := decide_eq_true c4
    clear c4
    obtain ⟨ji5, hji5⟩ : ∃ j_ : Int, (shl .u64 1 a0) = j_ := ⟨_, rfl⟩
    replace H : (some (IntKind.u64.wrap ((ji5) - 1), 0)) = some (r1, r2) := by first | (rw [hji5] at H; exact H) | (simp only [hji5] at H ⊢; exact H)
    have hji5_ : (IntKind.u64.wrap (1 * 2 ^ min a0.toNat 64)) = ji5 := hji5
    have hji5z : a0 ≤ 64 → (IntKind.u64.wrap (1 * 2 ^ a0.toNat)) = ji5 := shl_small hji5
    have hji5u : (IntKind.u64.wrap (2 ^ min a0.toNat 64)) = ji5 := by have h_ := hji5_; rw [Int.one_mul] at h_; exact h_
    have hji5v : a0 ≤ 64 → (IntKind.u64.wrap (2 ^ a0.toNat)) = ji5 := fun hle_ => by have h_ := hji5z hle_; rw [Int.one_mul] at h_; exact h_
    simp only [Option.some.injEq, Prod.mk.injEq] at H
    obtain ⟨rfl, rfl⟩ := H
    go_enter Try.func52, Try.ntmps52
    go_wp2
    go_ret2
    exact ⟨by first | rfl | (simp; done) | (simp only [← hji5] <;> (first | rfl | simp)) | (simp [*]; done), by repeat (first | exact Drawn0.refl _ | apply Drawn0.step)⟩
   ·
    rw [if_neg c4] at H
    exact absurd H (by simp)

def thrumref10_Steps.f (a0 : Int) : Option (Int × Int) := some (stepsF a0)
theorem thrumref10_Steps.is (a0 : Int) : thrumref10_StepsP.f a0 = some (stepsF a0) := by
  unfold thrumref10_StepsP.f stepsF
  by_cases c : a0 < 1
  · rw [if_pos c, if_pos (show badW a0 from .inl c)]
  · rw [if_neg c]
    by_cases c2 : a0 > 8
    · rw [if_pos c2, if_pos (show badW a0 from .inr c2)]
    · rw [if_neg c2, if_pos (show 0 ≤ a0 by omega), if_neg (show ¬ badW a0 from fun h => by unfold badW at h; omega)]
      have hc : a0 = 1 ∨ a0 = 2 ∨ a0 = 3 ∨ a0 = 4 ∨ a0 = 5 ∨ a0 = 6 ∨ a0 = 7 ∨ a0 = 8 := by omega
      rcases hc with rfl | rfl | rfl | rfl | rfl | rfl | rfl | rfl <;> decide +kernel
theorem thrumref10_Steps.calls (a0 : Int) (r1 : Int) (r2 : Int) (w : World) (h : thrumref10_Steps.f a0 = some (r1, r2)) :
    Calls Try.prog 52 #[.int .i64 a0] w fun e w' => e = .returned (.tuple #[.int .u64 r1, .int .i64 r2]) ∧ Drawn0 w w' := by
  exact thrumref10_StepsP.calls a0 r1 r2 w ((thrumref10_Steps.is a0).trans h)


/-! ### thrumref09_SizeP: function 53 -/
def thrumref09_SizeP.f (a0 : Int) : Option (Int) := if a0 < 0 then (some (IntKind.u64.wrap ((IntKind.u64.wrap (wrap64 (-(wrap64 (a0 + 1))))) + 1))) else (some (IntKind.u64.wrap (a0)))
set_option maxHeartbeats 8000000 in
set_option maxRecDepth 100000 in
theorem thrumref09_SizeP.calls (a0 : Int) (r : Int) (w : World) (h : thrumref09_SizeP.f a0 = some r) :
  Calls Try.prog 53 #[.int .i64 a0] w fun e w' => e = .returned (.int .u64 r) ∧ Drawn0 w w' := by
 have H : (if a0 < 0 then (some (IntKind.u64.wrap ((IntKind.u64.wrap (wrap64 (-(wrap64 (a0 + 1))))) + 1))) else (some (IntKind.u64.wrap (a0)))) = some r := h
 clear h
 by_cases c2 : a0 < 0
 ·
  rw [if_pos c2] at H
  have c2b0 : decide (a0 < 0) = true := decide_eq_true c2
  clear c2
  obtain rfl := Option.some.inj H
  go_enter Try.func53, Try.ntmps53
  go_wp2
  go_ret
  exact ⟨by first | rfl | (simp; done) | (simp [*]; done), by repeat (first | exact Drawn0.refl _ | apply Drawn0.step)⟩
 ·
  rw [if_neg c2] at H
  have c2b0 : decide (a0 < 0) = false := decide_eq_false c2
  clear c2
  obtain rfl := Option.some.inj H
  go_enter Try.func53, Try.ntmps53
  go_wp2
  go_ret
  exact ⟨by first | rfl | (simp; done) | (simp [*]; done), by repeat (first | exact Drawn0.refl _ | apply Drawn0.step)⟩

def thrumref09_Size.f (a0 : Int) : Option Int := if I64 a0 then some (absN a0) else none
theorem thrumref09_Size.of (a0 : Int)  (h_ : I64 a0) : thrumref09_Size.f a0 = some (absN a0) := if_pos h_
theorem thrumref09_Size.is (a0 : Int) (h : I64 a0) : thrumref09_SizeP.f a0 = some (absN a0) := by
  unfold thrumref09_SizeP.f absN
  unfold I64 at h
  by_cases c : a0 < 0
  · rw [if_pos c, wrap64_of (x := a0 + 1) (by unfold I64; omega), wrap64_of (x := -(a0 + 1)) (by unfold I64; omega)]; simp only [wu]; congr 1; omega
  · rw [if_neg c]; simp only [wu]; congr 1; omega
theorem thrumref09_Size.calls (a0 : Int) (r : Int) (w : World) (h : thrumref09_Size.f a0 = some r) :
    Calls Try.prog 53 #[.int .i64 a0] w fun e w' => e = .returned (.int .u64 r) ∧ Drawn0 w w' := by
  unfold thrumref09_Size.f at h
  split at h
  case isFalse => cases h
  rename_i hv
  exact thrumref09_SizeP.calls a0 r w ((thrumref09_Size.is a0 hv).trans h)


end Go.Proofs.Ytkfhdpnfcaghbaa.HQ
