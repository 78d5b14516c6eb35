/- What Go functions do, each as a plain Lean function with the same answers, and the proof of it, in every world: printed by the session's driver over the kit's print, with texts by hand. -/
import Derived.Test.YtkfhdpnfcaghbaaHQx0
import Derived.Test.YtkfhdpnfcaghbaaHQx1
import Derived.Test.YtkfhdpnfcaghbaaHQx2
import Derived.Test.YtkfhdpnfcaghbaaHQx3
import Derived.Test.YtkfhdpnfcaghbaaHQx6
import Derived.Test.YtkfhdpnfcaghbaaHQx12
namespace Go.Proofs.Ytkfhdpnfcaghbaa.HQ
open Go.RowKit Go.Proofs.YtkfhdpnfcaghbaaW.PrintWords Go.Proofs.YtkfhdpnfcaghbaaW.PrintLast Go.Proofs.YtkfhdpnfcaghbaaW.PrintMore
attribute [local go_sem] max2_int min2_int max_two min_two max_three min_three max_four min_four   -- for this text's walks alone
open Go.Proofs.Ytkfhdpnfcaghbaa.Sp
attribute [local go_sem] Go.Proofs.Ytkfhdpnfcaghbaa.Sp.u64_not
set_option linter.unusedVariables false
set_option linter.unusedSimpArgs false

/-! ### thrumlaw10_liveP: function 44 -/
def thrumlaw10_liveP.f (k : Nat)  : Option (Bool) := (quant_Level.f 7 10 2).bind fun bt171 => ((quant_Press.f k (([5, (-5)] : List Int)) 1 3 ([] : List Int)).bind fun bt177 => (if bt171.1 = 2 then (if bt171.2.1 = 1 then (if bt171.2.2 = 0 then (if bt177.2.2.2.2.2.2.2.2 = 0 then (if bt177.2.1 = 2 then (if bt177.2.2.2.2.1 = 5 then ((quant_Near.f (([5, (-5)] : List Int)) bt177.1 bt177.2.1 bt177.2.2.1 bt177.2.2.2.1 bt177.2.2.2.2.1 bt177.2.2.2.2.2.1 bt177.2.2.2.2.2.2.1 bt177.2.2.2.2.2.2.2.1).bind fun t198 => (some t198)) else (some false)) else (some false)) else (some false)) else (some false)) else (some false)) else (some false)))
theorem thrumlaw10_liveP.mono : ∀ k, LeO (thrumlaw10_liveP.f k ) (thrumlaw10_liveP.f (k + 1) ) := by
 intro  k
 unfold thrumlaw10_liveP.f
 repeat' first
   | (with_reducible exact quant_Press.mono _ _ _ _ _)
   | (with_reducible exact LeO.refl _)
   | (with_reducible exact LeO.none _)
   | (with_reducible refine LeO.ite ?_ ?_)
   | (with_reducible refine LeO.bind ?_ (fun _ => ?_))
   | exact quant_Press.mono _ _ _ _ _
   | exact LeO.none _
   | refine LeO.ite ?_ ?_
   | refine LeO.bind ?_ (fun _ => ?_)
set_option maxHeartbeats 80000000 in
set_option maxRecDepth 100000 in
theorem thrumlaw10_liveP.calls (k : Nat)  (r : Bool) (w : World) (h : thrumlaw10_liveP.f k  = some r) (hr_ : r = true) :
  Calls Try.prog 44 #[] w fun e w' => e = .returned (.bool r) ∧ Below w.heap.size w w' := by
 have HR_ := Aside0.mk hr_
 clear hr_
 have hu30 := Try.underlying30
 have HB := Aside0.mk (Below.refl w.heap.size w)
 have H : ((quant_Level.f 7 10 2).bind fun bt171 => ((quant_Press.f k (([5, (-5)] : List Int)) 1 3 ([] : List Int)).bind fun bt177 => (if bt171.1 = 2 then (if bt171.2.1 = 1 then (if bt171.2.2 = 0 then (if bt177.2.2.2.2.2.2.2.2 = 0 then (if bt177.2.1 = 2 then (if bt177.2.2.2.2.1 = 5 then ((quant_Near.f (([5, (-5)] : List Int)) bt177.1 bt177.2.1 bt177.2.2.1 bt177.2.2.2.1 bt177.2.2.2.2.1 bt177.2.2.2.2.2.1 bt177.2.2.2.2.2.2.1 bt177.2.2.2.2.2.2.2.1).bind fun t198 => (some t198)) else (some false)) else (some false)) else (some false)) else (some false)) else (some false)) else (some false)))) = some r := h
 clear h
 replace H := Option.bind_eq_some_iff.mp H
 obtain ⟨⟨t171, t172, t173⟩, A10, H⟩ := H
 replace H : ((quant_Press.f k (([5, (-5)] : List Int)) 1 3 ([] : List Int)).bind fun bt177 => (if t171 = 2 then (if t172 = 1 then (if t173 = 0 then (if bt177.2.2.2.2.2.2.2.2 = 0 then (if bt177.2.1 = 2 then (if bt177.2.2.2.2.1 = 5 then ((quant_Near.f (([5, (-5)] : List Int)) bt177.1 bt177.2.1 bt177.2.2.1 bt177.2.2.2.1 bt177.2.2.2.2.1 bt177.2.2.2.2.2.1 bt177.2.2.2.2.2.2.1 bt177.2.2.2.2.2.2.2.1).bind fun t198 => (some t198)) else (some false)) else (some false)) else (some false)) else (some false)) else (some false)) else (some false))) = some r := H
 have A1 := Aside0.mk A10
 clear A10
 obtain ⟨y174, hy174⟩ : ∃ y_ : List Int, y_ = (([5, (-5)] : List Int)) := ⟨_, rfl⟩
 replace H : ((quant_Press.f k y174 1 3 ([] : List Int)).bind fun bt177 => (if t171 = 2 then (if t172 = 1 then (if t173 = 0 then (if bt177.2.2.2.2.2.2.2.2 = 0 then (if bt177.2.1 = 2 then (if bt177.2.2.2.2.1 = 5 then ((quant_Near.f (([5, (-5)] : List Int)) bt177.1 bt177.2.1 bt177.2.2.1 bt177.2.2.2.1 bt177.2.2.2.2.1 bt177.2.2.2.2.2.1 bt177.2.2.2.2.2.2.1 bt177.2.2.2.2.2.2.2.1).bind fun t198 => (some t198)) else (some false)) else (some false)) else (some false)) else (some false)) else (some false)) else (some false))) = some r := by first | (rw [hy174]; with_reducible exact H) | (have H2_ := (Option.bind_some _ _).symm.trans H; rw [hy174]; with_reducible exact H2_) | (have H2_ := (Option.bind_some _ _).symm.trans H; with_reducible exact H2_) | with_reducible exact H | (rw [hy174]; exact H) | exact H
 have Ny174 := Aside0.mk hy174
 clear hy174
 replace H := Option.bind_eq_some_iff.mp H
 obtain ⟨⟨t177, t178, t179, t182, t185, t186, t187, t190, t193⟩, A20, H⟩ := H
 replace H : (if t171 = 2 then (if t172 = 1 then (if t173 = 0 then (if t193 = 0 then (if t178 = 2 then (if t185 = 5 then ((quant_Near.f (([5, (-5)] : List Int)) t177 t178 t179 t182 t185 t186 t187 t190).bind fun t198 => (some t198)) else (some false)) else (some false)) else (some false)) else (some false)) else (some false)) else (some false)) = some r := H
 have A2 := Aside0.mk A20
 clear A20
 by_cases c3 : t171 = 2
 ·
  rw [if_pos c3] at H
  have c3b0 : (t171 == 2) = true := beq_iff_eq.mpr c3
  have c3b1 : (t171 != 2) = false := bne_eq_false_iff_eq.mpr c3
  clear c3
  by_cases c4 : t172 = 1
  ·
   rw [if_pos c4] at H
   have c4b0 : (t172 == 1) = true := beq_iff_eq.mpr c4
   have c4b1 : (t172 != 1) = false := bne_eq_false_iff_eq.mpr c4
   clear c4
   by_cases c5 : t173 = 0
   ·
    rw [if_pos c5] at H
    have c5b0 : (t173 == 0) = true := beq_iff_eq.mpr c5
    have c5b1 : (t173 != 0) = false := bne_eq_false_iff_eq.mpr c5
    clear c5
    by_cases c6 : t193 = 0
    ·
     rw [if_pos c6] at H
     have c6b0 : (t193 == 0) = true := beq_iff_eq.mpr c6
     have c6b1 : (t193 != 0) = false := bne_eq_false_iff_eq.mpr c6
     clear c6
     by_cases c7 : t178 = 2
     ·
      rw [if_pos c7] at H
      have c7b0 : (t178 == 2) = true := beq_iff_eq.mpr c7
      have c7b1 : (t178 != 2) = false := bne_eq_false_iff_eq.mpr c7
      clear c7
      by_cases c8 : t185 = 5
      ·
       rw [if_pos c8] at H
       have c8b0 : (t185 == 5) = true := beq_iff_eq.mpr c8
       have c8b1 : (t185 != 5) = false := bne_eq_false_iff_eq.mpr c8
       clear c8
       obtain ⟨y195, hy195⟩ : ∃ y_ : List Int, y_ = (([5, (-5)] : List Int)) := ⟨_, rfl⟩
       replace H : ((quant_Near.f y195 t177 t178 t179 t182 t185 t186 t187 t190).bind fun t198 => (some t198)) = some r := by first | (rw [hy195]; with_reducible exact H) | (have H2_ := (Option.bind_some _ _).symm.trans H; rw [hy195]; with_reducible exact H2_) | (have H2_ := (Option.bind_some _ _).symm.trans H; with_reducible exact H2_) | with_reducible exact H | (rw [hy195]; exact H) | exact H
       have Ny195 := Aside0.mk hy195
       clear hy195
       replace H := Option.bind_eq_some_iff.mp H
       obtain ⟨t198, A90, H⟩ := H
       replace H : (some t198) = some r := H
       have A9 := Aside0.mk A90
       clear A90
       obtain rfl := Option.some.inj H
       go_enter Try.func44, Try.ntmps44
       go_wp2_with (first | ((with_reducible refine gate_callee (f := 47) rfl ?_); refine goesL_ (some 7) rfl rfl Try.func47 (by kernel_rfl) rfl #[.int .i64 7, .int .i64 10, .int .i64 2] rfl (by (try simp only [List.map_toArray, List.map_cons, List.map_nil]); first | done | rfl | (simp only [List.length_drop, List.length_take]; rfl)) ?_; (with_reducible refine (quant_Level.calls 7 10 2 t171 t172 t173 _ A1.out).mono ?_); rintro e w' ⟨rfl, ⟨nd, rfl⟩⟩; refine ⟨_, rfl, ?_⟩) | ((with_reducible refine gate_dst (N := 12) rfl ?_); (try (refine gate_guard (by rfl) ?_; dsimp only)); refine Kd.R_lit (Kd.int .i64) _ 2 ?hg (N := 12) ?hd (xs := ([5, (-5)] : List Int)) (inner := [.int .i64 5, .int .i64 (-5)]) (ok := fun _ => True) (okp := fun _ => True) ?hr ?hp (fun _ hk => hk) trivial (Below.refl _ _) (Nat.le_refl _) (by simp) ?_; (case hd => rfl); (case hg => rfl); (case hr => first | (go_simp; done) | (go_simp; rfl)); (case hp => exact (Reps.one (show Kd.M (Kd.int .i64) _ _ _ 5 [.int .i64 5] from rfl) (Reps.one (show Kd.M (Kd.int .i64) _ _ _ (-5) [.int .i64 (-5)] from rfl) (Reps.none _ _)))); intro v175 w10 ho11 hb hg_ hnew_; clear hg_ hnew_; (first | rw [← Ny174.out] at ho11 | (simp only [Int.reduceToNat] at ho11; rw [← Ny174.out] at ho11)); have n0_ := Aside0.mk (Kd.R_lower ho11 (zzS (by repeat (first | (with_reducible first | exact HB.out | apply zzA | apply zzN | apply zzD) | exact HB.out)))); have n1_ := Aside0.mk (zzT (by repeat (first | (with_reducible first | exact HB.out | apply zzA | apply zzN | apply zzD) | exact HB.out)) hb); clear HB; have HO176 := n0_; have HB := n1_; clear n0_ n1_; clear hb ho11; obtain ⟨Ao12, co12, eo12⟩ := Kd.R_slice HO176.out; subst eo12) | ((with_reducible refine gate_callee (f := 46) rfl ?_); refine goesL_ (some 13) rfl rfl Try.func46 (by kernel_rfl) rfl #[.slice Ao12 y174.length co12, .int .i64 1, .int .u64 3, .slice none 0 0] rfl (by (try simp only [List.map_toArray, List.map_cons, List.map_nil]); first | done | rfl | (simp only [List.length_drop, List.length_take]; rfl)) ?_; (refine (quant_Press.calls k _ _ y174 1 3 _ _ ([] : List Int) t177 t178 t179 t182 t185 t186 t187 t190 t193 _ ?side1 ?side2 ?side3 ?side4 A2.out).mono ?_); (case side1 => repeat (first | exact (Kd.R_reads' HO176.out).2.2 | (with_reducible refine ccA ?_ _) | (with_reducible refine ccN ?_ _) | (with_reducible refine ccD ?_))); (case side2 => exact (Kd.R_reads' HO176.out).2.1); (case side3 => exact Kd.C_nil _ _); (case side4 => exact Nat.le_refl _); rintro e w13 ⟨v180, v183, v188, v191, rfl, ho0, ho1, ho2, ho3, hb⟩; refine ⟨_, rfl, ?_⟩; have n0_ := Aside0.mk (Kd.R_elder' (by (with_reducible repeat (first | apply rrA | apply rrN | apply rrD)); exact HO176.out) (Kd.R_base ho1) hb); have n1_ := Aside0.mk (Kd.R_lower ho0 (zzS (by repeat (first | (with_reducible first | exact HB.out | apply zzA | apply zzN | apply zzD) | exact HB.out)))); have n2_ := Aside0.mk (Kd.R_lower (Kd.R_new' ho1 (Kd.R_lt (by (with_reducible repeat (first | apply rrA | apply rrN | apply rrD)); exact HO176.out))) (zzS (by repeat (first | (with_reducible first | exact HB.out | apply zzA | apply zzN | apply zzD) | exact HB.out)))); have n3_ := Aside0.mk (Kd.R_lower ho2 (zzS (by repeat (first | (with_reducible first | exact HB.out | apply zzA | apply zzN | apply zzD) | exact HB.out)))); have n4_ := Aside0.mk (Kd.R_lower ho3 (zzS (by repeat (first | (with_reducible first | exact HB.out | apply zzA | apply zzN | apply zzD) | exact HB.out)))); have n5_ := Aside0.mk (zzT (by repeat (first | (with_reducible first | exact HB.out | apply zzA | apply zzN | apply zzD) | exact HB.out)) hb); clear HO176; clear HB; have HO176 := n0_; have HO181 := n1_; have HO184 := n2_; have HO189 := n3_; have HO192 := n4_; have HB := n5_; clear n0_ n1_ n2_ n3_ n4_ n5_; (try clear hb); (try clear hb2); (try clear hk); (try clear hi); (try clear ho0); (try clear ho1); (try clear ho2); (try clear ho3)) | ((with_reducible refine gate_dst (N := 4) rfl ?_); (try (refine gate_guard (by rfl) ?_; dsimp only)); refine box_event ?hg (N := 4) ?hd (cs := #[.int .i64 0, .int .i64 0, .slice none 0 0, .slice none 0 0, .int .i64 0, .int .i64 0, .slice none 0 0, .slice none 0 0]) (t := 30) ?hr ?_; (case hd => rfl); (case hg => rfl); (case hr => first | (go_simp; done) | (go_simp; rfl)); intro gb194 hg w14 hbox hb; have n0_ := Aside0.mk (Kd.R_below (by (with_reducible repeat (first | apply rrA | apply rrN | apply rrD)); exact HO176.out) hb); have n1_ := Aside0.mk (Kd.R_below (by (with_reducible repeat (first | apply rrA | apply rrN | apply rrD)); exact HO181.out) hb); have n2_ := Aside0.mk (Kd.R_below (by (with_reducible repeat (first | apply rrA | apply rrN | apply rrD)); exact HO184.out) hb); have n3_ := Aside0.mk (Kd.R_below (by (with_reducible repeat (first | apply rrA | apply rrN | apply rrD)); exact HO189.out) hb); have n4_ := Aside0.mk (Kd.R_below (by (with_reducible repeat (first | apply rrA | apply rrN | apply rrD)); exact HO192.out) hb); have n5_ := Aside0.mk (zzT (by repeat (first | (with_reducible first | exact HB.out | apply zzA | apply zzN | apply zzD) | exact HB.out)) hb); have n6_ := Aside0.mk (hbox); have n7_ := Aside0.mk ((by rw [hg]; exact (zzS (by repeat (first | (with_reducible first | exact HB.out | apply zzA | apply zzN | apply zzD) | exact HB.out))) : w.heap.size ≤ gb194)); have n8_ := Aside0.mk ((by rw [hg]; exact (zzS (by repeat (first | (with_reducible first | exact HB.out | apply zzA | apply zzN | apply zzD) | exact HB.out))) : w.heap.size ≤ gb194)); clear HO176; clear HO181; clear HO184; clear HO189; clear HO192; clear HB; have HO176 := n0_; have HO181 := n1_; have HO184 := n2_; have HO189 := n3_; have HO192 := n4_; have HB := n5_; have BK194 := n6_; have GW194 := n7_; have GE194 := n8_; clear n0_ n1_ n2_ n3_ n4_ n5_ n6_ n7_ n8_; clear hb hbox hg; have hcz15_0 : w14.cell? ⟨gb194, 0, none⟩ = some (.int .i64 0) := (blk_cell BK194.out 0).trans rfl; have hcz15_1 : w14.cell? ⟨gb194, 1, none⟩ = some (.int .i64 0) := (blk_cell BK194.out 1).trans rfl; have hcz15_2 : w14.cell? ⟨gb194, 2, none⟩ = some (.slice none 0 0) := (blk_cell BK194.out 2).trans rfl; have hcz15_3 : w14.cell? ⟨gb194, 3, none⟩ = some (.slice none 0 0) := (blk_cell BK194.out 3).trans rfl; have hcz15_4 : w14.cell? ⟨gb194, 4, none⟩ = some (.int .i64 0) := (blk_cell BK194.out 4).trans rfl; have hcz15_5 : w14.cell? ⟨gb194, 5, none⟩ = some (.int .i64 0) := (blk_cell BK194.out 5).trans rfl; have hcz15_6 : w14.cell? ⟨gb194, 6, none⟩ = some (.slice none 0 0) := (blk_cell BK194.out 6).trans rfl; have hcz15_7 : w14.cell? ⟨gb194, 7, none⟩ = some (.slice none 0 0) := (blk_cell BK194.out 7).trans rfl; have hfz15_0 := blk_frozen BK194.out 0; have hfz15_1 := blk_frozen BK194.out 1; have hfz15_2 := blk_frozen BK194.out 2; have hfz15_3 := blk_frozen BK194.out 3; have hfz15_4 := blk_frozen BK194.out 4; have hfz15_5 := blk_frozen BK194.out 5; have hfz15_6 := blk_frozen BK194.out 6; have hfz15_7 := blk_frozen BK194.out 7; obtain ⟨Ao16, co16, eo16⟩ := Kd.R_slice HO181.out; subst eo16; obtain ⟨Ao17, co17, eo17⟩ := Kd.R_slice HO184.out; subst eo17; obtain ⟨Ao18, co18, eo18⟩ := Kd.R_slice HO189.out; subst eo18; obtain ⟨Ao19, co19, eo19⟩ := Kd.R_slice HO192.out; subst eo19) | ((with_reducible refine gate_dst (N := 41) rfl ?_); (try (refine gate_guard (by rfl) ?_; dsimp only)); refine Kd.R_lit (Kd.int .i64) _ 2 ?hg (N := 41) ?hd (xs := ([5, (-5)] : List Int)) (inner := [.int .i64 5, .int .i64 (-5)]) (ok := fun _ => True) (okp := fun _ => True) ?hr ?hp (fun _ hk => hk) trivial (Below.refl _ _) (Nat.le_refl _) (by simp) ?_; (case hd => rfl); (case hg => rfl); (case hr => first | (go_simp; done) | (go_simp; rfl)); (case hp => exact (Reps.one (show Kd.M (Kd.int .i64) _ _ _ 5 [.int .i64 5] from rfl) (Reps.one (show Kd.M (Kd.int .i64) _ _ _ (-5) [.int .i64 (-5)] from rfl) (Reps.none _ _)))); intro v196 w20 ho21 hb hg_ hnew_; clear hg_ hnew_; (first | rw [← Ny195.out] at ho21 | (simp only [Int.reduceToNat] at ho21; rw [← Ny195.out] at ho21)); have n0_ := Aside0.mk (Kd.R_elder' (by (with_reducible repeat (first | apply rrA | apply rrN | apply rrD)); exact (Kd.R_mono (Kd.R_far (p := ⟨gb194, 7, none⟩) (Kd.R_far (p := ⟨gb194, 6, none⟩) (Kd.R_far (p := ⟨gb194, 5, none⟩) (Kd.R_far (p := ⟨gb194, 4, none⟩) (Kd.R_far (p := ⟨gb194, 3, none⟩) (Kd.R_far (p := ⟨gb194, 2, none⟩) (Kd.R_far (p := ⟨gb194, 1, none⟩) (Kd.R_far (p := ⟨gb194, 0, none⟩) (Kd.R_types HO176.out BK194.out (by decide)) (fun _ hk => hk.2) (.int .i64 t177)) (fun _ hk => hk.2) (.int .i64 t178)) (fun _ hk => hk.2) (.slice Ao16 t179.length co16)) (fun _ hk => hk.2) (.slice Ao17 t182.length co17)) (fun _ hk => hk.2) (.int .i64 t185)) (fun _ hk => hk.2) (.int .i64 t186)) (fun _ hk => hk.2) (.slice Ao18 t187.length co18)) (fun _ hk => hk.2) (.slice Ao19 t190.length co19)) (fun _ h_ => h_.1))) (Kd.R_base ho21) hb); have n1_ := Aside0.mk (Kd.R_below (by (with_reducible repeat (first | apply rrA | apply rrN | apply rrD)); exact (Kd.R_mono (Kd.R_far (p := ⟨gb194, 7, none⟩) (Kd.R_far (p := ⟨gb194, 6, none⟩) (Kd.R_far (p := ⟨gb194, 5, none⟩) (Kd.R_far (p := ⟨gb194, 4, none⟩) (Kd.R_far (p := ⟨gb194, 3, none⟩) (Kd.R_far (p := ⟨gb194, 2, none⟩) (Kd.R_far (p := ⟨gb194, 1, none⟩) (Kd.R_far (p := ⟨gb194, 0, none⟩) (Kd.R_types HO181.out BK194.out (by decide)) (fun _ hk => hk.2) (.int .i64 t177)) (fun _ hk => hk.2) (.int .i64 t178)) (fun _ hk => hk.2) (.slice Ao16 t179.length co16)) (fun _ hk => hk.2) (.slice Ao17 t182.length co17)) (fun _ hk => hk.2) (.int .i64 t185)) (fun _ hk => hk.2) (.int .i64 t186)) (fun _ hk => hk.2) (.slice Ao18 t187.length co18)) (fun _ hk => hk.2) (.slice Ao19 t190.length co19)) (fun _ h_ => h_.1))) hb); have n2_ := Aside0.mk (Kd.R_elder' (by (with_reducible repeat (first | apply rrA | apply rrN | apply rrD)); exact (Kd.R_mono (Kd.R_far (p := ⟨gb194, 7, none⟩) (Kd.R_far (p := ⟨gb194, 6, none⟩) (Kd.R_far (p := ⟨gb194, 5, none⟩) (Kd.R_far (p := ⟨gb194, 4, none⟩) (Kd.R_far (p := ⟨gb194, 3, none⟩) (Kd.R_far (p := ⟨gb194, 2, none⟩) (Kd.R_far (p := ⟨gb194, 1, none⟩) (Kd.R_far (p := ⟨gb194, 0, none⟩) (Kd.R_types HO184.out BK194.out (by decide)) (fun _ hk => hk.2) (.int .i64 t177)) (fun _ hk => hk.2) (.int .i64 t178)) (fun _ hk => hk.2) (.slice Ao16 t179.length co16)) (fun _ hk => hk.2) (.slice Ao17 t182.length co17)) (fun _ hk => hk.2) (.int .i64 t185)) (fun _ hk => hk.2) (.int .i64 t186)) (fun _ hk => hk.2) (.slice Ao18 t187.length co18)) (fun _ hk => hk.2) (.slice Ao19 t190.length co19)) (fun _ h_ => h_.1))) (Kd.R_base ho21) hb); have n3_ := Aside0.mk (Kd.R_below (by (with_reducible repeat (first | apply rrA | apply rrN | apply rrD)); exact (Kd.R_mono (Kd.R_far (p := ⟨gb194, 7, none⟩) (Kd.R_far (p := ⟨gb194, 6, none⟩) (Kd.R_far (p := ⟨gb194, 5, none⟩) (Kd.R_far (p := ⟨gb194, 4, none⟩) (Kd.R_far (p := ⟨gb194, 3, none⟩) (Kd.R_far (p := ⟨gb194, 2, none⟩) (Kd.R_far (p := ⟨gb194, 1, none⟩) (Kd.R_far (p := ⟨gb194, 0, none⟩) (Kd.R_types HO189.out BK194.out (by decide)) (fun _ hk => hk.2) (.int .i64 t177)) (fun _ hk => hk.2) (.int .i64 t178)) (fun _ hk => hk.2) (.slice Ao16 t179.length co16)) (fun _ hk => hk.2) (.slice Ao17 t182.length co17)) (fun _ hk => hk.2) (.int .i64 t185)) (fun _ hk => hk.2) (.int .i64 t186)) (fun _ hk => hk.2) (.slice Ao18 t187.length co18)) (fun _ hk => hk.2) (.slice Ao19 t190.length co19)) (fun _ h_ => h_.1))) hb); have n4_ := Aside0.mk (Kd.R_below (by (with_reducible repeat (first | apply rrA | apply rrN | apply rrD)); exact (Kd.R_mono (Kd.R_far (p := ⟨gb194, 7, none⟩) (Kd.R_far (p := ⟨gb194, 6, none⟩) (Kd.R_far (p := ⟨gb194, 5, none⟩) (Kd.R_far (p := ⟨gb194, 4, none⟩) (Kd.R_far (p := ⟨gb194, 3, none⟩) (Kd.R_far (p := ⟨gb194, 2, none⟩) (Kd.R_far (p := ⟨gb194, 1, none⟩) (Kd.R_far (p := ⟨gb194, 0, none⟩) (Kd.R_types HO192.out BK194.out (by decide)) (fun _ hk => hk.2) (.int .i64 t177)) (fun _ hk => hk.2) (.int .i64 t178)) (fun _ hk => hk.2) (.slice Ao16 t179.length co16)) (fun _ hk => hk.2) (.slice Ao17 t182.length co17)) (fun _ hk => hk.2) (.int .i64 t185)) (fun _ hk => hk.2) (.int .i64 t186)) (fun _ hk => hk.2) (.slice Ao18 t187.length co18)) (fun _ hk => hk.2) (.slice Ao19 t190.length co19)) (fun _ h_ => h_.1))) hb); have n5_ := Aside0.mk (Kd.R_lower (Kd.R_new' (Kd.R_new' ho21 (Kd.R_lt (by (with_reducible repeat (first | apply rrA | apply rrN | apply rrD)); exact (Kd.R_mono (Kd.R_far (p := ⟨gb194, 7, none⟩) (Kd.R_far (p := ⟨gb194, 6, none⟩) (Kd.R_far (p := ⟨gb194, 5, none⟩) (Kd.R_far (p := ⟨gb194, 4, none⟩) (Kd.R_far (p := ⟨gb194, 3, none⟩) (Kd.R_far (p := ⟨gb194, 2, none⟩) (Kd.R_far (p := ⟨gb194, 1, none⟩) (Kd.R_far (p := ⟨gb194, 0, none⟩) (Kd.R_types HO176.out BK194.out (by decide)) (fun _ hk => hk.2) (.int .i64 t177)) (fun _ hk => hk.2) (.int .i64 t178)) (fun _ hk => hk.2) (.slice Ao16 t179.length co16)) (fun _ hk => hk.2) (.slice Ao17 t182.length co17)) (fun _ hk => hk.2) (.int .i64 t185)) (fun _ hk => hk.2) (.int .i64 t186)) (fun _ hk => hk.2) (.slice Ao18 t187.length co18)) (fun _ hk => hk.2) (.slice Ao19 t190.length co19)) (fun _ h_ => h_.1))))) (Kd.R_lt (by (with_reducible repeat (first | apply rrA | apply rrN | apply rrD)); exact (Kd.R_mono (Kd.R_far (p := ⟨gb194, 7, none⟩) (Kd.R_far (p := ⟨gb194, 6, none⟩) (Kd.R_far (p := ⟨gb194, 5, none⟩) (Kd.R_far (p := ⟨gb194, 4, none⟩) (Kd.R_far (p := ⟨gb194, 3, none⟩) (Kd.R_far (p := ⟨gb194, 2, none⟩) (Kd.R_far (p := ⟨gb194, 1, none⟩) (Kd.R_far (p := ⟨gb194, 0, none⟩) (Kd.R_types HO184.out BK194.out (by decide)) (fun _ hk => hk.2) (.int .i64 t177)) (fun _ hk => hk.2) (.int .i64 t178)) (fun _ hk => hk.2) (.slice Ao16 t179.length co16)) (fun _ hk => hk.2) (.slice Ao17 t182.length co17)) (fun _ hk => hk.2) (.int .i64 t185)) (fun _ hk => hk.2) (.int .i64 t186)) (fun _ hk => hk.2) (.slice Ao18 t187.length co18)) (fun _ hk => hk.2) (.slice Ao19 t190.length co19)) (fun _ h_ => h_.1))))) (zzS (by repeat (first | (with_reducible first | exact HB.out | apply zzA | apply zzN | apply zzD | refine below_set ?_ GE194.out) | exact HB.out)))); have n6_ := Aside0.mk (blk_below (g := gb194) (o := .cells #[.int .i64 t177, .int .i64 t178, .slice Ao16 t179.length co16, .slice Ao17 t182.length co17, .int .i64 t185, .int .i64 t186, .slice Ao18 t187.length co18, .slice Ao19 t190.length co19] 30 (0, 0)) (by (with_reducible repeat (first | refine kkN ?_ _ | refine kkD ?_ | refine kkA ?_ _)); refine blk_put (cs := #[.int .i64 t177, .int .i64 t178, .slice Ao16 t179.length co16, .slice Ao17 t182.length co17, .int .i64 t185, .int .i64 t186, .slice Ao18 t187.length co18, .slice none 0 0]) ?_ 7 _ rfl; (with_reducible repeat (first | refine kkN ?_ _ | refine kkD ?_ | refine kkA ?_ _)); refine blk_put (cs := #[.int .i64 t177, .int .i64 t178, .slice Ao16 t179.length co16, .slice Ao17 t182.length co17, .int .i64 t185, .int .i64 t186, .slice none 0 0, .slice none 0 0]) ?_ 6 _ rfl; (with_reducible repeat (first | refine kkN ?_ _ | refine kkD ?_ | refine kkA ?_ _)); refine blk_put (cs := #[.int .i64 t177, .int .i64 t178, .slice Ao16 t179.length co16, .slice Ao17 t182.length co17, .int .i64 t185, .int .i64 0, .slice none 0 0, .slice none 0 0]) ?_ 5 _ rfl; (with_reducible repeat (first | refine kkN ?_ _ | refine kkD ?_ | refine kkA ?_ _)); refine blk_put (cs := #[.int .i64 t177, .int .i64 t178, .slice Ao16 t179.length co16, .slice Ao17 t182.length co17, .int .i64 0, .int .i64 0, .slice none 0 0, .slice none 0 0]) ?_ 4 _ rfl; (with_reducible repeat (first | refine kkN ?_ _ | refine kkD ?_ | refine kkA ?_ _)); refine blk_put (cs := #[.int .i64 t177, .int .i64 t178, .slice Ao16 t179.length co16, .slice none 0 0, .int .i64 0, .int .i64 0, .slice none 0 0, .slice none 0 0]) ?_ 3 _ rfl; (with_reducible repeat (first | refine kkN ?_ _ | refine kkD ?_ | refine kkA ?_ _)); refine blk_put (cs := #[.int .i64 t177, .int .i64 t178, .slice none 0 0, .slice none 0 0, .int .i64 0, .int .i64 0, .slice none 0 0, .slice none 0 0]) ?_ 2 _ rfl; (with_reducible repeat (first | refine kkN ?_ _ | refine kkD ?_ | refine kkA ?_ _)); refine blk_put (cs := #[.int .i64 t177, .int .i64 0, .slice none 0 0, .slice none 0 0, .int .i64 0, .int .i64 0, .slice none 0 0, .slice none 0 0]) ?_ 1 _ rfl; (with_reducible repeat (first | refine kkN ?_ _ | refine kkD ?_ | refine kkA ?_ _)); refine blk_put (cs := #[.int .i64 0, .int .i64 0, .slice none 0 0, .slice none 0 0, .int .i64 0, .int .i64 0, .slice none 0 0, .slice none 0 0]) ?_ 0 _ rfl; (with_reducible repeat (first | refine kkN ?_ _ | refine kkD ?_ | refine kkA ?_ _)); exact BK194.out) hb); have n7_ := Aside0.mk (zzT (by repeat (first | (with_reducible first | exact HB.out | apply zzA | apply zzN | apply zzD | refine below_set ?_ GE194.out) | exact HB.out)) hb); clear HO176; clear HO181; clear HO184; clear HO189; clear HO192; clear BK194; clear HB; have HO176 := n0_; have HO181 := n1_; have HO184 := n2_; have HO189 := n3_; have HO192 := n4_; have HO197 := n5_; have BK194 := n6_; have HB := n7_; clear n0_ n1_ n2_ n3_ n4_ n5_ n6_ n7_; clear hb ho21; have hcz22_0 : w20.cell? ⟨gb194, 0, none⟩ = some (.int .i64 t177) := (blk_cell BK194.out 0).trans rfl; have hcz22_1 : w20.cell? ⟨gb194, 1, none⟩ = some (.int .i64 t178) := (blk_cell BK194.out 1).trans rfl; have hcz22_2 : w20.cell? ⟨gb194, 2, none⟩ = some (.slice Ao16 t179.length co16) := (blk_cell BK194.out 2).trans rfl; have hcz22_3 : w20.cell? ⟨gb194, 3, none⟩ = some (.slice Ao17 t182.length co17) := (blk_cell BK194.out 3).trans rfl; have hcz22_4 : w20.cell? ⟨gb194, 4, none⟩ = some (.int .i64 t185) := (blk_cell BK194.out 4).trans rfl; have hcz22_5 : w20.cell? ⟨gb194, 5, none⟩ = some (.int .i64 t186) := (blk_cell BK194.out 5).trans rfl; have hcz22_6 : w20.cell? ⟨gb194, 6, none⟩ = some (.slice Ao18 t187.length co18) := (blk_cell BK194.out 6).trans rfl; have hcz22_7 : w20.cell? ⟨gb194, 7, none⟩ = some (.slice Ao19 t190.length co19) := (blk_cell BK194.out 7).trans rfl; have hfz22_0 := blk_frozen BK194.out 0; have hfz22_1 := blk_frozen BK194.out 1; have hfz22_2 := blk_frozen BK194.out 2; have hfz22_3 := blk_frozen BK194.out 3; have hfz22_4 := blk_frozen BK194.out 4; have hfz22_5 := blk_frozen BK194.out 5; have hfz22_6 := blk_frozen BK194.out 6; have hfz22_7 := blk_frozen BK194.out 7; obtain ⟨Ao23, co23, eo23⟩ := Kd.R_slice HO197.out; subst eo23) | (go_at_call 58; (with_reducible refine (quant_Near.calls _ _ y195 t177 t178 _ _ t179 _ _ t182 t185 t186 _ _ t187 _ _ t190 t198 _ ?side1 ?side2 ?side3 ?side4 ?side5 ?side6 ?side7 ?side8 ?side9 ?side10 A9.out).mono ?_); (case side1 => repeat (first | exact (Kd.R_reads' HO197.out).2.2 | (with_reducible refine ccA ?_ _) | (with_reducible refine ccN ?_ _) | (with_reducible refine ccD ?_))); (case side2 => exact (Kd.R_reads' HO197.out).2.1); (case side3 => repeat (first | exact (Kd.R_reads' HO181.out).2.2 | (with_reducible refine ccA ?_ _) | (with_reducible refine ccN ?_ _) | (with_reducible refine ccD ?_))); (case side4 => exact (Kd.R_reads' HO181.out).2.1); (case side5 => repeat (first | exact (Kd.R_reads' HO184.out).2.2 | (with_reducible refine ccA ?_ _) | (with_reducible refine ccN ?_ _) | (with_reducible refine ccD ?_))); (case side6 => exact (Kd.R_reads' HO184.out).2.1); (case side7 => repeat (first | exact (Kd.R_reads' HO189.out).2.2 | (with_reducible refine ccA ?_ _) | (with_reducible refine ccN ?_ _) | (with_reducible refine ccD ?_))); (case side8 => exact (Kd.R_reads' HO189.out).2.1); (case side9 => repeat (first | exact (Kd.R_reads' HO192.out).2.2 | (with_reducible refine ccA ?_ _) | (with_reducible refine ccN ?_ _) | (with_reducible refine ccD ?_))); (case side10 => exact (Kd.R_reads' HO192.out).2.1); rintro e w24 ⟨rfl, hb⟩; have n0_ := Aside0.mk (Kd.R_below (by (with_reducible repeat (first | apply rrA | apply rrN | apply rrD)); exact HO176.out) hb); have n1_ := Aside0.mk (Kd.R_below (by (with_reducible repeat (first | apply rrA | apply rrN | apply rrD)); exact HO181.out) hb); have n2_ := Aside0.mk (Kd.R_below (by (with_reducible repeat (first | apply rrA | apply rrN | apply rrD)); exact HO184.out) hb); have n3_ := Aside0.mk (Kd.R_below (by (with_reducible repeat (first | apply rrA | apply rrN | apply rrD)); exact HO189.out) hb); have n4_ := Aside0.mk (Kd.R_below (by (with_reducible repeat (first | apply rrA | apply rrN | apply rrD)); exact HO192.out) hb); have n5_ := Aside0.mk (Kd.R_below (by (with_reducible repeat (first | apply rrA | apply rrN | apply rrD)); exact HO197.out) hb); have n6_ := Aside0.mk (blk_below (g := gb194) (o := .cells #[.int .i64 t177, .int .i64 t178, .slice Ao16 t179.length co16, .slice Ao17 t182.length co17, .int .i64 t185, .int .i64 t186, .slice Ao18 t187.length co18, .slice Ao19 t190.length co19] 30 (0, 0)) (by (with_reducible repeat (first | refine kkN ?_ _ | refine kkD ?_ | refine kkA ?_ _)); exact BK194.out) hb); have n7_ := Aside0.mk (zzT (by repeat (first | (with_reducible first | exact HB.out | apply zzA | apply zzN | apply zzD | refine below_set ?_ GE194.out) | exact HB.out)) hb); clear HO176; clear HO181; clear HO184; clear HO189; clear HO192; clear HO197; clear BK194; clear HB; have HO176 := n0_; have HO181 := n1_; have HO184 := n2_; have HO189 := n3_; have HO192 := n4_; have HO197 := n5_; have BK194 := n6_; have HB := n7_; clear n0_ n1_ n2_ n3_ n4_ n5_ n6_ n7_; (try clear hb); (try clear hb2); (try clear hk); (try clear hi)))
       go_ret
       exact ⟨by first | rfl | (simp [errW_none, errW_some] <;> rfl) | (simp [*, errW_none, errW_some] <;> rfl), by repeat (first | (with_reducible first | exact HB.out | apply zzA | apply zzN | apply zzD | refine below_set ?_ GE194.out) | exact HB.out)⟩
      ·
       rw [if_neg c8] at H
       exact absurd (Option.some.inj H) (by rw [HR_.out]; decide)
     ·
      rw [if_neg c7] at H
      exact absurd (Option.some.inj H) (by rw [HR_.out]; decide)
    ·
     rw [if_neg c6] at H
     exact absurd (Option.some.inj H) (by rw [HR_.out]; decide)
   ·
    rw [if_neg c5] at H
    exact absurd (Option.some.inj H) (by rw [HR_.out]; decide)
  ·
   rw [if_neg c4] at H
   exact absurd (Option.some.inj H) (by rw [HR_.out]; decide)
 ·
  rw [if_neg c3] at H
  exact absurd (Option.some.inj H) (by rw [HR_.out]; decide)

def thrumlaw10_live.f : Option Bool := some true
theorem thrumlaw10_live.calls  (r : Bool) (w : World) (h : thrumlaw10_live.f  = some r) :
    Calls Try.prog 44 #[] w fun e w' => e = .returned (.bool r) ∧ Below w.heap.size w w' := by
  have hr : r = true := (Option.some.inj h).symm
  refine thrumlaw10_liveP.calls 12 r w (Eq.trans ?_ h) hr
  decide +kernel


/-! ### thrumlaw10_few: function 45 -/
def thrumlaw10_few.f (l0 : List Int) (l1 : List Int) : Option (Bool) := if (l0.length : Int) ≤ 200 then (some (decide ((l1.length : Int) ≤ 50))) else (if (l0.length : Int) > 4096 then (if (l0.length : Int) ≤ 5000 then (some (decide ((l1.length : Int) ≤ 50))) else (some false)) else (some false))
set_option maxHeartbeats 80000000 in
set_option maxRecDepth 100000 in
theorem thrumlaw10_few.calls (A0 : Option Addr) (c0 : Nat) (l0 : List Int) (A1 : Option Addr) (c1 : Nat) (l1 : List Int) (r : Bool) (w : World) (hr0 : Kd.C (Kd.int .i64) w A0 l0.length l0) (hc0 : l0.length ≤ c0) (hr1 : Kd.C (Kd.int .i64) w A1 l1.length l1) (hc1 : l1.length ≤ c1) (h : thrumlaw10_few.f l0 l1 = some r) :
  Calls Try.prog 45 #[.slice A0 l0.length c0, .slice A1 l1.length c1] w fun e w' => e = .returned (.bool r) ∧ Drawn0 w w' := by
 have HR0 := Aside0.mk hr0
 have HC0 := Aside0.mk hc0
 clear hr0 hc0
 have HR1 := Aside0.mk hr1
 have HC1 := Aside0.mk hc1
 clear hr1 hc1
 have H : (if (l0.length : Int) ≤ 200 then (some (decide ((l1.length : Int) ≤ 50))) else (if (l0.length : Int) > 4096 then (if (l0.length : Int) ≤ 5000 then (some (decide ((l1.length : Int) ≤ 50))) else (some false)) else (some false))) = some r := h
 clear h
 by_cases c3 : (l0.length : Int) ≤ 200
 ·
  rw [if_pos c3] at H
  have c3b0 : decide ((l0.length : Int) ≤ 200) = true := decide_eq_true c3
  have c3b1 : decide (l0.length ≤ 200) = true := decide_eq_true (by omega)
  clear c3
  obtain rfl := Option.some.inj H
  go_enter Try.func45, Try.ntmps45
  go_wp2
  go_ret
  exact ⟨by first | rfl | (simp; done) | (simp [*]; done), by repeat (first | exact ddR _ | apply ddS)⟩
 ·
  rw [if_neg c3] at H
  have c3b0 : decide ((l0.length : Int) ≤ 200) = false := decide_eq_false c3
  have c3b1 : decide (l0.length ≤ 200) = false := decide_eq_false (by omega)
  clear c3
  by_cases c4 : (l0.length : Int) > 4096
  ·
   rw [if_pos c4] at H
   have c4b0 : decide (4096 < (l0.length : Int)) = true := decide_eq_true c4
   have c4b1 : decide (4096 < l0.length) = true := decide_eq_true (by omega)
   clear c4
   by_cases c5 : (l0.length : Int) ≤ 5000
   ·
    rw [if_pos c5] at H
    have c5b0 : decide ((l0.length : Int) ≤ 5000) = true := decide_eq_true c5
    have c5b1 : decide (l0.length ≤ 5000) = true := decide_eq_true (by omega)
    clear c5
    obtain rfl := Option.some.inj H
    go_enter Try.func45, Try.ntmps45
    go_wp2
    go_ret
    exact ⟨by first | rfl | (simp; done) | (simp [*]; done), by repeat (first | exact ddR _ | apply ddS)⟩
   ·
    rw [if_neg c5] at H
    have c5b0 : decide ((l0.length : Int) ≤ 5000) = false := decide_eq_false c5
    have c5b1 : decide (l0.length ≤ 5000) = false := decide_eq_false (by omega)
    clear c5
    obtain rfl := Option.some.inj H
    go_enter Try.func45, Try.ntmps45
    go_wp2
    go_ret
    exact ⟨by first | rfl | (simp; done) | (simp [*]; done), by repeat (first | exact ddR _ | apply ddS)⟩
  ·
   rw [if_neg c4] at H
   have c4b0 : decide (4096 < (l0.length : Int)) = false := decide_eq_false c4
   have c4b1 : decide (4096 < l0.length) = false := decide_eq_false (by omega)
   clear c4
   obtain rfl := Option.some.inj H
   go_enter Try.func45, Try.ntmps45
   go_wp2
   go_ret
   exact ⟨by first | rfl | (simp; done) | (simp [*]; done), by repeat (first | exact ddR _ | apply ddS)⟩

/-! ### quant_ValueP: function 49 -/
def quant_ValueP.j0 : Nat → Int → Int → Int → Bool → Option (Int × Int)
 | 0, _, _, _, _ => none
 | k + 1, x0, x1, x8, x29 => if x29 = true then (some (0, 1)) else ((bits_Mul64.f (IntKind.u64.wrap (x1)) x0).bind fun bt201 => ((bits_Div64.f bt201.1 bt201.2 x8).bind fun bt203 => (some (wrap64 (bt203.1), 0))))
def quant_ValueP.f (k : Nat) (a0 : Int) (a1 : Int) (a2 : Int) : Option (Int × Int) := (quant_Steps.f a2).bind fun bt199 => (if bt199.2 = 0 then (if a1 < 0 then (quant_ValueP.j0 k a0 a1 bt199.1 true) else (quant_ValueP.j0 k a0 a1 bt199.1 (decide (a0 > bt199.1)))) else (quant_ValueP.j0 k a0 a1 bt199.1 true))
theorem quant_ValueP.mono_l : ∀ k, (∀ y0 y1 y2 y3, LeO (quant_ValueP.j0 k y0 y1 y2 y3) (quant_ValueP.j0 (k + 1) y0 y1 y2 y3))
 | 0 => fun _ _ _ _ r h => by simp [quant_ValueP.j0] at h
 | k + 1 => by
  have ih0 := quant_ValueP.mono_l k
  ·
   intro y0 y1 y2 y3
   unfold quant_ValueP.j0
   repeat' first
   | (with_reducible exact ih0 _ _ _ _)
   | (with_reducible exact LeO.refl _)
   | (with_reducible exact LeO.none _)
   | (with_reducible refine LeO.ite ?_ ?_)
   | (with_reducible refine LeO.bind ?_ (fun _ => ?_))
   | exact ih0 _ _ _ _
   | exact LeO.none _
   | refine LeO.ite ?_ ?_
   | refine LeO.bind ?_ (fun _ => ?_)
theorem quant_ValueP.mono : ∀ a0 a1 a2 k, LeO (quant_ValueP.f k a0 a1 a2) (quant_ValueP.f (k + 1) a0 a1 a2) := by
 intro a0 a1 a2 k
 have ih0 := quant_ValueP.mono_l k
 unfold quant_ValueP.f
 repeat' first
   | (with_reducible exact ih0 _ _ _ _)
   | (with_reducible exact LeO.refl _)
   | (with_reducible exact LeO.none _)
   | (with_reducible refine LeO.ite ?_ ?_)
   | (with_reducible refine LeO.bind ?_ (fun _ => ?_))
   | exact ih0 _ _ _ _
   | exact LeO.none _
   | refine LeO.ite ?_ ?_
   | refine LeO.bind ?_ (fun _ => ?_)
set_option maxHeartbeats 8000000 in
set_option maxRecDepth 100000 in
theorem quant_ValueP.calls (k : Nat) (a0 : Int) (a1 : Int) (a2 : Int) (r1 : Int) (r2 : Int) (w : World) (h : quant_ValueP.f k a0 a1 a2 = some (r1, r2)) :
  Calls Try.prog 49 #[.int .u64 a0, .int .i64 a1, .int .i64 a2] w fun e w' => e = .returned (.tuple #[.int .i64 r1, .int .i64 r2]) ∧ Drawn0 w w' := by
 have H : ((quant_Steps.f a2).bind fun bt199 => (if bt199.2 = 0 then (if a1 < 0 then (quant_ValueP.j0 k a0 a1 bt199.1 true) else (quant_ValueP.j0 k a0 a1 bt199.1 (decide (a0 > bt199.1)))) else (quant_ValueP.j0 k a0 a1 bt199.1 true))) = some (r1, r2) := h
 clear h
 replace H := Option.bind_eq_some_iff.mp H
 obtain ⟨⟨t199, t200⟩, A40, H⟩ := H
 replace H : (if t200 = 0 then (if a1 < 0 then (quant_ValueP.j0 k a0 a1 t199 true) else (quant_ValueP.j0 k a0 a1 t199 (decide (a0 > t199)))) else (quant_ValueP.j0 k a0 a1 t199 true)) = some (r1, r2) := H
 have A4 := Aside0.mk A40
 clear A40
 have HC5 := Aside0.mk H
 clear H
 go_enter Try.func49, Try.ntmps49
 go_upto_region 2 with (first | ((with_reducible refine gate_callee (f := 51) rfl ?_); refine goesL_ (some 16) rfl rfl Try.func51 (by kernel_rfl) rfl #[.int .i64 a2] rfl (by (try simp only [List.map_toArray, List.map_cons, List.map_nil]); first | done | rfl | (simp only [List.length_drop, List.length_take]; rfl)) ?_; (with_reducible refine (quant_Steps.calls a2 t199 t200 _ A4.out).mono ?_); rintro e w' ⟨rfl, ⟨nd, rfl⟩⟩; refine ⟨_, rfl, ?_⟩))
 (try simp only [Act.put, List.setIfInBounds_toArray, List.set_cons_zero, List.set_cons_succ])
 go_cut [29] (fun v29 wc => ∃ (kq : Nat) (x29_4 : Bool), v29 = .bool x29_4 ∧ Aside0 (quant_ValueP.j0 kq a0 a1 t199 x29_4 = some (r1, r2)) ∧ Aside0 (kq ≤ k) ∧ Drawn0 w wc)
 case first =>
  have H := HC5.out
  clear HC5
  by_cases c6 : t200 = 0
  ·
   rw [if_pos c6] at H
   have c6b0 : (t200 == 0) = true := beq_iff_eq.mpr c6
   have c6b1 : (t200 != 0) = false := bne_eq_false_iff_eq.mpr c6
   clear c6
   (first | rw [c6b0] | (simp only [i64_w, i32_w]; rw [c6b0]) | skip)
   by_cases c7 : a1 < 0
   ·
    rw [if_pos c7] at H
    have c7b0 : decide (a1 < 0) = true := decide_eq_true c7
    clear c7
    have H' := Aside0.mk H
    clear H
    go_wp2
    go_meet
    case rel => exact ⟨_, (true), (by first | rfl | (simp; done) | (simp [*]; done)), H', ⟨by first | omega | exact Nat.le_refl _⟩, by repeat (first | exact ddR _ | apply ddS)⟩
   ·
    rw [if_neg c7] at H
    have c7b0 : decide (a1 < 0) = false := decide_eq_false c7
    clear c7
    have H' := Aside0.mk H
    clear H
    go_wp2
    go_meet
    case rel => exact ⟨_, (decide (a0 > t199)), (by first | rfl | (simp; done) | (simp [*]; done)), H', ⟨by first | omega | exact Nat.le_refl _⟩, by repeat (first | exact ddR _ | apply ddS)⟩
  ·
   rw [if_neg c6] at H
   have c6b0 : (t200 == 0) = false := beq_eq_false_iff_ne.mpr c6
   have c6b1 : (t200 != 0) = true := bne_iff_ne.mpr c6
   (first | rw [c6b0] | (simp only [i64_w, i32_w]; rw [c6b0]) | skip)
   have H' := Aside0.mk H
   clear H
   go_wp2
   go_meet
   case rel => exact ⟨_, (true), (by first | rfl | (simp; done) | (simp [*]; done)), H', ⟨by first | omega | exact Nat.le_refl _⟩, by repeat (first | exact ddR _ | apply ddS)⟩
 case rest =>
  clear HC5
  try clear p2
  try clear c4
  try clear c5
  try clear c6
  try clear c6b0
  try clear c6b1
  try clear c7
  try clear c7b0
  obtain ⟨kq, x29_4, rfl, HA, HJ4, ⟨mc4, rfl⟩⟩ := hcut
  cases kq with
  | zero => exact absurd HA.out (by simp [quant_ValueP.j0])
  | succ kj4 =>
   have H := HA.out
   clear HA
   simp only [quant_ValueP.j0] at H
   by_cases c8 : x29_4 = true
   ·
    subst c8
    have H1 : (some (0, 1)) = some (r1, r2) := by rw [if_pos rfl] at H; exact H
    clear H
    have H := H1
    clear H1
    simp only [Option.some.injEq, Prod.mk.injEq] at H
    obtain ⟨rfl, rfl⟩ := H
    go_wp2
    go_ret2
    exact ⟨by first | rfl | (simp; done) | (simp [*]; done), by repeat (first | exact ddR _ | apply ddS)⟩
   ·
    replace c8 := Bool.eq_false_iff.mpr c8
    subst c8
    have H1 : ((bits_Mul64.f (IntKind.u64.wrap (a1)) a0).bind fun bt201 => ((bits_Div64.f bt201.1 bt201.2 t199).bind fun bt203 => (some (wrap64 (bt203.1), 0)))) = some (r1, r2) := by rw [if_neg (show ¬ (false = true) by decide)] at H; exact H
    clear H
    have H := H1
    clear H1
    replace H := Option.bind_eq_some_iff.mp H
    obtain ⟨⟨t201, t202⟩, A90, H⟩ := H
    replace H : ((bits_Div64.f t201 t202 t199).bind fun bt203 => (some (wrap64 (bt203.1), 0))) = some (r1, r2) := H
    have A9 := Aside0.mk A90
    clear A90
    replace H := Option.bind_eq_some_iff.mp H
    obtain ⟨⟨t203, t204⟩, A100, H⟩ := H
    replace H : (some (wrap64 (t203), 0)) = some (r1, r2) := H
    have A10 := Aside0.mk A100
    clear A100
    simp only [Option.some.injEq, Prod.mk.injEq] at H
    obtain ⟨rfl, rfl⟩ := H
    go_wp2_with (first | ((with_reducible refine gate_callee (f := 89) rfl ?_); refine goesL_ (some 34) rfl rfl Try.func89 (by kernel_rfl) rfl #[.int .u64 (IntKind.u64.wrap (a1)), .int .u64 a0] rfl (by (try simp only [List.map_toArray, List.map_cons, List.map_nil]); first | done | rfl | (simp only [List.length_drop, List.length_take]; rfl)) ?_; (with_reducible refine (bits_Mul64.calls (IntKind.u64.wrap (a1)) a0 t201 t202 _ A9.out).mono ?_); rintro e w' ⟨rfl, ⟨nd, rfl⟩⟩; refine ⟨_, rfl, ?_⟩) | ((with_reducible refine gate_callee (f := 90) rfl ?_); refine goesL_ (some 41) rfl rfl Try.func90 (by kernel_rfl) rfl #[.int .u64 t201, .int .u64 t202, .int .u64 t199] rfl (by (try simp only [List.map_toArray, List.map_cons, List.map_nil]); first | done | rfl | (simp only [List.length_drop, List.length_take]; rfl)) ?_; (with_reducible refine (bits_Div64.calls t201 t202 t199 t203 t204 _ A10.out).mono ?_); rintro e w' ⟨rfl, ⟨nd, rfl⟩⟩; refine ⟨_, rfl, ?_⟩))
    go_ret2
    exact ⟨by first | rfl | (simp; done) | (simp [*]; done), by repeat (first | exact ddR _ | apply ddS)⟩

def quant_Value.f (a0 a1 a2 : Int) : Option (Int × Int) := if U64 a0 ∧ I64 a1 then some (valueF a0 a1 a2) else none
theorem quant_Value.of (a0 a1 a2 : Int)  (h_ : U64 a0 ∧ I64 a1) : quant_Value.f a0 a1 a2 = some (valueF a0 a1 a2) := if_pos h_
theorem quant_Value.is (a0 a1 a2 : Int) (h0 : U64 a0) (h1 : I64 a1) : quant_ValueP.f 2 a0 a1 a2 = some (valueF a0 a1 a2) := by
  unfold quant_ValueP.f valueF quant_Steps.f stepsF
  simp only [Option.bind_some]
  by_cases cb : badW a2
  · rw [if_pos cb, if_neg (by decide), quant_ValueP.j0, if_pos rfl, if_pos (.inl cb)]
  · obtain ⟨t0, t1⟩ := topF_pos cb
    rw [if_neg cb, if_pos rfl]
    by_cases c1 : a1 < 0
    · rw [if_pos c1, quant_ValueP.j0, if_pos rfl, if_pos (.inr (.inl c1))]
    · rw [if_neg c1, quant_ValueP.j0]
      by_cases c2 : a0 > topF a2
      · rw [if_pos (decide_eq_true c2), if_pos (.inr (.inr c2))]
      · rw [if_neg (by simpa using c2), if_neg (show ¬ (badW a2 ∨ a1 < 0 ∨ a0 > topF a2) from fun h => h.elim cb (fun h => h.elim c1 c2))]
        unfold I64 at h1
        unfold U64 at h0
        have hw : IntKind.u64.wrap a1 = a1 := by rw [wu]; omega
        have hp0 : 0 ≤ a1 * a0 := Int.mul_nonneg (by omega) (by omega)
        have hp1 : a1 * a0 ≤ 9223372036854775807 * topF a2 := Int.mul_le_mul (by omega) (by omega) (by omega) (by omega)
        obtain ⟨v0, v1⟩ := value_bd h0.1 (show a0 ≤ topF a2 by omega) (show 0 ≤ a1 by omega) (show 0 < topF a2 by omega)
        unfold bits_Mul64.f bits_Div64.f
        rw [hw, if_pos ⟨by unfold U64; omega, by unfold U64; omega⟩]
        simp only [Option.bind_some]
        rw [if_pos ⟨by unfold U64; omega, by unfold U64; omega, by unfold U64; omega, by omega⟩]
        simp only [Option.bind_some]
        rw [show a1 * a0 / 18446744073709551616 * 18446744073709551616 + a1 * a0 % 18446744073709551616 = a1 * a0 by omega, wrap64_of (by unfold I64; omega)]
theorem quant_Value.calls (a0 : Int) (a1 : Int) (a2 : Int) (r1 : Int) (r2 : Int) (w : World) (h : quant_Value.f a0 a1 a2 = some (r1, r2)) :
    Calls Try.prog 49 #[.int .u64 a0, .int .i64 a1, .int .i64 a2] w fun e w' => e = .returned (.tuple #[.int .i64 r1, .int .i64 r2]) ∧ Drawn0 w w' := by
  unfold quant_Value.f at h
  split at h
  case isFalse => cases h
  rename_i hv
  exact quant_ValueP.calls 2 a0 a1 a2 r1 r2 w ((quant_Value.is a0 a1 a2 hv.1 hv.2).trans h)


end Go.Proofs.Ytkfhdpnfcaghbaa.HQ
