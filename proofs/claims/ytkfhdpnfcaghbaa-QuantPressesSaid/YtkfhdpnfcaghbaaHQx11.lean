/- What Go functions do, each as a plain Lean function with the same answers, and the proof of it, in every world: printed by the session's driver over the kit's print, with texts by hand. -/
import Derived.Test.YtkfhdpnfcaghbaaHQx0
import Derived.Test.YtkfhdpnfcaghbaaHQx4
import Derived.Test.YtkfhdpnfcaghbaaHQx6
import Derived.Test.YtkfhdpnfcaghbaaHQx10
import Derived.Test.YtkfhdpnfcaghbaaMini
namespace Go.Proofs.Ytkfhdpnfcaghbaa.HQ
open Go.RowKit Go.Proofs.YtkfhdpnfcaghbaaW.PrintWords Go.Proofs.YtkfhdpnfcaghbaaW.PrintLast Go.Proofs.YtkfhdpnfcaghbaaW.PrintMore
attribute [local go_sem] max2_int min2_int max_two min_two max_three min_three max_four min_four   -- for this text's walks alone
open Go.Proofs.Ytkfhdpnfcaghbaa.Sp
attribute [local go_sem] Go.Proofs.Ytkfhdpnfcaghbaa.Sp.u64_not
set_option linter.unusedVariables false
set_option linter.unusedSimpArgs false

/-! ### thrumlaw10_liveP: function 44 -/
def thrumlaw10_liveP.f (k : Nat)  : Option (Bool) := (quant_Level.f 7 10 2).bind fun bt186 => ((quant_Press.f k (([5, (-5)] : List Int)) 1 3 ([] : List Int)).bind fun bt192 => (if bt186.1 = 2 then (if bt186.2.1 = 1 then (if bt186.2.2 = 0 then (if bt192.2.2.2.2.2.2.2.2 = 0 then (if bt192.2.1 = 2 then (if bt192.2.2.2.2.1 = 5 then ((quant_Near.f (([5, (-5)] : List Int)) bt192.1 bt192.2.1 bt192.2.2.1 bt192.2.2.2.1 bt192.2.2.2.2.1 bt192.2.2.2.2.2.1 bt192.2.2.2.2.2.2.1 bt192.2.2.2.2.2.2.2.1).bind fun t213 => (some t213)) else (some false)) else (some false)) else (some false)) else (some false)) else (some false)) else (some false)))
theorem thrumlaw10_liveP.mono : ∀ k, LeO (thrumlaw10_liveP.f k ) (thrumlaw10_liveP.f (k + 1) ) := by
 intro  k
 unfold thrumlaw10_liveP.f
 repeat' first
   | (with_reducible exact quant_Press.mono _ _ _ _ _)
   | (with_reducible exact LeO.refl _)
   | (with_reducible exact LeO.none _)
   | (with_reducible refine LeO.ite ?_ ?_)
   | (with_reducible refine LeO.bind ?_ (fun _ => ?_))
set_option maxHeartbeats 80000000 in
set_option maxRecDepth 100000 in
theorem thrumlaw10_liveP.calls (k : Nat)  (r : Bool) (w : World) (h : thrumlaw10_liveP.f k  = some r) (hr_ : r = true) :
  Calls Try.prog 44 #[] w fun e w' => e = .returned (.bool r) ∧ Below w.heap.size w w' := by
 have HR_ := ZM hr_
 clear hr_
 have hu30 := Try.underlying30
 have HB := ZM (Below.refl w.heap.size w)
 have H : ((quant_Level.f 7 10 2).bind fun bt186 => ((quant_Press.f k (([5, (-5)] : List Int)) 1 3 ([] : List Int)).bind fun bt192 => (if bt186.1 = 2 then (if bt186.2.1 = 1 then (if bt186.2.2 = 0 then (if bt192.2.2.2.2.2.2.2.2 = 0 then (if bt192.2.1 = 2 then (if bt192.2.2.2.2.1 = 5 then ((quant_Near.f (([5, (-5)] : List Int)) bt192.1 bt192.2.1 bt192.2.2.1 bt192.2.2.2.1 bt192.2.2.2.2.1 bt192.2.2.2.2.2.1 bt192.2.2.2.2.2.2.1 bt192.2.2.2.2.2.2.2.1).bind fun t213 => (some t213)) else (some false)) else (some false)) else (some false)) else (some false)) else (some false)) else (some false)))) = some r := h
 clear h
 replace H := Option.bind_eq_some_iff.mp H
 obtain ⟨⟨t186, t187, t188⟩, A10, H⟩ := H
 replace H : ((quant_Press.f k (([5, (-5)] : List Int)) 1 3 ([] : List Int)).bind fun bt192 => (if t186 = 2 then (if t187 = 1 then (if t188 = 0 then (if bt192.2.2.2.2.2.2.2.2 = 0 then (if bt192.2.1 = 2 then (if bt192.2.2.2.2.1 = 5 then ((quant_Near.f (([5, (-5)] : List Int)) bt192.1 bt192.2.1 bt192.2.2.1 bt192.2.2.2.1 bt192.2.2.2.2.1 bt192.2.2.2.2.2.1 bt192.2.2.2.2.2.2.1 bt192.2.2.2.2.2.2.2.1).bind fun t213 => (some t213)) else (some false)) else (some false)) else (some false)) else (some false)) else (some false)) else (some false))) = some r := H
 have A1 := ZM A10
 clear A10
 obtain ⟨y189, hy189⟩ : ∃ y_ : List Int, y_ = (([5, (-5)] : List Int)) := ⟨_, rfl⟩
 replace H : ((quant_Press.f k y189 1 3 ([] : List Int)).bind fun bt192 => (if t186 = 2 then (if t187 = 1 then (if t188 = 0 then (if bt192.2.2.2.2.2.2.2.2 = 0 then (if bt192.2.1 = 2 then (if bt192.2.2.2.2.1 = 5 then ((quant_Near.f (([5, (-5)] : List Int)) bt192.1 bt192.2.1 bt192.2.2.1 bt192.2.2.2.1 bt192.2.2.2.2.1 bt192.2.2.2.2.2.1 bt192.2.2.2.2.2.2.1 bt192.2.2.2.2.2.2.2.1).bind fun t213 => (some t213)) else (some false)) else (some false)) else (some false)) else (some false)) else (some false)) else (some false))) = some r := by first | (rw [hy189]; with_reducible exact H) | (have H2_ := (Option.bind_some _ _).symm.trans H; rw [hy189]; with_reducible exact H2_) | (have H2_ := (Option.bind_some _ _).symm.trans H; with_reducible exact H2_) | with_reducible exact H | (rw [hy189]; exact H) | exact H
 have Ny189 := ZM hy189
 clear hy189
 replace H := Option.bind_eq_some_iff.mp H
 obtain ⟨⟨t192, t193, t194, t197, t200, t201, t202, t205, t208⟩, A20, H⟩ := H
 replace H : (if t186 = 2 then (if t187 = 1 then (if t188 = 0 then (if t208 = 0 then (if t193 = 2 then (if t200 = 5 then ((quant_Near.f (([5, (-5)] : List Int)) t192 t193 t194 t197 t200 t201 t202 t205).bind fun t213 => (some t213)) else (some false)) else (some false)) else (some false)) else (some false)) else (some false)) else (some false)) = some r := H
 have A2 := ZM A20
 clear A20
 by_cases c3 : t186 = 2
 case neg =>
  rw [if_neg c3] at H
  exact absurd (Option.some.inj H) Z59
 rw [if_pos c3] at H
 have c3b0 : (t186 == 2) = true := beq_iff_eq.mpr c3
 have c3b1 : (t186 != 2) = false := bne_eq_false_iff_eq.mpr c3
 clear c3
 by_cases c4 : t187 = 1
 case neg =>
  rw [if_neg c4] at H
  exact absurd (Option.some.inj H) Z59
 rw [if_pos c4] at H
 have c4b0 : (t187 == 1) = true := beq_iff_eq.mpr c4
 have c4b1 : (t187 != 1) = false := bne_eq_false_iff_eq.mpr c4
 clear c4
 by_cases c5 : t188 = 0
 case neg =>
  rw [if_neg c5] at H
  exact absurd (Option.some.inj H) Z59
 rw [if_pos c5] at H
 have c5b0 : (t188 == 0) = true := beq_iff_eq.mpr c5
 have c5b1 : (t188 != 0) = false := bne_eq_false_iff_eq.mpr c5
 clear c5
 by_cases c6 : t208 = 0
 case neg =>
  rw [if_neg c6] at H
  exact absurd (Option.some.inj H) Z59
 rw [if_pos c6] at H
 have c6b0 : (t208 == 0) = true := beq_iff_eq.mpr c6
 have c6b1 : (t208 != 0) = false := bne_eq_false_iff_eq.mpr c6
 clear c6
 by_cases c7 : t193 = 2
 case neg =>
  rw [if_neg c7] at H
  exact absurd (Option.some.inj H) Z59
 rw [if_pos c7] at H
 have c7b0 : (t193 == 2) = true := beq_iff_eq.mpr c7
 have c7b1 : (t193 != 2) = false := bne_eq_false_iff_eq.mpr c7
 clear c7
 by_cases c8 : t200 = 5
 case neg =>
  rw [if_neg c8] at H
  exact absurd (Option.some.inj H) Z59
 rw [if_pos c8] at H
 have c8b0 : (t200 == 5) = true := beq_iff_eq.mpr c8
 have c8b1 : (t200 != 5) = false := bne_eq_false_iff_eq.mpr c8
 clear c8
 obtain ⟨y210, hy210⟩ : ∃ y_ : List Int, y_ = (([5, (-5)] : List Int)) := ⟨_, rfl⟩
 replace H : ((quant_Near.f y210 t192 t193 t194 t197 t200 t201 t202 t205).bind fun t213 => (some t213)) = some r := by first | (rw [hy210]; with_reducible exact H) | (have H2_ := (Option.bind_some _ _).symm.trans H; rw [hy210]; with_reducible exact H2_) | (have H2_ := (Option.bind_some _ _).symm.trans H; with_reducible exact H2_) | with_reducible exact H | (rw [hy210]; exact H) | exact H
 have Ny210 := ZM hy210
 clear hy210
 replace H := Option.bind_eq_some_iff.mp H
 obtain ⟨t213, A90, H⟩ := H
 replace H : (some t213) = some r := H
 have A9 := ZM A90
 clear A90
 obtain rfl := Option.some.inj H
 go_enter Try.func44, Try.ntmps44
 go_wp2_with (first | ((with_reducible refine gate_callee (f := 47) rfl ?_); refine goesL_ (some 7) rfl rfl Try.func47 (by kernel_rfl) rfl #[.int .i64 7, .int .i64 10, .int .i64 2] rfl Z1 ?_; (with_reducible refine (quant_Level.calls 7 10 2 t186 t187 t188 _ A1.out).mono ?_); rintro e w' ⟨rfl, ⟨nd, rfl⟩⟩; refine ⟨_, rfl, ?_⟩) | ((with_reducible refine gate_dst (N := 12) rfl ?_); (try (refine gate_guard (by rfl) ?_; dsimp only)); refine Kd.R_lit (Kd.int .i64) _ 2 ?hg (N := 12) ?hd (xs := ([5, (-5)] : List Int)) (inner := [.int .i64 5, .int .i64 (-5)]) (ok := fun _ => True) (okp := fun _ => True) ?hr ?hp (fun _ hk => hk) trivial (Below.refl _ _) (Nat.le_refl _) (by simp) ?_; (case hd => rfl); (case hg => rfl); (case hr => exact Z12); (case hp => exact (Reps.one (show Kd.M (Kd.int .i64) _ _ _ 5 [.int .i64 5] from rfl) (Reps.one (show Kd.M (Kd.int .i64) _ _ _ (-5) [.int .i64 (-5)] from rfl) (Reps.none _ _)))); intro v190 w10 ho11 hb hg_ hnew_; clear hg_ hnew_; (first | rw [← Ny189.out] at ho11 | (simp only [Int.reduceToNat] at ho11; rw [← Ny189.out] at ho11)); have HO191 := ZM (Kd.R_lower ho11 (zzS Z3)); replace HB := ZM (zzT Z3 hb); clear hb ho11; obtain ⟨Ao12, co12, eo12⟩ := Kd.R_slice HO191.out; subst eo12) | ((with_reducible refine gate_callee (f := 46) rfl ?_); refine goesL_ (some 13) rfl rfl Try.func46 (by kernel_rfl) rfl #[.slice Ao12 y189.length co12, .int .i64 1, .int .u64 3, .slice none 0 0] rfl Z1 ?_; (refine (quant_Press.calls k _ _ y189 1 3 _ _ ([] : List Int) t192 t193 t194 t197 t200 t201 t202 t205 t208 _ ?side1 ?side2 ?side3 ?side4 A2.out).mono ?_); (case side1 => repeat (first | exact (Kd.R_reads' HO191.out).2.2 | (with_reducible refine ccA ?_ _) | (with_reducible refine ccN ?_ _) | (with_reducible refine ccD ?_))); (case side2 => exact (Kd.R_reads' HO191.out).2.1); (case side3 => exact Kd.C_nil _ _); (case side4 => exact Nat.le_refl _); rintro e w13 ⟨v195, v198, v203, v206, rfl, ho0, ho1, ho2, ho3, hb⟩; refine ⟨_, rfl, ?_⟩; have n0_ := ZM (Kd.R_elder' (Zr HO191) (Kd.R_base ho1) hb); have n1_ := ZM (Kd.R_lower ho0 (zzS Z3)); have n2_ := ZM (Kd.R_lower (Kd.R_new' ho1 (Kd.R_lt (Zr HO191))) (zzS Z3)); have n3_ := ZM (Kd.R_lower ho2 (zzS Z3)); have n4_ := ZM (Kd.R_lower ho3 (zzS Z3)); have n5_ := ZM (zzT Z3 hb); clear HO191; clear HB; have HO191 := n0_; have HO196 := n1_; have HO199 := n2_; have HO204 := n3_; have HO207 := n4_; have HB := n5_; clear n0_ n1_ n2_ n3_ n4_ n5_; (try clear hb); (try clear hb2); (try clear hk); (try clear hi); (try clear ho0); (try clear ho1); (try clear ho2); (try clear ho3)) | ((with_reducible refine gate_dst (N := 4) rfl ?_); (try (refine gate_guard (by rfl) ?_; dsimp only)); refine box_event ?hg (N := 4) ?hd (cs := #[.int .i64 0, .int .i64 0, .slice none 0 0, .slice none 0 0, .int .i64 0, .int .i64 0, .slice none 0 0, .slice none 0 0]) (t := 30) ?hr ?_; (case hd => rfl); (case hg => rfl); (case hr => exact Z12); intro gb209 hg w14 hbox hb; replace HO191 := ZM (Kd.R_below (Zr HO191) hb); replace HO196 := ZM (Kd.R_below (Zr HO196) hb); replace HO199 := ZM (Kd.R_below (Zr HO199) hb); replace HO204 := ZM (Kd.R_below (Zr HO204) hb); replace HO207 := ZM (Kd.R_below (Zr HO207) hb); have BK209 := ZM (hbox); have GW209 := ZM ((by rw [hg]; exact (zzS Z3) : w.heap.size ≤ gb209)); have GE209 := ZM ((by rw [hg]; exact (zzS Z3) : w.heap.size ≤ gb209)); replace HB := ZM (zzT Z3 hb); clear hb hbox hg; obtain ⟨hcz15_0, hcz15_1, hcz15_2, hcz15_3, hcz15_4, hcz15_5, hcz15_6, hcz15_7, hfz15_0, hfz15_1, hfz15_2, hfz15_3, hfz15_4, hfz15_5, hfz15_6, hfz15_7⟩ := Y8f BK209; obtain ⟨Ao16, co16, eo16⟩ := Kd.R_slice HO196.out; subst eo16; obtain ⟨Ao17, co17, eo17⟩ := Kd.R_slice HO199.out; subst eo17; obtain ⟨Ao18, co18, eo18⟩ := Kd.R_slice HO204.out; subst eo18; obtain ⟨Ao19, co19, eo19⟩ := Kd.R_slice HO207.out; subst eo19) | ((with_reducible refine gate_dst (N := 41) rfl ?_); (try (refine gate_guard (by rfl) ?_; dsimp only)); refine Kd.R_lit (Kd.int .i64) _ 2 ?hg (N := 41) ?hd (xs := ([5, (-5)] : List Int)) (inner := [.int .i64 5, .int .i64 (-5)]) (ok := fun _ => True) (okp := fun _ => True) ?hr ?hp (fun _ hk => hk) trivial (Below.refl _ _) (Nat.le_refl _) (by simp) ?_; (case hd => rfl); (case hg => rfl); (case hr => exact Z12); (case hp => exact (Reps.one (show Kd.M (Kd.int .i64) _ _ _ 5 [.int .i64 5] from rfl) (Reps.one (show Kd.M (Kd.int .i64) _ _ _ (-5) [.int .i64 (-5)] from rfl) (Reps.none _ _)))); intro v211 w20 ho21 hb hg_ hnew_; clear hg_ hnew_; (first | rw [← Ny210.out] at ho21 | (simp only [Int.reduceToNat] at ho21; rw [← Ny210.out] at ho21)); have n0_ := ZM (Kd.R_elder' Z22 (Kd.R_base ho21) hb); have n1_ := ZM (Kd.R_below (by (with_reducible repeat (first | apply rrA | apply rrN | apply rrD)); exact (Kd.R_mono (Kd.R_far (p := ⟨gb209, 7, none⟩) (Kd.R_far (p := ⟨gb209, 6, none⟩) (Kd.R_far (p := ⟨gb209, 5, none⟩) (Kd.R_far (p := ⟨gb209, 4, none⟩) (Kd.R_far (p := ⟨gb209, 3, none⟩) (Kd.R_far (p := ⟨gb209, 2, none⟩) (Kd.R_far (p := ⟨gb209, 1, none⟩) (Kd.R_far (p := ⟨gb209, 0, none⟩) (Kd.R_types HO196.out BK209.out (by decide)) (fun _ hk => hk.2) (.int .i64 t192)) (fun _ hk => hk.2) (.int .i64 t193)) (fun _ hk => hk.2) (.slice Ao16 t194.length co16)) (fun _ hk => hk.2) (.slice Ao17 t197.length co17)) (fun _ hk => hk.2) (.int .i64 t200)) (fun _ hk => hk.2) (.int .i64 t201)) (fun _ hk => hk.2) (.slice Ao18 t202.length co18)) (fun _ hk => hk.2) (.slice Ao19 t205.length co19)) (fun _ h_ => h_.1))) hb); have n2_ := ZM (Kd.R_elder' Z23 (Kd.R_base ho21) hb); have n3_ := ZM (Kd.R_below (by (with_reducible repeat (first | apply rrA | apply rrN | apply rrD)); exact (Kd.R_mono (Kd.R_far (p := ⟨gb209, 7, none⟩) (Kd.R_far (p := ⟨gb209, 6, none⟩) (Kd.R_far (p := ⟨gb209, 5, none⟩) (Kd.R_far (p := ⟨gb209, 4, none⟩) (Kd.R_far (p := ⟨gb209, 3, none⟩) (Kd.R_far (p := ⟨gb209, 2, none⟩) (Kd.R_far (p := ⟨gb209, 1, none⟩) (Kd.R_far (p := ⟨gb209, 0, none⟩) (Kd.R_types HO204.out BK209.out (by decide)) (fun _ hk => hk.2) (.int .i64 t192)) (fun _ hk => hk.2) (.int .i64 t193)) (fun _ hk => hk.2) (.slice Ao16 t194.length co16)) (fun _ hk => hk.2) (.slice Ao17 t197.length co17)) (fun _ hk => hk.2) (.int .i64 t200)) (fun _ hk => hk.2) (.int .i64 t201)) (fun _ hk => hk.2) (.slice Ao18 t202.length co18)) (fun _ hk => hk.2) (.slice Ao19 t205.length co19)) (fun _ h_ => h_.1))) hb); have n4_ := ZM (Kd.R_below (by (with_reducible repeat (first | apply rrA | apply rrN | apply rrD)); exact (Kd.R_mono (Kd.R_far (p := ⟨gb209, 7, none⟩) (Kd.R_far (p := ⟨gb209, 6, none⟩) (Kd.R_far (p := ⟨gb209, 5, none⟩) (Kd.R_far (p := ⟨gb209, 4, none⟩) (Kd.R_far (p := ⟨gb209, 3, none⟩) (Kd.R_far (p := ⟨gb209, 2, none⟩) (Kd.R_far (p := ⟨gb209, 1, none⟩) (Kd.R_far (p := ⟨gb209, 0, none⟩) (Kd.R_types HO207.out BK209.out (by decide)) (fun _ hk => hk.2) (.int .i64 t192)) (fun _ hk => hk.2) (.int .i64 t193)) (fun _ hk => hk.2) (.slice Ao16 t194.length co16)) (fun _ hk => hk.2) (.slice Ao17 t197.length co17)) (fun _ hk => hk.2) (.int .i64 t200)) (fun _ hk => hk.2) (.int .i64 t201)) (fun _ hk => hk.2) (.slice Ao18 t202.length co18)) (fun _ hk => hk.2) (.slice Ao19 t205.length co19)) (fun _ h_ => h_.1))) hb); have n5_ := ZM (Kd.R_lower (Kd.R_new' (Kd.R_new' ho21 (Kd.R_lt Z22)) (Kd.R_lt Z23)) (zzS Z58)); have n6_ := ZM (blk_below (g := gb209) (o := .cells #[.int .i64 t192, .int .i64 t193, .slice Ao16 t194.length co16, .slice Ao17 t197.length co17, .int .i64 t200, .int .i64 t201, .slice Ao18 t202.length co18, .slice Ao19 t205.length co19] 30 (0, 0)) (by (with_reducible repeat (first | refine kkN ?_ _ | refine kkD ?_ | refine kkA ?_ _)); refine blk_put (cs := #[.int .i64 t192, .int .i64 t193, .slice Ao16 t194.length co16, .slice Ao17 t197.length co17, .int .i64 t200, .int .i64 t201, .slice Ao18 t202.length co18, .slice none 0 0]) ?_ 7 _ rfl; (with_reducible repeat (first | refine kkN ?_ _ | refine kkD ?_ | refine kkA ?_ _)); refine blk_put (cs := #[.int .i64 t192, .int .i64 t193, .slice Ao16 t194.length co16, .slice Ao17 t197.length co17, .int .i64 t200, .int .i64 t201, .slice none 0 0, .slice none 0 0]) ?_ 6 _ rfl; (with_reducible repeat (first | refine kkN ?_ _ | refine kkD ?_ | refine kkA ?_ _)); refine blk_put (cs := #[.int .i64 t192, .int .i64 t193, .slice Ao16 t194.length co16, .slice Ao17 t197.length co17, .int .i64 t200, .int .i64 0, .slice none 0 0, .slice none 0 0]) ?_ 5 _ rfl; (with_reducible repeat (first | refine kkN ?_ _ | refine kkD ?_ | refine kkA ?_ _)); refine blk_put (cs := #[.int .i64 t192, .int .i64 t193, .slice Ao16 t194.length co16, .slice Ao17 t197.length co17, .int .i64 0, .int .i64 0, .slice none 0 0, .slice none 0 0]) ?_ 4 _ rfl; (with_reducible repeat (first | refine kkN ?_ _ | refine kkD ?_ | refine kkA ?_ _)); refine blk_put (cs := #[.int .i64 t192, .int .i64 t193, .slice Ao16 t194.length co16, .slice none 0 0, .int .i64 0, .int .i64 0, .slice none 0 0, .slice none 0 0]) ?_ 3 _ rfl; (with_reducible repeat (first | refine kkN ?_ _ | refine kkD ?_ | refine kkA ?_ _)); refine blk_put (cs := #[.int .i64 t192, .int .i64 t193, .slice none 0 0, .slice none 0 0, .int .i64 0, .int .i64 0, .slice none 0 0, .slice none 0 0]) ?_ 2 _ rfl; (with_reducible repeat (first | refine kkN ?_ _ | refine kkD ?_ | refine kkA ?_ _)); refine blk_put (cs := #[.int .i64 t192, .int .i64 0, .slice none 0 0, .slice none 0 0, .int .i64 0, .int .i64 0, .slice none 0 0, .slice none 0 0]) ?_ 1 _ rfl; (with_reducible repeat (first | refine kkN ?_ _ | refine kkD ?_ | refine kkA ?_ _)); refine blk_put (cs := #[.int .i64 0, .int .i64 0, .slice none 0 0, .slice none 0 0, .int .i64 0, .int .i64 0, .slice none 0 0, .slice none 0 0]) ?_ 0 _ rfl; (with_reducible repeat (first | refine kkN ?_ _ | refine kkD ?_ | refine kkA ?_ _)); exact BK209.out) hb); have n7_ := ZM (zzT Z58 hb); clear HO191; clear HO196; clear HO199; clear HO204; clear HO207; clear BK209; clear HB; have HO191 := n0_; have HO196 := n1_; have HO199 := n2_; have HO204 := n3_; have HO207 := n4_; have HO212 := n5_; have BK209 := n6_; have HB := n7_; clear n0_ n1_ n2_ n3_ n4_ n5_ n6_ n7_; clear hb ho21; obtain ⟨hcz22_0, hcz22_1, hcz22_2, hcz22_3, hcz22_4, hcz22_5, hcz22_6, hcz22_7, hfz22_0, hfz22_1, hfz22_2, hfz22_3, hfz22_4, hfz22_5, hfz22_6, hfz22_7⟩ := Y8f BK209; obtain ⟨Ao23, co23, eo23⟩ := Kd.R_slice HO212.out; subst eo23) | (go_at_call 58; (with_reducible refine (quant_Near.calls _ _ y210 t192 t193 _ _ t194 _ _ t197 t200 t201 _ _ t202 _ _ t205 t213 _ ?side1 ?side2 ?side3 ?side4 ?side5 ?side6 ?side7 ?side8 ?side9 ?side10 A9.out).mono ?_); (case side1 => repeat (first | exact (Kd.R_reads' HO212.out).2.2 | (with_reducible refine ccA ?_ _) | (with_reducible refine ccN ?_ _) | (with_reducible refine ccD ?_))); (case side2 => exact (Kd.R_reads' HO212.out).2.1); (case side3 => repeat (first | exact (Kd.R_reads' HO196.out).2.2 | (with_reducible refine ccA ?_ _) | (with_reducible refine ccN ?_ _) | (with_reducible refine ccD ?_))); (case side4 => exact (Kd.R_reads' HO196.out).2.1); (case side5 => repeat (first | exact (Kd.R_reads' HO199.out).2.2 | (with_reducible refine ccA ?_ _) | (with_reducible refine ccN ?_ _) | (with_reducible refine ccD ?_))); (case side6 => exact (Kd.R_reads' HO199.out).2.1); (case side7 => repeat (first | exact (Kd.R_reads' HO204.out).2.2 | (with_reducible refine ccA ?_ _) | (with_reducible refine ccN ?_ _) | (with_reducible refine ccD ?_))); (case side8 => exact (Kd.R_reads' HO204.out).2.1); (case side9 => repeat (first | exact (Kd.R_reads' HO207.out).2.2 | (with_reducible refine ccA ?_ _) | (with_reducible refine ccN ?_ _) | (with_reducible refine ccD ?_))); (case side10 => exact (Kd.R_reads' HO207.out).2.1); rintro e w24 ⟨rfl, hb⟩; replace HO191 := ZM (Kd.R_below (Zr HO191) hb); replace HO196 := ZM (Kd.R_below (Zr HO196) hb); replace HO199 := ZM (Kd.R_below (Zr HO199) hb); replace HO204 := ZM (Kd.R_below (Zr HO204) hb); replace HO207 := ZM (Kd.R_below (Zr HO207) hb); replace HO212 := ZM (Kd.R_below (Zr HO212) hb); replace BK209 := ZM (blk_below (g := gb209) (o := .cells #[.int .i64 t192, .int .i64 t193, .slice Ao16 t194.length co16, .slice Ao17 t197.length co17, .int .i64 t200, .int .i64 t201, .slice Ao18 t202.length co18, .slice Ao19 t205.length co19] 30 (0, 0)) (Zk BK209) hb); replace HB := ZM (zzT Z58 hb); (try clear hb); (try clear hb2); (try clear hk); (try clear hi)))
 go_ret
 exact ⟨by first | rfl | (simp [errW_none, errW_some] <;> rfl) | (simp [*, errW_none, errW_some] <;> rfl), by repeat (first | (with_reducible first | exact HB.out | apply zzA | apply zzN | apply zzD | refine below_set ?_ GE209.out) | exact HB.out)⟩
def thrumlaw10_live.f : Option Bool := some true
theorem thrumlaw10_live.calls  (r : Bool) (w : World) (h : thrumlaw10_live.f  = some r) :
    Calls Try.prog 44 #[] w fun e w' => e = .returned (.bool r) ∧ Below w.heap.size w w' := by
  have hr : r = true := (Option.some.inj h).symm
  refine thrumlaw10_liveP.calls 12 r w (Eq.trans ?_ h) hr
  decide +kernel


/-! ### thrumlaw10_few: function 45 -/
def thrumlaw10_few.f (l0 : List Int) (l1 : List Int) : Option (Bool) := if (l0.length : Int) ≤ 200 then (some (decide ((l1.length : Int) ≤ 50))) else (if (l0.length : Int) > 4096 then (if (l0.length : Int) ≤ 5000 then (some (decide ((l1.length : Int) ≤ 50))) else (some false)) else (some false))
set_option maxHeartbeats 80000000 in
set_option maxRecDepth 100000 in
theorem thrumlaw10_few.calls (A0 : Option Addr) (c0 : Nat) (l0 : List Int) (A1 : Option Addr) (c1 : Nat) (l1 : List Int) (r : Bool) (w : World) (hr0 : Kd.C (Kd.int .i64) w A0 l0.length l0) (hc0 : l0.length ≤ c0) (hr1 : Kd.C (Kd.int .i64) w A1 l1.length l1) (hc1 : l1.length ≤ c1) (h : thrumlaw10_few.f l0 l1 = some r) :
  Calls Try.prog 45 #[.slice A0 l0.length c0, .slice A1 l1.length c1] w fun e w' => e = .returned (.bool r) ∧ Drawn0 w w' := by
 have HR0 := ZM hr0
 have HC0 := ZM hc0
 clear hr0 hc0
 have HR1 := ZM hr1
 have HC1 := ZM hc1
 clear hr1 hc1
 have H : (if (l0.length : Int) ≤ 200 then (some (decide ((l1.length : Int) ≤ 50))) else (if (l0.length : Int) > 4096 then (if (l0.length : Int) ≤ 5000 then (some (decide ((l1.length : Int) ≤ 50))) else (some false)) else (some false))) = some r := h
 clear h
 by_cases c3 : (l0.length : Int) ≤ 200
 ·
  rw [if_pos c3] at H
  have c3b0 : decide ((l0.length : Int) ≤ 200) = true := decide_eq_true c3
  have c3b1 : decide (l0.length ≤ 200) = true := decide_eq_true (by omega)
  clear c3
  obtain rfl := Option.some.inj H
  go_enter Try.func45, Try.ntmps45
  go_wp2
  go_ret
  exact ⟨by first | rfl | (simp; done) | (simp [*]; done), by repeat (first | exact ddR _ | apply ddS)⟩
 rw [if_neg c3] at H
 have c3b0 : decide ((l0.length : Int) ≤ 200) = false := decide_eq_false c3
 have c3b1 : decide (l0.length ≤ 200) = false := decide_eq_false (by omega)
 clear c3
 by_cases c4 : (l0.length : Int) > 4096
 case neg =>
  rw [if_neg c4] at H
  have c4b0 : decide (4096 < (l0.length : Int)) = false := decide_eq_false c4
  have c4b1 : decide (4096 < l0.length) = false := decide_eq_false (by omega)
  clear c4
  obtain rfl := Option.some.inj H
  go_enter Try.func45, Try.ntmps45
  go_wp2
  go_ret
  exact ⟨by first | rfl | (simp; done) | (simp [*]; done), by repeat (first | exact ddR _ | apply ddS)⟩
 rw [if_pos c4] at H
 have c4b0 : decide (4096 < (l0.length : Int)) = true := decide_eq_true c4
 have c4b1 : decide (4096 < l0.length) = true := decide_eq_true (by omega)
 clear c4
 by_cases c5 : (l0.length : Int) ≤ 5000
 case neg =>
  rw [if_neg c5] at H
  have c5b0 : decide ((l0.length : Int) ≤ 5000) = false := decide_eq_false c5
  have c5b1 : decide (l0.length ≤ 5000) = false := decide_eq_false (by omega)
  clear c5
  obtain rfl := Option.some.inj H
  go_enter Try.func45, Try.ntmps45
  go_wp2
  go_ret
  exact ⟨by first | rfl | (simp; done) | (simp [*]; done), by repeat (first | exact ddR _ | apply ddS)⟩
 rw [if_pos c5] at H
 have c5b0 : decide ((l0.length : Int) ≤ 5000) = true := decide_eq_true c5
 have c5b1 : decide (l0.length ≤ 5000) = true := decide_eq_true (by omega)
 clear c5
 obtain rfl := Option.some.inj H
 go_enter Try.func45, Try.ntmps45
 go_wp2
 go_ret
 exact ⟨by first | rfl | (simp; done) | (simp [*]; done), by repeat (first | exact ddR _ | apply ddS)⟩
/-! ### thrumref10_StepsP: function 52 -/
def thrumref10_StepsP.f (a0 : Int) : Option (Int × Int) := if a0 < 1 then (some (0, 1)) else (if a0 > 8 then (some (0, 1)) else (if 0 ≤ a0 then (some (IntKind.u64.wrap ((shl .u64 1 a0) - 1), 0)) else (none)))
set_option maxHeartbeats 8000000 in
set_option maxRecDepth 100000 in
theorem thrumref10_StepsP.calls (a0 : Int) (r1 : Int) (r2 : Int) (w : World) (h : thrumref10_StepsP.f a0 = some (r1, r2)) :
  Calls Try.prog 52 #[.int .i64 a0] w fun e w' => e = .returned (.tuple #[.int .u64 r1, .int .i64 r2]) ∧ Drawn0 w w' := by
 have H : (if a0 < 1 then (some (0, 1)) else (if a0 > 8 then (some (0, 1)) else (if 0 ≤ a0 then (some (IntKind.u64.wrap ((shl .u64 1 a0) - 1), 0)) else (none)))) = some (r1, r2) := h
 clear h
 by_cases c2 : a0 < 1
 ·
  rw [if_pos c2] at H
  have c2b0 : decide (a0 < 1) = true := decide_eq_true c2
  clear c2
  simp only [Option.some.injEq, Prod.mk.injEq] at H
  obtain ⟨rfl, rfl⟩ := H
  go_enter Try.func52, Try.ntmps52
  go_wp2
  go_ret2
  exact ⟨by first | rfl | (simp; done) | (simp [*]; done), by repeat (first | exact ddR _ | apply ddS)⟩
 rw [if_neg c2] at H
 have c2b0 : decide (a0 < 1) = false := decide_eq_false c2
 clear c2
 by_cases c3 : a0 > 8
 ·
  rw [if_pos c3] at H
  have c3b0 : decide (8 < a0) = true := decide_eq_true c3
  clear c3
  simp only [Option.some.injEq, Prod.mk.injEq] at H
  obtain ⟨rfl, rfl⟩ := H
  go_enter Try.func52, Try.ntmps52
  go_wp2
  go_ret2
  exact ⟨by first | rfl | (simp; done) | (simp [*]; done), by repeat (first | exact ddR _ | apply ddS)⟩
 rw [if_neg c3] at H
 have c3b0 : decide (8 < a0) = false := decide_eq_false c3
 clear c3
 by_cases c4 : 0 ≤ a0
 case neg =>
  rw [if_neg c4] at H
  exact absurd H (by simp)
 rw [if_pos c4] at H
 have c4b0 := eq_true c4
 have c4b1 : decide (0 ≤ a0) = true := decide_eq_true c4
 clear c4
 obtain ⟨ji5, hji5⟩ : ∃ j_ : Int, (shl .u64 1 a0) = j_ := ⟨_, rfl⟩
 replace H : (some (IntKind.u64.wrap ((ji5) - 1), 0)) = some (r1, r2) := by first | (rw [hji5] at H; exact H) | (simp only [hji5] at H ⊢; exact H)
 have hji5_ : (IntKind.u64.wrap (1 * 2 ^ min a0.toNat 64)) = ji5 := hji5
 have hji5z : a0 ≤ 64 → (IntKind.u64.wrap (1 * 2 ^ a0.toNat)) = ji5 := shl_small hji5
 have hji5u : (IntKind.u64.wrap (2 ^ min a0.toNat 64)) = ji5 := by have h_ := hji5_; rw [Int.one_mul] at h_; exact h_
 have hji5v : a0 ≤ 64 → (IntKind.u64.wrap (2 ^ a0.toNat)) = ji5 := fun hle_ => by have h_ := hji5z hle_; rw [Int.one_mul] at h_; exact h_
 simp only [Option.some.injEq, Prod.mk.injEq] at H
 obtain ⟨rfl, rfl⟩ := H
 go_enter Try.func52, Try.ntmps52
 go_wp2
 go_ret2
 exact ⟨by first | rfl | (simp; done) | (simp only [← hji5] <;> (first | rfl | simp)) | (simp [*]; done), by repeat (first | exact ddR _ | apply ddS)⟩
def thrumref10_Steps.f (a0 : Int) : Option (Int × Int) := some (stepsF a0)
theorem thrumref10_Steps.is (a0 : Int) : thrumref10_StepsP.f a0 = some (stepsF a0) := by
  unfold thrumref10_StepsP.f stepsF
  by_cases c : a0 < 1
  · rw [if_pos c, if_pos (show badW a0 from .inl c)]
  · rw [if_neg c]
    by_cases c2 : a0 > 8
    · rw [if_pos c2, if_pos (show badW a0 from .inr c2)]
    · rw [if_neg c2, if_pos (show 0 ≤ a0 by omega), if_neg (show ¬ badW a0 from fun h => by unfold badW at h; omega)]
      have hc : a0 = 1 ∨ a0 = 2 ∨ a0 = 3 ∨ a0 = 4 ∨ a0 = 5 ∨ a0 = 6 ∨ a0 = 7 ∨ a0 = 8 := by omega
      rcases hc with rfl | rfl | rfl | rfl | rfl | rfl | rfl | rfl <;> decide +kernel
theorem thrumref10_Steps.calls (a0 : Int) (r1 : Int) (r2 : Int) (w : World) (h : thrumref10_Steps.f a0 = some (r1, r2)) :
    Calls Try.prog 52 #[.int .i64 a0] w fun e w' => e = .returned (.tuple #[.int .u64 r1, .int .i64 r2]) ∧ Drawn0 w w' := by
  exact thrumref10_StepsP.calls a0 r1 r2 w ((thrumref10_Steps.is a0).trans h)


/-! ### thrumref09_SizeP: function 53 -/
def thrumref09_SizeP.f (a0 : Int) : Option (Int) := if a0 < 0 then (some (IntKind.u64.wrap ((IntKind.u64.wrap (wrap64 (-(wrap64 (a0 + 1))))) + 1))) else (some (IntKind.u64.wrap (a0)))
set_option maxHeartbeats 8000000 in
set_option maxRecDepth 100000 in
theorem thrumref09_SizeP.calls (a0 : Int) (r : Int) (w : World) (h : thrumref09_SizeP.f a0 = some r) :
  Calls Try.prog 53 #[.int .i64 a0] w fun e w' => e = .returned (.int .u64 r) ∧ Drawn0 w w' := by
 have H : (if a0 < 0 then (some (IntKind.u64.wrap ((IntKind.u64.wrap (wrap64 (-(wrap64 (a0 + 1))))) + 1))) else (some (IntKind.u64.wrap (a0)))) = some r := h
 clear h
 by_cases c2 : a0 < 0
 case neg =>
  rw [if_neg c2] at H
  have c2b0 : decide (a0 < 0) = false := decide_eq_false c2
  clear c2
  obtain rfl := Option.some.inj H
  go_enter Try.func53, Try.ntmps53
  go_wp2
  go_ret
  exact ⟨by first | rfl | (simp; done) | (simp [*]; done), by repeat (first | exact ddR _ | apply ddS)⟩
 rw [if_pos c2] at H
 have c2b0 : decide (a0 < 0) = true := decide_eq_true c2
 clear c2
 obtain rfl := Option.some.inj H
 go_enter Try.func53, Try.ntmps53
 go_wp2
 go_ret
 exact ⟨by first | rfl | (simp; done) | (simp [*]; done), by repeat (first | exact ddR _ | apply ddS)⟩
def thrumref09_Size.f (a0 : Int) : Option Int := if I64 a0 then some (absN a0) else none
theorem thrumref09_Size.of (a0 : Int)  (h_ : I64 a0) : thrumref09_Size.f a0 = some (absN a0) := if_pos h_
theorem thrumref09_Size.is (a0 : Int) (h : I64 a0) : thrumref09_SizeP.f a0 = some (absN a0) := by
  unfold thrumref09_SizeP.f absN
  unfold I64 at h
  by_cases c : a0 < 0
  · rw [if_pos c, wrap64_of (x := a0 + 1) (by unfold I64; omega), wrap64_of (x := -(a0 + 1)) (by unfold I64; omega)]; simp only [wu]; congr 1; omega
  · rw [if_neg c]; simp only [wu]; congr 1; omega
theorem thrumref09_Size.calls (a0 : Int) (r : Int) (w : World) (h : thrumref09_Size.f a0 = some r) :
    Calls Try.prog 53 #[.int .i64 a0] w fun e w' => e = .returned (.int .u64 r) ∧ Drawn0 w w' := by
  unfold thrumref09_Size.f at h
  split at h
  case isFalse => cases h
  rename_i hv
  exact thrumref09_SizeP.calls a0 r w ((thrumref09_Size.is a0 hv).trans h)


/-! ### thrumref10_LevelP: function 48 -/
mutual
def thrumref10_LevelP.j0 : Nat → Int → Int → Int → Bool → Option (Int × Int × Int)
 | 0, _, _, _, _ => none
 | k + 1, x0, x1, x9, x30 => if x30 = true then (some (0, 0, 1)) else (if x1 = 0 then (some (0, 0, 0)) else (thrumref10_LevelP.l0 k x0 x1 0 0 x9 0))
def thrumref10_LevelP.l0 : Nat → Int → Int → Int → Int → Int → Int → Option (Int × Int × Int)
 | 0, _, _, _, _, _, _ => none
 | k + 1, x0, x1, x11, x12, x33, x34 => if x34 < x33 then ((thrumref09_Size.f x0).bind fun t217 => (if (IntKind.u64.wrap (x12 + t217)) ≥ (IntKind.u64.wrap (x1)) then (thrumref10_LevelP.l0 k x0 x1 (IntKind.u64.wrap (x11 + 1)) (IntKind.u64.wrap ((IntKind.u64.wrap (x12 + t217)) - (IntKind.u64.wrap (x1)))) x33 (IntKind.u64.wrap (x34 + 1))) else (thrumref10_LevelP.l0 k x0 x1 x11 (IntKind.u64.wrap (x12 + t217)) x33 (IntKind.u64.wrap (x34 + 1))))) else (some (x11, x12, 0))
end
def thrumref10_LevelP.f (k : Nat) (a0 : Int) (a1 : Int) (a2 : Int) : Option (Int × Int × Int) := (thrumref10_Steps.f a2).bind fun bt214 => (if bt214.2 = 0 then (if a1 < 0 then (thrumref10_LevelP.j0 k a0 a1 bt214.1 true) else ((thrumref09_Size.f a0).bind fun t216 => (thrumref10_LevelP.j0 k a0 a1 bt214.1 (decide (t216 > (IntKind.u64.wrap (a1))))))) else (thrumref10_LevelP.j0 k a0 a1 bt214.1 true))
theorem thrumref10_LevelP.mono_l : ∀ k, (∀ y0 y1 y2 y3, LeO (thrumref10_LevelP.j0 k y0 y1 y2 y3) (thrumref10_LevelP.j0 (k + 1) y0 y1 y2 y3)) ∧ (∀ y0 y1 y2 y3 y4 y5, LeO (thrumref10_LevelP.l0 k y0 y1 y2 y3 y4 y5) (thrumref10_LevelP.l0 (k + 1) y0 y1 y2 y3 y4 y5))
 | 0 => ⟨fun _ _ _ _ r h => by simp [thrumref10_LevelP.j0] at h, fun _ _ _ _ _ _ r h => by simp [thrumref10_LevelP.l0] at h⟩
 | k + 1 => by
  obtain ⟨ih0, ih1⟩ := thrumref10_LevelP.mono_l k
  refine ⟨?_, ?_⟩
  ·
   intro y0 y1 y2 y3
   unfold thrumref10_LevelP.j0
   repeat' first
   | (with_reducible exact ih0 _ _ _ _)
   | (with_reducible exact ih1 _ _ _ _ _ _)
   | (with_reducible exact LeO.refl _)
   | (with_reducible exact LeO.none _)
   | (with_reducible refine LeO.ite ?_ ?_)
   | (with_reducible refine LeO.bind ?_ (fun _ => ?_))
  ·
   intro y0 y1 y2 y3 y4 y5
   unfold thrumref10_LevelP.l0
   repeat' first
   | (with_reducible exact ih0 _ _ _ _)
   | (with_reducible exact ih1 _ _ _ _ _ _)
   | (with_reducible exact LeO.refl _)
   | (with_reducible exact LeO.none _)
   | (with_reducible refine LeO.ite ?_ ?_)
   | (with_reducible refine LeO.bind ?_ (fun _ => ?_))
theorem thrumref10_LevelP.mono : ∀ a0 a1 a2 k, LeO (thrumref10_LevelP.f k a0 a1 a2) (thrumref10_LevelP.f (k + 1) a0 a1 a2) := by
 intro a0 a1 a2 k
 obtain ⟨ih0, ih1⟩ := thrumref10_LevelP.mono_l k
 unfold thrumref10_LevelP.f
 repeat' first
   | (with_reducible exact ih0 _ _ _ _)
   | (with_reducible exact ih1 _ _ _ _ _ _)
   | (with_reducible exact LeO.refl _)
   | (with_reducible exact LeO.none _)
   | (with_reducible refine LeO.ite ?_ ?_)
   | (with_reducible refine LeO.bind ?_ (fun _ => ?_))
set_option maxHeartbeats 8000000 in
set_option maxRecDepth 100000 in
theorem thrumref10_LevelP.calls (k : Nat) (a0 : Int) (a1 : Int) (a2 : Int) (r1 : Int) (r2 : Int) (r3 : Int) (w : World) (h : thrumref10_LevelP.f k a0 a1 a2 = some (r1, r2, r3)) :
  Calls Try.prog 48 #[.int .i64 a0, .int .i64 a1, .int .i64 a2] w fun e w' => e = .returned (.tuple #[.int .u64 r1, .int .u64 r2, .int .i64 r3]) ∧ Drawn0 w w' := by
 have H : ((thrumref10_Steps.f a2).bind fun bt214 => (if bt214.2 = 0 then (if a1 < 0 then (thrumref10_LevelP.j0 k a0 a1 bt214.1 true) else ((thrumref09_Size.f a0).bind fun t216 => (thrumref10_LevelP.j0 k a0 a1 bt214.1 (decide (t216 > (IntKind.u64.wrap (a1))))))) else (thrumref10_LevelP.j0 k a0 a1 bt214.1 true))) = some (r1, r2, r3) := h
 clear h
 replace H := Option.bind_eq_some_iff.mp H
 obtain ⟨⟨t214, t215⟩, A40, H⟩ := H
 replace H : (if t215 = 0 then (if a1 < 0 then (thrumref10_LevelP.j0 k a0 a1 t214 true) else ((thrumref09_Size.f a0).bind fun t216 => (thrumref10_LevelP.j0 k a0 a1 t214 (decide (t216 > (IntKind.u64.wrap (a1))))))) else (thrumref10_LevelP.j0 k a0 a1 t214 true)) = some (r1, r2, r3) := H
 have A4 := ZM A40
 clear A40
 have HC5 := ZM H
 clear H
 go_enter Try.func48, Try.ntmps48
 go_upto_region 2 with (first | ((with_reducible refine gate_callee (f := 52) rfl ?_); refine goesL_ (some 15) rfl rfl Try.func52 (by kernel_rfl) rfl #[.int .i64 a2] rfl Z1 ?_; (with_reducible refine (thrumref10_Steps.calls a2 t214 t215 _ A4.out).mono ?_); rintro e w' ⟨rfl, ⟨nd, rfl⟩⟩; refine ⟨_, rfl, ?_⟩))
 (try simp only [Act.put, Zt])
 go_cut [30] (fun v30 wc => ∃ (kq : Nat) (x30_4 : Bool), v30 = .bool x30_4 ∧ Aside0 (thrumref10_LevelP.j0 kq a0 a1 t214 x30_4 = some (r1, r2, r3)) ∧ Aside0 (kq ≤ k) ∧ Drawn0 w wc)
 case first =>
  have H := HC5.out
  clear HC5
  by_cases c6 : t215 = 0
  case neg =>
   rw [if_neg c6] at H
   have c6b0 : (t215 == 0) = false := beq_eq_false_iff_ne.mpr c6
   have c6b1 : (t215 != 0) = true := bne_iff_ne.mpr c6
   (first | rw [c6b0] | (simp only [i64_w, i32_w]; rw [c6b0]) | skip)
   have H' := ZM H
   clear H
   go_wp2
   go_meet
   case rel => exact ⟨_, (true), Z5, H', ⟨by first | omega | exact Nat.le_refl _⟩, by repeat (first | exact ddR _ | apply ddS)⟩
  rw [if_pos c6] at H
  have c6b0 : (t215 == 0) = true := beq_iff_eq.mpr c6
  have c6b1 : (t215 != 0) = false := bne_eq_false_iff_eq.mpr c6
  clear c6
  (first | rw [c6b0] | (simp only [i64_w, i32_w]; rw [c6b0]) | skip)
  by_cases c7 : a1 < 0
  ·
   rw [if_pos c7] at H
   have c7b0 : decide (a1 < 0) = true := decide_eq_true c7
   clear c7
   have H' := ZM H
   clear H
   go_wp2
   go_meet
   case rel => exact ⟨_, (true), Z5, H', ⟨by first | omega | exact Nat.le_refl _⟩, by repeat (first | exact ddR _ | apply ddS)⟩
  rw [if_neg c7] at H
  have c7b0 : decide (a1 < 0) = false := decide_eq_false c7
  clear c7
  replace H := Option.bind_eq_some_iff.mp H
  obtain ⟨t216, A80, H⟩ := H
  replace H : (thrumref10_LevelP.j0 k a0 a1 t214 (decide (t216 > (IntKind.u64.wrap (a1))))) = some (r1, r2, r3) := H
  have A8 := ZM A80
  clear A80
  have H' := ZM H
  clear H
  go_wp2_with (first | (go_at_call 53; (with_reducible refine (thrumref09_Size.calls a0 t216 _ A8.out).mono ?_); rintro e w' ⟨rfl, ⟨nd, rfl⟩⟩))
  go_meet
  case rel => exact ⟨_, (decide (t216 > (IntKind.u64.wrap (a1)))), Z5, H', ⟨by first | omega | exact Nat.le_refl _⟩, by repeat (first | exact ddR _ | apply ddS)⟩
 clear HC5
 obtain ⟨kq, x30_4, rfl, HA, HJ4, ⟨mc4, rfl⟩⟩ := hcut
 cases kq with
 | zero => exact absurd HA.out (by simp [thrumref10_LevelP.j0])
 | succ kj4 =>
  have H := HA.out
  clear HA
  simp only [thrumref10_LevelP.j0] at H
  by_cases c9 : x30_4 = true
  ·
   subst c9
   have H1 : (some (0, 0, 1)) = some (r1, r2, r3) := by rw [if_pos rfl] at H; exact H
   clear H
   have H := H1
   clear H1
   simp only [Option.some.injEq, Prod.mk.injEq] at H
   obtain ⟨rfl, rfl, rfl⟩ := H
   go_wp2
   go_ret3
   exact ⟨by first | rfl | (simp; done) | (simp [*]; done), by repeat (first | exact ddR _ | apply ddS)⟩
  replace c9 := Bool.eq_false_iff.mpr c9
  subst c9
  have H1 : (if a1 = 0 then (some (0, 0, 0)) else (thrumref10_LevelP.l0 kj4 a0 a1 0 0 t214 0)) = some (r1, r2, r3) := by rw [if_neg (show ¬ (false = true) by decide)] at H; exact H
  clear H
  have H := H1
  clear H1
  by_cases c10 : a1 = 0
  ·
   rw [if_pos c10] at H
   have c10b0 : (a1 == 0) = true := beq_iff_eq.mpr c10
   have c10b1 : (a1 != 0) = false := bne_eq_false_iff_eq.mpr c10
   clear c10
   simp only [Option.some.injEq, Prod.mk.injEq] at H
   obtain ⟨rfl, rfl, rfl⟩ := H
   go_wp2
   go_ret3
   exact ⟨by first | rfl | (simp; done) | (simp [*]; done), by repeat (first | exact ddR _ | apply ddS)⟩
  rw [if_neg c10] at H
  have c10b0 : (a1 == 0) = false := beq_eq_false_iff_ne.mpr c10
  have c10b1 : (a1 != 0) = true := bne_iff_ne.mpr c10
  have H' := ZM H
  clear H
  go_wp2
  go_loopg [11, 12, 34] kj4 (fun kq v11 v12 v34 w' => ∃ (x11_2 : Int) (x12_2 : Int) (x34_2 : Int), v11 = .int .u64 x11_2 ∧ v12 = .int .u64 x12_2 ∧ v34 = .int .u64 x34_2 ∧ Aside0 (thrumref10_LevelP.l0 kq a0 a1 x11_2 x12_2 t214 x34_2 = some (r1, r2, r3)) ∧ Aside0 (kq ≤ kj4) ∧ Drawn0 w w')
  case atStart => exact ⟨(0), (0), (0), Z5, Z5, Z5, H', ⟨Nat.le_refl _⟩, by repeat (first | exact ddR _ | apply ddS)⟩
  case round =>
   clear H'
   try clear c9
   try clear c10
   try clear c10b0
   try clear c10b1
   obtain ⟨x11_2, x12_2, x34_2, rfl, rfl, rfl, HA, HK2, ⟨m2, rfl⟩⟩ := hrel
   cases gk with
   | zero => exact absurd HA.out (by simp [thrumref10_LevelP.l0])
   | succ k2 =>
    have H := HA.out
    clear HA
    simp only [thrumref10_LevelP.l0] at H
    by_cases c11 : x34_2 < t214
    case neg =>
     rw [if_neg c11] at H
     have c11b0 : decide (x34_2 < t214) = false := decide_eq_false c11
     clear c11
     simp only [Option.some.injEq, Prod.mk.injEq] at H
     obtain ⟨rfl, rfl, rfl⟩ := H
     go_wp2
     go_ret3
     exact ⟨by first | rfl | (simp; done) | (simp [*]; done), by repeat (first | exact ddR _ | apply ddS)⟩
    rw [if_pos c11] at H
    have c11b0 : decide (x34_2 < t214) = true := decide_eq_true c11
    clear c11
    replace H := Option.bind_eq_some_iff.mp H
    obtain ⟨t217, A120, H⟩ := H
    replace H : (if (IntKind.u64.wrap (x12_2 + t217)) ≥ (IntKind.u64.wrap (a1)) then (thrumref10_LevelP.l0 k2 a0 a1 (IntKind.u64.wrap (x11_2 + 1)) (IntKind.u64.wrap ((IntKind.u64.wrap (x12_2 + t217)) - (IntKind.u64.wrap (a1)))) t214 (IntKind.u64.wrap (x34_2 + 1))) else (thrumref10_LevelP.l0 k2 a0 a1 x11_2 (IntKind.u64.wrap (x12_2 + t217)) t214 (IntKind.u64.wrap (x34_2 + 1)))) = some (r1, r2, r3) := H
    have A12 := ZM A120
    clear A120
    by_cases c13 : (IntKind.u64.wrap (x12_2 + t217)) ≥ (IntKind.u64.wrap (a1))
    case neg =>
     rw [if_neg c13] at H
     have c13b0 : decide ((IntKind.u64.wrap (a1)) ≤ (IntKind.u64.wrap (x12_2 + t217))) = false := decide_eq_false c13
     clear c13
     have H' := ZM H
     clear H
     go_wp2_with (first | ((with_reducible refine gate_callee (f := 53) rfl ?_); refine goesL_ (some 38) rfl rfl Try.func53 (by kernel_rfl) rfl #[.int .i64 a0] rfl Z1 ?_; (with_reducible refine (thrumref09_Size.calls a0 t217 _ A12.out).mono ?_); rintro e w' ⟨rfl, ⟨nd, rfl⟩⟩; refine ⟨_, rfl, ?_⟩))
     go_roundg k2
     case measure => have := HJ4.out; have := HK2.out; omega
     case rel => exact ⟨(x11_2), (IntKind.u64.wrap (x12_2 + t217)), (IntKind.u64.wrap (x34_2 + 1)), Z5, Z5, Z5, H', ⟨by have := HJ4.out; have := HK2.out; omega⟩, by repeat (first | exact ddR _ | apply ddS)⟩
    rw [if_pos c13] at H
    have c13b0 : decide ((IntKind.u64.wrap (a1)) ≤ (IntKind.u64.wrap (x12_2 + t217))) = true := decide_eq_true c13
    clear c13
    have H' := ZM H
    clear H
    go_wp2_with (first | ((with_reducible refine gate_callee (f := 53) rfl ?_); refine goesL_ (some 38) rfl rfl Try.func53 (by kernel_rfl) rfl #[.int .i64 a0] rfl Z1 ?_; (with_reducible refine (thrumref09_Size.calls a0 t217 _ A12.out).mono ?_); rintro e w' ⟨rfl, ⟨nd, rfl⟩⟩; refine ⟨_, rfl, ?_⟩))
    go_roundg k2
    case measure => have := HJ4.out; have := HK2.out; omega
    case rel => exact ⟨(IntKind.u64.wrap (x11_2 + 1)), (IntKind.u64.wrap ((IntKind.u64.wrap (x12_2 + t217)) - (IntKind.u64.wrap (a1)))), (IntKind.u64.wrap (x34_2 + 1)), Z5, Z5, Z5, H', ⟨by have := HJ4.out; have := HK2.out; omega⟩, by repeat (first | exact ddR _ | apply ddS)⟩
theorem thrumref10_LevelP.loop (x s : Int) (hx : I64 x) (hs : I64 s) (hxs : absN x ≤ s) (hs0 : 0 < s) (t : Int) (ht : t ≤ 255) : ∀ (d : Nat) (j : Int), 0 ≤ j → j + d = t →
    thrumref10_LevelP.l0 (d + 1) x s (j * absN x / s) (j * absN x % s) t j = some (t * absN x / s, t * absN x % s, 0) := by
  have ha : 0 ≤ absN x := by unfold absN; omega
  unfold I64 at hs
  intro d
  induction d with
  | zero =>
    intro j h0 h1
    have e : j = t := by omega
    subst e
    rw [thrumref10_LevelP.l0, if_neg (by omega)]
  | succ d ih =>
    intro j h0 h1
    obtain ⟨e1, e2⟩ := level_step (k := j) ha hxs hs0
    have hb := level_bd (a := absN x) (s := s) (t := j) ha hxs hs0 h0
    have hr1 := Int.emod_nonneg (j * absN x) (show s ≠ 0 by omega)
    have hr2 := Int.emod_lt_of_pos (j * absN x) hs0
    have hc : absN x * j = j * absN x := Int.mul_comm _ _
    rw [hc] at hb
    rw [thrumref10_LevelP.l0, if_pos (by omega)]
    unfold thrumref09_Size.f
    rw [if_pos hx]
    simp only [Option.bind_some, wu]
    have ih' := ih (j + 1) (by omega) (by omega)
    rw [e1, e2] at ih'
    rw [show s % 18446744073709551616 = s by omega, show (j * absN x % s + absN x) % 18446744073709551616 = j * absN x % s + absN x by omega, show (j + 1) % 18446744073709551616 = j + 1 by omega]
    by_cases c : s ≤ j * absN x % s + absN x
    · rw [if_pos c, if_pos c] at ih'
      rw [if_pos c, show (j * absN x / s + 1) % 18446744073709551616 = j * absN x / s + 1 by omega, show (j * absN x % s + absN x - s) % 18446744073709551616 = j * absN x % s + absN x - s by omega]
      exact ih'
    · rw [if_neg c, if_neg c] at ih'
      rw [if_neg c]
      exact ih'
def thrumref10_Level.f (a0 a1 a2 : Int) : Option (Int × Int × Int) := if I64 a0 ∧ I64 a1 then some (levelF a0 a1 a2) else none
theorem thrumref10_Level.of (a0 a1 a2 : Int)  (h_ : I64 a0 ∧ I64 a1) : thrumref10_Level.f a0 a1 a2 = some (levelF a0 a1 a2) := if_pos h_
theorem thrumref10_Level.is (a0 a1 a2 : Int) (h0 : I64 a0) (h1 : I64 a1) : thrumref10_LevelP.f 257 a0 a1 a2 = some (levelF a0 a1 a2) := by
  unfold thrumref10_LevelP.f levelF thrumref10_Steps.f stepsF
  simp only [Option.bind_some]
  by_cases cb : badW a2
  · rw [if_pos cb, if_neg (by decide), thrumref10_LevelP.j0, if_pos rfl, if_pos (.inl cb)]
  · obtain ⟨t0, t1⟩ := topF_pos cb
    rw [if_neg cb, if_pos rfl]
    by_cases c1 : a1 < 0
    · rw [if_pos c1, thrumref10_LevelP.j0, if_pos rfl, if_pos (.inr (.inl c1))]
    · rw [if_neg c1]
      unfold thrumref09_Size.f
      rw [if_pos h0]
      simp only [Option.bind_some]
      have h1' := h1
      unfold I64 at h1'
      have hw : IntKind.u64.wrap a1 = a1 := by rw [wu]; omega
      rw [hw, thrumref10_LevelP.j0]
      by_cases c2 : absN a0 > a1
      · rw [if_pos (decide_eq_true c2), if_pos (.inr (.inr c2))]
      · rw [if_neg (by simpa using c2), if_neg (show ¬ (badW a2 ∨ a1 < 0 ∨ absN a0 > a1) from fun h => h.elim cb (fun h => h.elim c1 c2))]
        by_cases c3 : a1 = 0
        · rw [if_pos c3, if_pos c3]
        · rw [if_neg c3, if_neg c3]
          have hl := thrumref10_LevelP.loop a0 a1 h0 h1 (by omega) (by omega) (topF a2) t1 (topF a2).toNat 0 (by omega) (by omega)
          rw [Int.zero_mul, Int.zero_ediv, Int.zero_emod] at hl
          have hu : ∀ d, thrumref10_LevelP.l0 ((topF a2).toNat + 1 + d) a0 a1 0 0 (topF a2) 0 = some (topF a2 * absN a0 / a1, topF a2 * absN a0 % a1, 0) := by
            intro d
            induction d with
            | zero => exact hl
            | succ d ih => exact thrumref10_LevelP.mono_l _ |>.2 _ _ _ _ _ _ _ ih
          have := hu (256 - ((topF a2).toNat + 1))
          rw [show (topF a2).toNat + 1 + (256 - ((topF a2).toNat + 1)) = 256 by omega] at this
          rw [this, Int.mul_comm (topF a2)]
theorem thrumref10_Level.calls (a0 : Int) (a1 : Int) (a2 : Int) (r1 : Int) (r2 : Int) (r3 : Int) (w : World) (h : thrumref10_Level.f a0 a1 a2 = some (r1, r2, r3)) :
    Calls Try.prog 48 #[.int .i64 a0, .int .i64 a1, .int .i64 a2] w fun e w' => e = .returned (.tuple #[.int .u64 r1, .int .u64 r2, .int .i64 r3]) ∧ Drawn0 w w' := by
  unfold thrumref10_Level.f at h
  split at h
  case isFalse => cases h
  rename_i hv
  exact thrumref10_LevelP.calls 257 a0 a1 a2 r1 r2 r3 w ((thrumref10_Level.is a0 a1 a2 hv.1 hv.2).trans h)


/-! ### thrumref01_SubP: function 130 -/
def thrumref01_SubP.f (a0 : Int) (a1 : Int) : Option (Int × Int) := if a1 < 0 then (if a0 > (wrap64 (9223372036854775807 + a1)) then (some (0, 2)) else (if a1 > 0 then (if a0 < (wrap64 ((-9223372036854775808) + a1)) then (some (0, 2)) else (some (wrap64 (a0 - a1), 0))) else (some (wrap64 (a0 - a1), 0)))) else (if a1 > 0 then (if a0 < (wrap64 ((-9223372036854775808) + a1)) then (some (0, 2)) else (some (wrap64 (a0 - a1), 0))) else (some (wrap64 (a0 - a1), 0)))
set_option maxHeartbeats 8000000 in
set_option maxRecDepth 100000 in
theorem thrumref01_SubP.calls (a0 : Int) (a1 : Int) (r1 : Int) (r2 : Int) (w : World) (h : thrumref01_SubP.f a0 a1 = some (r1, r2)) :
  Calls Try.prog 130 #[.int .i64 a0, .int .i64 a1] w fun e w' => e = .returned (.tuple #[.int .i64 r1, .int .i64 r2]) ∧ Drawn0 w w' := by
 have H : (if a1 < 0 then (if a0 > (wrap64 (9223372036854775807 + a1)) then (some (0, 2)) else (if a1 > 0 then (if a0 < (wrap64 ((-9223372036854775808) + a1)) then (some (0, 2)) else (some (wrap64 (a0 - a1), 0))) else (some (wrap64 (a0 - a1), 0)))) else (if a1 > 0 then (if a0 < (wrap64 ((-9223372036854775808) + a1)) then (some (0, 2)) else (some (wrap64 (a0 - a1), 0))) else (some (wrap64 (a0 - a1), 0)))) = some (r1, r2) := h
 clear h
 by_cases c3 : a1 < 0
 case neg =>
  rw [if_neg c3] at H
  have c3b0 : decide (a1 < 0) = false := decide_eq_false c3
  clear c3
  by_cases c7 : a1 > 0
  case neg =>
   rw [if_neg c7] at H
   have c7b0 : decide (0 < a1) = false := decide_eq_false c7
   clear c7
   simp only [Option.some.injEq, Prod.mk.injEq] at H
   obtain ⟨rfl, rfl⟩ := H
   go_enter Try.func130, Try.ntmps130
   go_wp2
   go_ret2
   exact ⟨by first | rfl | (simp; done) | (simp [*]; done), by repeat (first | exact ddR _ | apply ddS)⟩
  rw [if_pos c7] at H
  have c7b0 : decide (0 < a1) = true := decide_eq_true c7
  clear c7
  by_cases c8 : a0 < (wrap64 ((-9223372036854775808) + a1))
  case neg =>
   rw [if_neg c8] at H
   have c8b0 : decide (a0 < (wrap64 ((-9223372036854775808) + a1))) = false := decide_eq_false c8
   clear c8
   simp only [Option.some.injEq, Prod.mk.injEq] at H
   obtain ⟨rfl, rfl⟩ := H
   go_enter Try.func130, Try.ntmps130
   go_wp2
   go_ret2
   exact ⟨by first | rfl | (simp; done) | (simp [*]; done), by repeat (first | exact ddR _ | apply ddS)⟩
  rw [if_pos c8] at H
  have c8b0 : decide (a0 < (wrap64 ((-9223372036854775808) + a1))) = true := decide_eq_true c8
  clear c8
  simp only [Option.some.injEq, Prod.mk.injEq] at H
  obtain ⟨rfl, rfl⟩ := H
  go_enter Try.func130, Try.ntmps130
  go_wp2
  go_ret2
  exact ⟨by first | rfl | (simp; done) | (simp [*]; done), by repeat (first | exact ddR _ | apply ddS)⟩
 rw [if_pos c3] at H
 have c3b0 : decide (a1 < 0) = true := decide_eq_true c3
 clear c3
 by_cases c4 : a0 > (wrap64 (9223372036854775807 + a1))
 ·
  rw [if_pos c4] at H
  have c4b0 : decide ((wrap64 (9223372036854775807 + a1)) < a0) = true := decide_eq_true c4
  clear c4
  simp only [Option.some.injEq, Prod.mk.injEq] at H
  obtain ⟨rfl, rfl⟩ := H
  go_enter Try.func130, Try.ntmps130
  go_wp2
  go_ret2
  exact ⟨by first | rfl | (simp; done) | (simp [*]; done), by repeat (first | exact ddR _ | apply ddS)⟩
 rw [if_neg c4] at H
 have c4b0 : decide ((wrap64 (9223372036854775807 + a1)) < a0) = false := decide_eq_false c4
 clear c4
 by_cases c5 : a1 > 0
 case neg =>
  rw [if_neg c5] at H
  have c5b0 : decide (0 < a1) = false := decide_eq_false c5
  clear c5
  simp only [Option.some.injEq, Prod.mk.injEq] at H
  obtain ⟨rfl, rfl⟩ := H
  go_enter Try.func130, Try.ntmps130
  go_wp2
  go_ret2
  exact ⟨by first | rfl | (simp; done) | (simp [*]; done), by repeat (first | exact ddR _ | apply ddS)⟩
 rw [if_pos c5] at H
 have c5b0 : decide (0 < a1) = true := decide_eq_true c5
 clear c5
 by_cases c6 : a0 < (wrap64 ((-9223372036854775808) + a1))
 case neg =>
  rw [if_neg c6] at H
  have c6b0 : decide (a0 < (wrap64 ((-9223372036854775808) + a1))) = false := decide_eq_false c6
  clear c6
  simp only [Option.some.injEq, Prod.mk.injEq] at H
  obtain ⟨rfl, rfl⟩ := H
  go_enter Try.func130, Try.ntmps130
  go_wp2
  go_ret2
  exact ⟨by first | rfl | (simp; done) | (simp [*]; done), by repeat (first | exact ddR _ | apply ddS)⟩
 rw [if_pos c6] at H
 have c6b0 : decide (a0 < (wrap64 ((-9223372036854775808) + a1))) = true := decide_eq_true c6
 clear c6
 simp only [Option.some.injEq, Prod.mk.injEq] at H
 obtain ⟨rfl, rfl⟩ := H
 go_enter Try.func130, Try.ntmps130
 go_wp2
 go_ret2
 exact ⟨by first | rfl | (simp; done) | (simp [*]; done), by repeat (first | exact ddR _ | apply ddS)⟩
def thrumref01_Sub.f (a0 a1 : Int) : Option (Int × Int) := if I64 a0 ∧ I64 a1 then some (res (a0 - a1)) else none
theorem thrumref01_Sub.of (a0 a1 : Int)  (h_ : I64 a0 ∧ I64 a1) : thrumref01_Sub.f a0 a1 = some (res (a0 - a1)) := if_pos h_
theorem thrumref01_Sub.calls (a0 : Int) (a1 : Int) (r1 : Int) (r2 : Int) (w : World) (h : thrumref01_Sub.f a0 a1 = some (r1, r2)) :
    Calls Try.prog 130 #[.int .i64 a0, .int .i64 a1] w fun e w' => e = .returned (.tuple #[.int .i64 r1, .int .i64 r2]) ∧ Drawn0 w w' := by
  unfold thrumref01_Sub.f at h
  split at h
  · rename_i hu
    refine thrumref01_SubP.calls a0 a1 r1 r2 w (Eq.trans ?_ h)
    unfold thrumref01_SubP.f
    obtain ⟨h0, h1⟩ := hu
    unfold I64 at h0 h1
    rcases Int.lt_trichotomy a1 0 with c | c | c
    · rw [if_pos c, wrap64_of (show I64 (9223372036854775807 + a1) by unfold I64; omega)]
      by_cases d : a0 > 9223372036854775807 + a1
      · rw [if_pos d, res_not (by unfold I64; omega)]
      · rw [if_neg d, if_neg (by omega), res_of (by unfold I64; omega), wrap64_of (by unfold I64; omega)]
    · rw [if_neg (by omega), if_neg (by omega), res_of (by unfold I64; omega), wrap64_of (by unfold I64; omega)]
    · rw [if_neg (by omega), if_pos (by omega), wrap64_of (show I64 (-9223372036854775808 + a1) by unfold I64; omega)]
      by_cases d : a0 < -9223372036854775808 + a1
      · rw [if_pos d, res_not (by unfold I64; omega)]
      · rw [if_neg d, res_of (by unfold I64; omega), wrap64_of (by unfold I64; omega)]
  · cases h


/-! ### thrumref01_NegP: function 123 -/
def thrumref01_NegP.f (a0 : Int) : Option (Int × Int) := (thrumref01_Sub.f 0 a0).bind fun bt218 => (some (bt218.1, bt218.2))
set_option maxHeartbeats 8000000 in
set_option maxRecDepth 100000 in
theorem thrumref01_NegP.calls (a0 : Int) (r1 : Int) (r2 : Int) (w : World) (h : thrumref01_NegP.f a0 = some (r1, r2)) :
  Calls Try.prog 123 #[.int .i64 a0] w fun e w' => e = .returned (.tuple #[.int .i64 r1, .int .i64 r2]) ∧ Drawn0 w w' := by
 have H : ((thrumref01_Sub.f 0 a0).bind fun bt218 => (some (bt218.1, bt218.2))) = some (r1, r2) := h
 clear h
 replace H := Option.bind_eq_some_iff.mp H
 obtain ⟨⟨t218, t219⟩, A20, H⟩ := H
 replace H : (some (t218, t219)) = some (r1, r2) := H
 have A2 := ZM A20
 clear A20
 simp only [Option.some.injEq, Prod.mk.injEq] at H
 obtain ⟨rfl, rfl⟩ := H
 go_enter Try.func123, Try.ntmps123
 go_wp2_with (first | ((with_reducible refine gate_callee (f := 130) rfl ?_); refine goesL_ (some 5) rfl rfl Try.func130 (by kernel_rfl) rfl #[.int .i64 0, .int .i64 a0] rfl Z1 ?_; (with_reducible refine (thrumref01_Sub.calls 0 a0 t218 t219 _ A2.out).mono ?_); rintro e w' ⟨rfl, ⟨nd, rfl⟩⟩; refine ⟨_, rfl, ?_⟩))
 go_ret2
 exact ⟨by first | rfl | (simp; done) | (simp [*]; done), by repeat (first | exact ddR _ | apply ddS)⟩
def thrumref01_Neg.f (a0 : Int) : Option (Int × Int) := if I64 a0 then some (res (-a0)) else none
theorem thrumref01_Neg.of (a0 : Int)  (h_ : I64 a0) : thrumref01_Neg.f a0 = some (res (-a0)) := if_pos h_
theorem thrumref01_Neg.calls (a0 : Int) (r1 : Int) (r2 : Int) (w : World) (h : thrumref01_Neg.f a0 = some (r1, r2)) :
    Calls Try.prog 123 #[.int .i64 a0] w fun e w' => e = .returned (.tuple #[.int .i64 r1, .int .i64 r2]) ∧ Drawn0 w w' := by
  unfold thrumref01_Neg.f at h
  split at h
  · rename_i hu
    refine thrumref01_NegP.calls a0 r1 r2 w (Eq.trans ?_ h)
    unfold thrumref01_NegP.f thrumref01_Sub.f
    rw [if_pos ⟨i64_zero, hu⟩]; simp
  · cases h


/-! ### thrumref01_AbsP: function 112 -/
def thrumref01_AbsP.f (a0 : Int) : Option (Int × Int) := if a0 < 0 then ((thrumref01_Neg.f a0).bind fun bt220 => (some (bt220.1, bt220.2))) else (some (a0, 0))
set_option maxHeartbeats 8000000 in
set_option maxRecDepth 100000 in
theorem thrumref01_AbsP.calls (a0 : Int) (r1 : Int) (r2 : Int) (w : World) (h : thrumref01_AbsP.f a0 = some (r1, r2)) :
  Calls Try.prog 112 #[.int .i64 a0] w fun e w' => e = .returned (.tuple #[.int .i64 r1, .int .i64 r2]) ∧ Drawn0 w w' := by
 have H : (if a0 < 0 then ((thrumref01_Neg.f a0).bind fun bt220 => (some (bt220.1, bt220.2))) else (some (a0, 0))) = some (r1, r2) := h
 clear h
 by_cases c2 : a0 < 0
 case neg =>
  rw [if_neg c2] at H
  have c2b0 : decide (a0 < 0) = false := decide_eq_false c2
  clear c2
  simp only [Option.some.injEq, Prod.mk.injEq] at H
  obtain ⟨rfl, rfl⟩ := H
  go_enter Try.func112, Try.ntmps112
  go_wp2
  go_ret2
  exact ⟨by first | rfl | (simp; done) | (simp [*]; done), by repeat (first | exact ddR _ | apply ddS)⟩
 rw [if_pos c2] at H
 have c2b0 : decide (a0 < 0) = true := decide_eq_true c2
 clear c2
 replace H := Option.bind_eq_some_iff.mp H
 obtain ⟨⟨t220, t221⟩, A30, H⟩ := H
 replace H : (some (t220, t221)) = some (r1, r2) := H
 have A3 := ZM A30
 clear A30
 simp only [Option.some.injEq, Prod.mk.injEq] at H
 obtain ⟨rfl, rfl⟩ := H
 go_enter Try.func112, Try.ntmps112
 go_wp2_with (first | ((with_reducible refine gate_callee (f := 123) rfl ?_); refine goesL_ (some 7) rfl rfl Try.func123 (by kernel_rfl) rfl #[.int .i64 a0] rfl Z1 ?_; (with_reducible refine (thrumref01_Neg.calls a0 t220 t221 _ A3.out).mono ?_); rintro e w' ⟨rfl, ⟨nd, rfl⟩⟩; refine ⟨_, rfl, ?_⟩))
 go_ret2
 exact ⟨by first | rfl | (simp; done) | (simp [*]; done), by repeat (first | exact ddR _ | apply ddS)⟩
def thrumref01_Abs.f (a0 : Int) : Option (Int × Int) := if I64 a0 then some (res (a0.natAbs : Int)) else none
theorem thrumref01_Abs.of (a0 : Int)  (h_ : I64 a0) : thrumref01_Abs.f a0 = some (res (a0.natAbs : Int)) := if_pos h_
theorem thrumref01_Abs.calls (a0 : Int) (r1 : Int) (r2 : Int) (w : World) (h : thrumref01_Abs.f a0 = some (r1, r2)) :
    Calls Try.prog 112 #[.int .i64 a0] w fun e w' => e = .returned (.tuple #[.int .i64 r1, .int .i64 r2]) ∧ Drawn0 w w' := by
  unfold thrumref01_Abs.f at h
  split at h
  · rename_i hu
    refine thrumref01_AbsP.calls a0 r1 r2 w (Eq.trans ?_ h)
    unfold thrumref01_AbsP.f thrumref01_Neg.f
    by_cases c : a0 < 0
    · rw [if_pos c, if_pos hu, show (a0.natAbs : Int) = -a0 by omega]; simp
    · rw [if_neg c, show (a0.natAbs : Int) = a0 by omega, res_of hu]
  · cases h


end Go.Proofs.Ytkfhdpnfcaghbaa.HQ
