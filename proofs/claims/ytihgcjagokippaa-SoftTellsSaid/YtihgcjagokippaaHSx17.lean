/- What Go functions do, each as a plain Lean function with the same answers, and the proof of it, in every world: printed by the session's driver over the kit's print, with texts by hand. -/
import Derived.Test.YtihgcjagokippaaHSx0
import Derived.Test.YtihgcjagokippaaHSx1
import Derived.Test.YtihgcjagokippaaHSx5
import Derived.Test.YtihgcjagokippaaHSx6
import Derived.Test.YtihgcjagokippaaHSx8
import Derived.Test.YtihgcjagokippaaHSx13
import Derived.Test.YtihgcjagokippaaHSx14
import Derived.Test.YtihgcjagokippaaHSx15
import Derived.Test.YtihgcjagokippaaHSx16
import Derived.Test.YtihgcjagokippaaMini
namespace Go.Proofs.Ytihgcjagokippaa.HS
open Go.RowKit Go.Proofs.YtihgcjagokippaaW.PrintWords Go.Proofs.YtihgcjagokippaaW.PrintLast Go.Proofs.YtihgcjagokippaaW.PrintMore
attribute [local go_sem] max2_int min2_int max_two min_two max_three min_three max_four min_four   -- for this text's walks alone
open Go.Proofs.Ytihgcjagokippaa.Sp
attribute [local go_sem] Go.Proofs.Ytihgcjagokippaa.Sp.u64_not
set_option linter.unusedVariables false
set_option linter.unusedSimpArgs false

set_option maxHeartbeats 80000000 in
set_option maxRecDepth 100000 in
theorem thrumlaw15_SoftTells.calls (a0 : Int) (a1 : Int) (A2 : Option Addr) (c2 : Nat) (l2 : List Int) (P3_0_ : Nat → Prop) (A3_0 : Option Addr) (c3_0 : Nat) (l3_0 : List Int) (a3_1 : Int) (a4 : Int) (r : Bool) (w : World) (hr2 : Kd.C (Kd.int .i64) w A2 l2.length l2) (hc2 : l2.length ≤ c2) (hs3_0 : Kd.V (Kd.int .i64) 2 w w.heap.size (fun k_ => P3_0_ k_) (.slice A3_0 l3_0.length c3_0) l3_0) (h : thrumlaw15_SoftTells.f a0 a1 l2 l3_0 a3_1 a4 = some r) (hr_ : r = true) :
  Calls Try.prog 3 #[.int .i64 a0, .int .i64 a1, .slice A2 l2.length c2, .agg #[.slice A3_0 l3_0.length c3_0, .int .i64 a3_1], .int .i64 a4] w fun e w' => e = .returned (.bool r) ∧ Below w.heap.size w w' := by
 have HR_ := ZM hr_
 clear hr_
 have hu24 := Try.underlying24
 have HR2 := ZM hr2
 have HC2 := ZM hc2
 clear hr2 hc2
 have HO3_0 := ZM (show Kd.V (Kd.int .i64) 2 w w.heap.size (fun k_ => (P3_0_ k_ ∨ w.heap.size ≤ k_)) (.slice A3_0 l3_0.length c3_0) l3_0 from Kd.V_mono hs3_0 (fun k_ hk => .inl hk))
 have HB := ZM (Below.refl w.heap.size w)
 have H : ((thrumlaw15_live.f).bind fun t371 => (if t371 = true then ((thrumref14_Few.f l2 (([(⟨l3_0, a3_1⟩ : S24)] : List (S24)))).bind fun t375 => (if t375 = true then ((soft_Tell.f a1 l2 l3_0 a4).bind fun bt376 => ((thrumref15_Tell.f a1 l2 l3_0 a4).bind fun bt380 => ((soft_Class.f a1 l2 l3_0 a4).bind fun bt384 => ((thrumref15_Class.f a1 l2 l3_0 a4).bind fun bt386 => ((soft_Off.f a1 l2 l3_0 a3_1 a4).bind fun bt388 => ((thrumref15_Off.f a1 l2 l3_0 a3_1 a4).bind fun bt392 => ((soft_Rows.f a1 l2).bind fun bt396 => ((thrumref15_Rows.f a1 l2).bind fun bt400 => ((soft_Dim.f a0 a1).bind fun bt404 => ((thrumref15_Dim.f a0 a1).bind fun bt406 => ((thrumref02_Same.f bt376.1 bt380.1).bind fun t408 => (if t408 = true then (if bt376.2 = bt380.2 then (if bt384.1 = bt386.1 then (if bt384.2 = bt386.2 then ((thrumref02_Same.f bt388.1 bt392.1).bind fun t409 => (if t409 = true then (if bt388.2 = bt392.2 then ((thrumref15_SameLists.f bt396.1 bt400.1).bind fun t410 => (if t410 = true then (if bt396.2 = bt400.2 then (if bt404.1 = bt406.1 then (if bt404.2 = bt406.2 then ((soft_Check.f a0 a1 l2 (([(⟨l3_0, a3_1⟩ : S24)] : List (S24)))).bind fun t414 => ((thrumref15_Check.f a0 a1 l2 (([(⟨l3_0, a3_1⟩ : S24)] : List (S24)))).bind fun t418 => (some (t414 == t418)))) else (some false)) else (some false)) else (some false)) else (some false))) else (some false)) else (some false))) else (some false)) else (some false)) else (some false)) else (some false))))))))))))) else (some t371))) else (some false))) = some r := h
 clear h
 replace H := Option.bind_eq_some_iff.mp H
 obtain ⟨t371, A60, H⟩ := H
 replace H : (if t371 = true then ((thrumref14_Few.f l2 (([(⟨l3_0, a3_1⟩ : S24)] : List (S24)))).bind fun t375 => (if t375 = true then ((soft_Tell.f a1 l2 l3_0 a4).bind fun bt376 => ((thrumref15_Tell.f a1 l2 l3_0 a4).bind fun bt380 => ((soft_Class.f a1 l2 l3_0 a4).bind fun bt384 => ((thrumref15_Class.f a1 l2 l3_0 a4).bind fun bt386 => ((soft_Off.f a1 l2 l3_0 a3_1 a4).bind fun bt388 => ((thrumref15_Off.f a1 l2 l3_0 a3_1 a4).bind fun bt392 => ((soft_Rows.f a1 l2).bind fun bt396 => ((thrumref15_Rows.f a1 l2).bind fun bt400 => ((soft_Dim.f a0 a1).bind fun bt404 => ((thrumref15_Dim.f a0 a1).bind fun bt406 => ((thrumref02_Same.f bt376.1 bt380.1).bind fun t408 => (if t408 = true then (if bt376.2 = bt380.2 then (if bt384.1 = bt386.1 then (if bt384.2 = bt386.2 then ((thrumref02_Same.f bt388.1 bt392.1).bind fun t409 => (if t409 = true then (if bt388.2 = bt392.2 then ((thrumref15_SameLists.f bt396.1 bt400.1).bind fun t410 => (if t410 = true then (if bt396.2 = bt400.2 then (if bt404.1 = bt406.1 then (if bt404.2 = bt406.2 then ((soft_Check.f a0 a1 l2 (([(⟨l3_0, a3_1⟩ : S24)] : List (S24)))).bind fun t414 => ((thrumref15_Check.f a0 a1 l2 (([(⟨l3_0, a3_1⟩ : S24)] : List (S24)))).bind fun t418 => (some (t414 == t418)))) else (some false)) else (some false)) else (some false)) else (some false))) else (some false)) else (some false))) else (some false)) else (some false)) else (some false)) else (some false))))))))))))) else (some t371))) else (some false)) = some r := H
 have A6 := ZM A60
 clear A60
 by_cases c7 : t371 = true
 case neg =>
  replace c7 := Bool.eq_false_iff.mpr c7
  subst c7
  have H1 : (some false) = some r := by rw [if_neg (show ¬ (false = true) by decide)] at H; exact H
  exact absurd (Option.some.inj H1) Z40
 subst c7
 have H1 : ((thrumref14_Few.f l2 (([(⟨l3_0, a3_1⟩ : S24)] : List (S24)))).bind fun t375 => (if t375 = true then ((soft_Tell.f a1 l2 l3_0 a4).bind fun bt376 => ((thrumref15_Tell.f a1 l2 l3_0 a4).bind fun bt380 => ((soft_Class.f a1 l2 l3_0 a4).bind fun bt384 => ((thrumref15_Class.f a1 l2 l3_0 a4).bind fun bt386 => ((soft_Off.f a1 l2 l3_0 a3_1 a4).bind fun bt388 => ((thrumref15_Off.f a1 l2 l3_0 a3_1 a4).bind fun bt392 => ((soft_Rows.f a1 l2).bind fun bt396 => ((thrumref15_Rows.f a1 l2).bind fun bt400 => ((soft_Dim.f a0 a1).bind fun bt404 => ((thrumref15_Dim.f a0 a1).bind fun bt406 => ((thrumref02_Same.f bt376.1 bt380.1).bind fun t408 => (if t408 = true then (if bt376.2 = bt380.2 then (if bt384.1 = bt386.1 then (if bt384.2 = bt386.2 then ((thrumref02_Same.f bt388.1 bt392.1).bind fun t409 => (if t409 = true then (if bt388.2 = bt392.2 then ((thrumref15_SameLists.f bt396.1 bt400.1).bind fun t410 => (if t410 = true then (if bt396.2 = bt400.2 then (if bt404.1 = bt406.1 then (if bt404.2 = bt406.2 then ((soft_Check.f a0 a1 l2 (([(⟨l3_0, a3_1⟩ : S24)] : List (S24)))).bind fun t414 => ((thrumref15_Check.f a0 a1 l2 (([(⟨l3_0, a3_1⟩ : S24)] : List (S24)))).bind fun t418 => (some (t414 == t418)))) else (some false)) else (some false)) else (some false)) else (some false))) else (some false)) else (some false))) else (some false)) else (some false)) else (some false)) else (some false))))))))))))) else (some true))) = some r := by rw [if_pos rfl] at H; exact H
 clear H
 have H := H1
 clear H1
 obtain ⟨y372, hy372⟩ : ∃ y_ : List (S24), y_ = (([(⟨l3_0, a3_1⟩ : S24)] : List (S24))) := ⟨_, rfl⟩
 replace H : ((thrumref14_Few.f l2 y372).bind fun t375 => (if t375 = true then ((soft_Tell.f a1 l2 l3_0 a4).bind fun bt376 => ((thrumref15_Tell.f a1 l2 l3_0 a4).bind fun bt380 => ((soft_Class.f a1 l2 l3_0 a4).bind fun bt384 => ((thrumref15_Class.f a1 l2 l3_0 a4).bind fun bt386 => ((soft_Off.f a1 l2 l3_0 a3_1 a4).bind fun bt388 => ((thrumref15_Off.f a1 l2 l3_0 a3_1 a4).bind fun bt392 => ((soft_Rows.f a1 l2).bind fun bt396 => ((thrumref15_Rows.f a1 l2).bind fun bt400 => ((soft_Dim.f a0 a1).bind fun bt404 => ((thrumref15_Dim.f a0 a1).bind fun bt406 => ((thrumref02_Same.f bt376.1 bt380.1).bind fun t408 => (if t408 = true then (if bt376.2 = bt380.2 then (if bt384.1 = bt386.1 then (if bt384.2 = bt386.2 then ((thrumref02_Same.f bt388.1 bt392.1).bind fun t409 => (if t409 = true then (if bt388.2 = bt392.2 then ((thrumref15_SameLists.f bt396.1 bt400.1).bind fun t410 => (if t410 = true then (if bt396.2 = bt400.2 then (if bt404.1 = bt406.1 then (if bt404.2 = bt406.2 then ((soft_Check.f a0 a1 l2 (([(⟨l3_0, a3_1⟩ : S24)] : List (S24)))).bind fun t414 => ((thrumref15_Check.f a0 a1 l2 (([(⟨l3_0, a3_1⟩ : S24)] : List (S24)))).bind fun t418 => (some (t414 == t418)))) else (some false)) else (some false)) else (some false)) else (some false))) else (some false)) else (some false))) else (some false)) else (some false)) else (some false)) else (some false))))))))))))) else (some true))) = some r := by first | (rw [hy372]; with_reducible exact H) | (have H2_ := (Option.bind_some _ _).symm.trans H; rw [hy372]; with_reducible exact H2_) | (have H2_ := (Option.bind_some _ _).symm.trans H; with_reducible exact H2_) | with_reducible exact H | (rw [hy372]; exact H) | exact H
 have Ny372 := ZM hy372
 clear hy372
 replace H := Option.bind_eq_some_iff.mp H
 obtain ⟨t375, A80, H⟩ := H
 replace H : (if t375 = true then ((soft_Tell.f a1 l2 l3_0 a4).bind fun bt376 => ((thrumref15_Tell.f a1 l2 l3_0 a4).bind fun bt380 => ((soft_Class.f a1 l2 l3_0 a4).bind fun bt384 => ((thrumref15_Class.f a1 l2 l3_0 a4).bind fun bt386 => ((soft_Off.f a1 l2 l3_0 a3_1 a4).bind fun bt388 => ((thrumref15_Off.f a1 l2 l3_0 a3_1 a4).bind fun bt392 => ((soft_Rows.f a1 l2).bind fun bt396 => ((thrumref15_Rows.f a1 l2).bind fun bt400 => ((soft_Dim.f a0 a1).bind fun bt404 => ((thrumref15_Dim.f a0 a1).bind fun bt406 => ((thrumref02_Same.f bt376.1 bt380.1).bind fun t408 => (if t408 = true then (if bt376.2 = bt380.2 then (if bt384.1 = bt386.1 then (if bt384.2 = bt386.2 then ((thrumref02_Same.f bt388.1 bt392.1).bind fun t409 => (if t409 = true then (if bt388.2 = bt392.2 then ((thrumref15_SameLists.f bt396.1 bt400.1).bind fun t410 => (if t410 = true then (if bt396.2 = bt400.2 then (if bt404.1 = bt406.1 then (if bt404.2 = bt406.2 then ((soft_Check.f a0 a1 l2 (([(⟨l3_0, a3_1⟩ : S24)] : List (S24)))).bind fun t414 => ((thrumref15_Check.f a0 a1 l2 (([(⟨l3_0, a3_1⟩ : S24)] : List (S24)))).bind fun t418 => (some (t414 == t418)))) else (some false)) else (some false)) else (some false)) else (some false))) else (some false)) else (some false))) else (some false)) else (some false)) else (some false)) else (some false))))))))))))) else (some true)) = some r := H
 have A8 := ZM A80
 clear A80
 by_cases c9 : t375 = true
 case neg =>
  replace c9 := Bool.eq_false_iff.mpr c9
  subst c9
  have H1 : (some true) = some r := by rw [if_neg (show ¬ (false = true) by decide)] at H; exact H
  clear H
  have H := H1
  clear H1
  obtain rfl := Option.some.inj H
  go_enter Try.func3, Try.ntmps3
  go_wp2_with (first | ((with_reducible refine gate_dst (N := 8) rfl ?_); (try (refine gate_guard (by rfl) ?_; dsimp only)); refine box_event ?hg (N := 8) ?hd (cs := #[.slice A3_0 l3_0.length c3_0, .int .i64 a3_1]) (t := 24) ?hr ?_; (case hd => rfl); (case hg => rfl); (case hr => exact Z10); intro gb370 hg w332 hbox hb; replace HO3_0 := ZM (Kd.V_below (Kd.V_elderB Z7 gb370 (Nat.le_of_eq hg.symm)) hb); have BK370 := ZM (hbox); have GW370 := ZM ((by rw [hg]; exact (zzS Z1) : w.heap.size ≤ gb370)); have GE370 := ZM ((by rw [hg]; exact (zzS Z1) : w.heap.size ≤ gb370)); replace HB := ZM (zzT Z1 hb); clear hb hbox hg) | ((with_reducible refine gate_callee (f := 4) rfl ?_); refine goesL_ (some 32) rfl rfl Try.func4 (by kernel_rfl) rfl #[] rfl Z2 ?_; (with_reducible refine (thrumlaw15_live.calls  true _ A6.out).mono ?_); rintro e w333 ⟨rfl, hb⟩; refine ⟨_, rfl, ?_⟩; replace HO3_0 := ZM (Kd.V_below Z7 hb); replace BK370 := ZM (blk_below (g := gb370) (o := .cells #[.slice A3_0 l3_0.length c3_0, .int .i64 a3_1] 24 (0, 0)) (Zk BK370) hb); replace HB := ZM (zzT Z4 hb); (try clear hb); (try clear hb2); (try clear hk); (try clear hi); obtain ⟨hcz334_0, hcz334_1, hfz334_0, hfz334_1⟩ := Y2f BK370) | ((with_reducible refine gate_dst (N := 37) rfl ?_); (try (refine gate_guard (by rfl) ?_; dsimp only)); refine Kd.N_lit k24 _ 24 ?hg (N' := 37) ?hd (xs := ([(⟨l3_0, a3_1⟩ : S24)] : List (S24))) (inner := [.slice A3_0 l3_0.length c3_0, .int .i64 a3_1]) (ok := (fun k_ => (P3_0_ k_ ∨ w.heap.size ≤ k_) ∧ k_ ≠ gb370)) (okp := (fun k_ => (P3_0_ k_ ∨ w.heap.size ≤ k_) ∧ k_ ≠ gb370)) ?hr ?hp (fun _ hk => hk) ((show ∀ k_, w333.heap.size ≤ k_ → (fun k_ => (P3_0_ k_ ∨ w.heap.size ≤ k_) ∧ k_ ≠ gb370) k_ from fun k_ hk => ⟨(.inr (Nat.le_trans (zzS Z4) hk)), Kd.freshB (g := gb370) (o := .cells #[.slice A3_0 l3_0.length c3_0, .int .i64 a3_1] 24 (0, 0)) (Zk BK370) k_ hk⟩) _ (Nat.le_refl _)) (Below.refl _ _) (Nat.le_refl _) (by simp) ?_; (case hd => rfl); (case hg => rfl); (case hr => exact Z10); (case hp => exact (Reps.c2 (show Kd.FK k24 _ _ (⟨l3_0, a3_1⟩ : S24) [.slice A3_0 l3_0.length c3_0, .int .i64 a3_1] from (k24_mkF _ _ (⟨l3_0, a3_1⟩ : S24) (Kd.V_reads' (Kd.V_mono (ok' := (fun k_ => (P3_0_ k_ ∨ w.heap.size ≤ k_) ∧ k_ ≠ gb370)) (HO3_0.out) (fun k_ hk => ⟨hk.1, hk.2⟩))).2.1 (Kd.V_F (Kd.V_mono (ok' := (fun k_ => (P3_0_ k_ ∨ w.heap.size ≤ k_) ∧ k_ ≠ gb370)) (HO3_0.out) (fun k_ hk => ⟨hk.1, hk.2⟩))))) (Reps.none _ _))); intro v373 w335 ho336 hb hg_ hnew_; clear hg_ hnew_; (first | rw [← Ny372.out] at ho336 | (simp only [Int.reduceToNat] at ho336; rw [← Ny372.out] at ho336)); replace HO3_0 := ZM (Kd.V_elder' Z7 (Kd.N_base ho336) hb); have HO374 := ZM (Kd.N_lower ho336 (zzS Z4)); replace BK370 := ZM (blk_below (g := gb370) (o := .cells #[.slice A3_0 l3_0.length c3_0, .int .i64 a3_1] 24 (0, 0)) (Zk BK370) hb); replace HB := ZM (zzT Z4 hb); clear hb ho336; obtain ⟨Ao337, co337, eo337⟩ := Kd.N_slice HO374.out; subst eo337) | ((with_reducible refine gate_callee (f := 5) rfl ?_); refine goesL_ (some 38) rfl rfl Try.func5 (by kernel_rfl) rfl #[.slice A2 l2.length c2, .slice Ao337 y372.length co337] rfl Z2 ?_; (with_reducible refine (thrumref14_Few.calls _ _ l2 _ _ y372 false _ ?side1 ?side2 ?side3 ?side4 A8.out).mono ?_); (case side1 => exact Z8); (case side2 => exact HC2.out); (case side3 => exact Z48); (case side4 => exact (Kd.N_reads' HO374.out).2.1); rintro e w338 ⟨rfl, hb⟩; refine ⟨_, rfl, ?_⟩; replace HO3_0 := ZM (Kd.V_below Z7 hb); replace HO374 := ZM (Kd.N_below Z12 hb); replace BK370 := ZM (blk_below (g := gb370) (o := .cells #[.slice A3_0 l3_0.length c3_0, .int .i64 a3_1] 24 (0, 0)) (Zk BK370) hb); replace HB := ZM (zzT Z4 hb); (try clear hb); (try clear hb2); (try clear hk); (try clear hi)))
  go_ret
  exact ⟨by first | rfl | (simp [errW_none, errW_some] <;> rfl) | (simp [*, errW_none, errW_some] <;> rfl), by repeat (first | (with_reducible first | exact HB.out | apply zzA | apply zzN | apply zzD | refine below_set ?_ GE370.out) | exact HB.out)⟩
 subst c9
 have H1 : ((soft_Tell.f a1 l2 l3_0 a4).bind fun bt376 => ((thrumref15_Tell.f a1 l2 l3_0 a4).bind fun bt380 => ((soft_Class.f a1 l2 l3_0 a4).bind fun bt384 => ((thrumref15_Class.f a1 l2 l3_0 a4).bind fun bt386 => ((soft_Off.f a1 l2 l3_0 a3_1 a4).bind fun bt388 => ((thrumref15_Off.f a1 l2 l3_0 a3_1 a4).bind fun bt392 => ((soft_Rows.f a1 l2).bind fun bt396 => ((thrumref15_Rows.f a1 l2).bind fun bt400 => ((soft_Dim.f a0 a1).bind fun bt404 => ((thrumref15_Dim.f a0 a1).bind fun bt406 => ((thrumref02_Same.f bt376.1 bt380.1).bind fun t408 => (if t408 = true then (if bt376.2 = bt380.2 then (if bt384.1 = bt386.1 then (if bt384.2 = bt386.2 then ((thrumref02_Same.f bt388.1 bt392.1).bind fun t409 => (if t409 = true then (if bt388.2 = bt392.2 then ((thrumref15_SameLists.f bt396.1 bt400.1).bind fun t410 => (if t410 = true then (if bt396.2 = bt400.2 then (if bt404.1 = bt406.1 then (if bt404.2 = bt406.2 then ((soft_Check.f a0 a1 l2 (([(⟨l3_0, a3_1⟩ : S24)] : List (S24)))).bind fun t414 => ((thrumref15_Check.f a0 a1 l2 (([(⟨l3_0, a3_1⟩ : S24)] : List (S24)))).bind fun t418 => (some (t414 == t418)))) else (some false)) else (some false)) else (some false)) else (some false))) else (some false)) else (some false))) else (some false)) else (some false)) else (some false)) else (some false))))))))))))) = some r := by rw [if_pos rfl] at H; exact H
 clear H
 have H := H1
 clear H1
 replace H := Option.bind_eq_some_iff.mp H
 obtain ⟨⟨t376, t377⟩, A100, H⟩ := H
 replace H : ((thrumref15_Tell.f a1 l2 l3_0 a4).bind fun bt380 => ((soft_Class.f a1 l2 l3_0 a4).bind fun bt384 => ((thrumref15_Class.f a1 l2 l3_0 a4).bind fun bt386 => ((soft_Off.f a1 l2 l3_0 a3_1 a4).bind fun bt388 => ((thrumref15_Off.f a1 l2 l3_0 a3_1 a4).bind fun bt392 => ((soft_Rows.f a1 l2).bind fun bt396 => ((thrumref15_Rows.f a1 l2).bind fun bt400 => ((soft_Dim.f a0 a1).bind fun bt404 => ((thrumref15_Dim.f a0 a1).bind fun bt406 => ((thrumref02_Same.f t376 bt380.1).bind fun t408 => (if t408 = true then (if t377 = bt380.2 then (if bt384.1 = bt386.1 then (if bt384.2 = bt386.2 then ((thrumref02_Same.f bt388.1 bt392.1).bind fun t409 => (if t409 = true then (if bt388.2 = bt392.2 then ((thrumref15_SameLists.f bt396.1 bt400.1).bind fun t410 => (if t410 = true then (if bt396.2 = bt400.2 then (if bt404.1 = bt406.1 then (if bt404.2 = bt406.2 then ((soft_Check.f a0 a1 l2 (([(⟨l3_0, a3_1⟩ : S24)] : List (S24)))).bind fun t414 => ((thrumref15_Check.f a0 a1 l2 (([(⟨l3_0, a3_1⟩ : S24)] : List (S24)))).bind fun t418 => (some (t414 == t418)))) else (some false)) else (some false)) else (some false)) else (some false))) else (some false)) else (some false))) else (some false)) else (some false)) else (some false)) else (some false)))))))))))) = some r := H
 have A10 := ZM A100
 clear A100
 replace H := Option.bind_eq_some_iff.mp H
 obtain ⟨⟨t380, t381⟩, A110, H⟩ := H
 replace H : ((soft_Class.f a1 l2 l3_0 a4).bind fun bt384 => ((thrumref15_Class.f a1 l2 l3_0 a4).bind fun bt386 => ((soft_Off.f a1 l2 l3_0 a3_1 a4).bind fun bt388 => ((thrumref15_Off.f a1 l2 l3_0 a3_1 a4).bind fun bt392 => ((soft_Rows.f a1 l2).bind fun bt396 => ((thrumref15_Rows.f a1 l2).bind fun bt400 => ((soft_Dim.f a0 a1).bind fun bt404 => ((thrumref15_Dim.f a0 a1).bind fun bt406 => ((thrumref02_Same.f t376 t380).bind fun t408 => (if t408 = true then (if t377 = t381 then (if bt384.1 = bt386.1 then (if bt384.2 = bt386.2 then ((thrumref02_Same.f bt388.1 bt392.1).bind fun t409 => (if t409 = true then (if bt388.2 = bt392.2 then ((thrumref15_SameLists.f bt396.1 bt400.1).bind fun t410 => (if t410 = true then (if bt396.2 = bt400.2 then (if bt404.1 = bt406.1 then (if bt404.2 = bt406.2 then ((soft_Check.f a0 a1 l2 (([(⟨l3_0, a3_1⟩ : S24)] : List (S24)))).bind fun t414 => ((thrumref15_Check.f a0 a1 l2 (([(⟨l3_0, a3_1⟩ : S24)] : List (S24)))).bind fun t418 => (some (t414 == t418)))) else (some false)) else (some false)) else (some false)) else (some false))) else (some false)) else (some false))) else (some false)) else (some false)) else (some false)) else (some false))))))))))) = some r := H
 have A11 := ZM A110
 clear A110
 replace H := Option.bind_eq_some_iff.mp H
 obtain ⟨⟨t384, t385⟩, A120, H⟩ := H
 replace H : ((thrumref15_Class.f a1 l2 l3_0 a4).bind fun bt386 => ((soft_Off.f a1 l2 l3_0 a3_1 a4).bind fun bt388 => ((thrumref15_Off.f a1 l2 l3_0 a3_1 a4).bind fun bt392 => ((soft_Rows.f a1 l2).bind fun bt396 => ((thrumref15_Rows.f a1 l2).bind fun bt400 => ((soft_Dim.f a0 a1).bind fun bt404 => ((thrumref15_Dim.f a0 a1).bind fun bt406 => ((thrumref02_Same.f t376 t380).bind fun t408 => (if t408 = true then (if t377 = t381 then (if t384 = bt386.1 then (if t385 = bt386.2 then ((thrumref02_Same.f bt388.1 bt392.1).bind fun t409 => (if t409 = true then (if bt388.2 = bt392.2 then ((thrumref15_SameLists.f bt396.1 bt400.1).bind fun t410 => (if t410 = true then (if bt396.2 = bt400.2 then (if bt404.1 = bt406.1 then (if bt404.2 = bt406.2 then ((soft_Check.f a0 a1 l2 (([(⟨l3_0, a3_1⟩ : S24)] : List (S24)))).bind fun t414 => ((thrumref15_Check.f a0 a1 l2 (([(⟨l3_0, a3_1⟩ : S24)] : List (S24)))).bind fun t418 => (some (t414 == t418)))) else (some false)) else (some false)) else (some false)) else (some false))) else (some false)) else (some false))) else (some false)) else (some false)) else (some false)) else (some false)))))))))) = some r := H
 have A12 := ZM A120
 clear A120
 replace H := Option.bind_eq_some_iff.mp H
 obtain ⟨⟨t386, t387⟩, A130, H⟩ := H
 replace H : ((soft_Off.f a1 l2 l3_0 a3_1 a4).bind fun bt388 => ((thrumref15_Off.f a1 l2 l3_0 a3_1 a4).bind fun bt392 => ((soft_Rows.f a1 l2).bind fun bt396 => ((thrumref15_Rows.f a1 l2).bind fun bt400 => ((soft_Dim.f a0 a1).bind fun bt404 => ((thrumref15_Dim.f a0 a1).bind fun bt406 => ((thrumref02_Same.f t376 t380).bind fun t408 => (if t408 = true then (if t377 = t381 then (if t384 = t386 then (if t385 = t387 then ((thrumref02_Same.f bt388.1 bt392.1).bind fun t409 => (if t409 = true then (if bt388.2 = bt392.2 then ((thrumref15_SameLists.f bt396.1 bt400.1).bind fun t410 => (if t410 = true then (if bt396.2 = bt400.2 then (if bt404.1 = bt406.1 then (if bt404.2 = bt406.2 then ((soft_Check.f a0 a1 l2 (([(⟨l3_0, a3_1⟩ : S24)] : List (S24)))).bind fun t414 => ((thrumref15_Check.f a0 a1 l2 (([(⟨l3_0, a3_1⟩ : S24)] : List (S24)))).bind fun t418 => (some (t414 == t418)))) else (some false)) else (some false)) else (some false)) else (some false))) else (some false)) else (some false))) else (some false)) else (some false)) else (some false)) else (some false))))))))) = some r := H
 have A13 := ZM A130
 clear A130
 replace H := Option.bind_eq_some_iff.mp H
 obtain ⟨⟨t388, t391⟩, A140, H⟩ := H
 replace H : ((thrumref15_Off.f a1 l2 l3_0 a3_1 a4).bind fun bt392 => ((soft_Rows.f a1 l2).bind fun bt396 => ((thrumref15_Rows.f a1 l2).bind fun bt400 => ((soft_Dim.f a0 a1).bind fun bt404 => ((thrumref15_Dim.f a0 a1).bind fun bt406 => ((thrumref02_Same.f t376 t380).bind fun t408 => (if t408 = true then (if t377 = t381 then (if t384 = t386 then (if t385 = t387 then ((thrumref02_Same.f t388 bt392.1).bind fun t409 => (if t409 = true then (if t391 = bt392.2 then ((thrumref15_SameLists.f bt396.1 bt400.1).bind fun t410 => (if t410 = true then (if bt396.2 = bt400.2 then (if bt404.1 = bt406.1 then (if bt404.2 = bt406.2 then ((soft_Check.f a0 a1 l2 (([(⟨l3_0, a3_1⟩ : S24)] : List (S24)))).bind fun t414 => ((thrumref15_Check.f a0 a1 l2 (([(⟨l3_0, a3_1⟩ : S24)] : List (S24)))).bind fun t418 => (some (t414 == t418)))) else (some false)) else (some false)) else (some false)) else (some false))) else (some false)) else (some false))) else (some false)) else (some false)) else (some false)) else (some false)))))))) = some r := H
 have A14 := ZM A140
 clear A140
 replace H := Option.bind_eq_some_iff.mp H
 obtain ⟨⟨t392, t395⟩, A150, H⟩ := H
 replace H : ((soft_Rows.f a1 l2).bind fun bt396 => ((thrumref15_Rows.f a1 l2).bind fun bt400 => ((soft_Dim.f a0 a1).bind fun bt404 => ((thrumref15_Dim.f a0 a1).bind fun bt406 => ((thrumref02_Same.f t376 t380).bind fun t408 => (if t408 = true then (if t377 = t381 then (if t384 = t386 then (if t385 = t387 then ((thrumref02_Same.f t388 t392).bind fun t409 => (if t409 = true then (if t391 = t395 then ((thrumref15_SameLists.f bt396.1 bt400.1).bind fun t410 => (if t410 = true then (if bt396.2 = bt400.2 then (if bt404.1 = bt406.1 then (if bt404.2 = bt406.2 then ((soft_Check.f a0 a1 l2 (([(⟨l3_0, a3_1⟩ : S24)] : List (S24)))).bind fun t414 => ((thrumref15_Check.f a0 a1 l2 (([(⟨l3_0, a3_1⟩ : S24)] : List (S24)))).bind fun t418 => (some (t414 == t418)))) else (some false)) else (some false)) else (some false)) else (some false))) else (some false)) else (some false))) else (some false)) else (some false)) else (some false)) else (some false))))))) = some r := H
 have A15 := ZM A150
 clear A150
 replace H := Option.bind_eq_some_iff.mp H
 obtain ⟨⟨t396, t397⟩, A160, H⟩ := H
 replace H : ((thrumref15_Rows.f a1 l2).bind fun bt400 => ((soft_Dim.f a0 a1).bind fun bt404 => ((thrumref15_Dim.f a0 a1).bind fun bt406 => ((thrumref02_Same.f t376 t380).bind fun t408 => (if t408 = true then (if t377 = t381 then (if t384 = t386 then (if t385 = t387 then ((thrumref02_Same.f t388 t392).bind fun t409 => (if t409 = true then (if t391 = t395 then ((thrumref15_SameLists.f t396 bt400.1).bind fun t410 => (if t410 = true then (if t397 = bt400.2 then (if bt404.1 = bt406.1 then (if bt404.2 = bt406.2 then ((soft_Check.f a0 a1 l2 (([(⟨l3_0, a3_1⟩ : S24)] : List (S24)))).bind fun t414 => ((thrumref15_Check.f a0 a1 l2 (([(⟨l3_0, a3_1⟩ : S24)] : List (S24)))).bind fun t418 => (some (t414 == t418)))) else (some false)) else (some false)) else (some false)) else (some false))) else (some false)) else (some false))) else (some false)) else (some false)) else (some false)) else (some false)))))) = some r := H
 have A16 := ZM A160
 clear A160
 replace H := Option.bind_eq_some_iff.mp H
 obtain ⟨⟨t400, t401⟩, A170, H⟩ := H
 replace H : ((soft_Dim.f a0 a1).bind fun bt404 => ((thrumref15_Dim.f a0 a1).bind fun bt406 => ((thrumref02_Same.f t376 t380).bind fun t408 => (if t408 = true then (if t377 = t381 then (if t384 = t386 then (if t385 = t387 then ((thrumref02_Same.f t388 t392).bind fun t409 => (if t409 = true then (if t391 = t395 then ((thrumref15_SameLists.f t396 t400).bind fun t410 => (if t410 = true then (if t397 = t401 then (if bt404.1 = bt406.1 then (if bt404.2 = bt406.2 then ((soft_Check.f a0 a1 l2 (([(⟨l3_0, a3_1⟩ : S24)] : List (S24)))).bind fun t414 => ((thrumref15_Check.f a0 a1 l2 (([(⟨l3_0, a3_1⟩ : S24)] : List (S24)))).bind fun t418 => (some (t414 == t418)))) else (some false)) else (some false)) else (some false)) else (some false))) else (some false)) else (some false))) else (some false)) else (some false)) else (some false)) else (some false))))) = some r := H
 have A17 := ZM A170
 clear A170
 replace H := Option.bind_eq_some_iff.mp H
 obtain ⟨⟨t404, t405⟩, A180, H⟩ := H
 replace H : ((thrumref15_Dim.f a0 a1).bind fun bt406 => ((thrumref02_Same.f t376 t380).bind fun t408 => (if t408 = true then (if t377 = t381 then (if t384 = t386 then (if t385 = t387 then ((thrumref02_Same.f t388 t392).bind fun t409 => (if t409 = true then (if t391 = t395 then ((thrumref15_SameLists.f t396 t400).bind fun t410 => (if t410 = true then (if t397 = t401 then (if t404 = bt406.1 then (if t405 = bt406.2 then ((soft_Check.f a0 a1 l2 (([(⟨l3_0, a3_1⟩ : S24)] : List (S24)))).bind fun t414 => ((thrumref15_Check.f a0 a1 l2 (([(⟨l3_0, a3_1⟩ : S24)] : List (S24)))).bind fun t418 => (some (t414 == t418)))) else (some false)) else (some false)) else (some false)) else (some false))) else (some false)) else (some false))) else (some false)) else (some false)) else (some false)) else (some false)))) = some r := H
 have A18 := ZM A180
 clear A180
 replace H := Option.bind_eq_some_iff.mp H
 obtain ⟨⟨t406, t407⟩, A190, H⟩ := H
 replace H : ((thrumref02_Same.f t376 t380).bind fun t408 => (if t408 = true then (if t377 = t381 then (if t384 = t386 then (if t385 = t387 then ((thrumref02_Same.f t388 t392).bind fun t409 => (if t409 = true then (if t391 = t395 then ((thrumref15_SameLists.f t396 t400).bind fun t410 => (if t410 = true then (if t397 = t401 then (if t404 = t406 then (if t405 = t407 then ((soft_Check.f a0 a1 l2 (([(⟨l3_0, a3_1⟩ : S24)] : List (S24)))).bind fun t414 => ((thrumref15_Check.f a0 a1 l2 (([(⟨l3_0, a3_1⟩ : S24)] : List (S24)))).bind fun t418 => (some (t414 == t418)))) else (some false)) else (some false)) else (some false)) else (some false))) else (some false)) else (some false))) else (some false)) else (some false)) else (some false)) else (some false))) = some r := H
 have A19 := ZM A190
 clear A190
 replace H := Option.bind_eq_some_iff.mp H
 obtain ⟨t408, A200, H⟩ := H
 replace H : (if t408 = true then (if t377 = t381 then (if t384 = t386 then (if t385 = t387 then ((thrumref02_Same.f t388 t392).bind fun t409 => (if t409 = true then (if t391 = t395 then ((thrumref15_SameLists.f t396 t400).bind fun t410 => (if t410 = true then (if t397 = t401 then (if t404 = t406 then (if t405 = t407 then ((soft_Check.f a0 a1 l2 (([(⟨l3_0, a3_1⟩ : S24)] : List (S24)))).bind fun t414 => ((thrumref15_Check.f a0 a1 l2 (([(⟨l3_0, a3_1⟩ : S24)] : List (S24)))).bind fun t418 => (some (t414 == t418)))) else (some false)) else (some false)) else (some false)) else (some false))) else (some false)) else (some false))) else (some false)) else (some false)) else (some false)) else (some false)) = some r := H
 have A20 := ZM A200
 clear A200
 by_cases c21 : t408 = true
 case neg =>
  replace c21 := Bool.eq_false_iff.mpr c21
  subst c21
  have H1 : (some false) = some r := by rw [if_neg (show ¬ (false = true) by decide)] at H; exact H
  exact absurd (Option.some.inj H1) Z40
 subst c21
 have H1 : (if t377 = t381 then (if t384 = t386 then (if t385 = t387 then ((thrumref02_Same.f t388 t392).bind fun t409 => (if t409 = true then (if t391 = t395 then ((thrumref15_SameLists.f t396 t400).bind fun t410 => (if t410 = true then (if t397 = t401 then (if t404 = t406 then (if t405 = t407 then ((soft_Check.f a0 a1 l2 (([(⟨l3_0, a3_1⟩ : S24)] : List (S24)))).bind fun t414 => ((thrumref15_Check.f a0 a1 l2 (([(⟨l3_0, a3_1⟩ : S24)] : List (S24)))).bind fun t418 => (some (t414 == t418)))) else (some false)) else (some false)) else (some false)) else (some false))) else (some false)) else (some false))) else (some false)) else (some false)) else (some false)) = some r := by rw [if_pos rfl] at H; exact H
 clear H
 have H := H1
 clear H1
 by_cases c22 : t377 = t381
 case neg =>
  rw [if_neg c22] at H
  exact absurd (Option.some.inj H) Z40
 rw [if_pos c22] at H
 have c22b0 : (t377 == t381) = true := beq_iff_eq.mpr c22
 have c22b1 : (t377 != t381) = false := bne_eq_false_iff_eq.mpr c22
 clear c22
 by_cases c23 : t384 = t386
 case neg =>
  rw [if_neg c23] at H
  exact absurd (Option.some.inj H) Z40
 rw [if_pos c23] at H
 have c23b0 : (t384 == t386) = true := beq_iff_eq.mpr c23
 have c23b1 : (t384 != t386) = false := bne_eq_false_iff_eq.mpr c23
 clear c23
 by_cases c24 : t385 = t387
 case neg =>
  rw [if_neg c24] at H
  exact absurd (Option.some.inj H) Z40
 rw [if_pos c24] at H
 have c24b0 : (t385 == t387) = true := beq_iff_eq.mpr c24
 have c24b1 : (t385 != t387) = false := bne_eq_false_iff_eq.mpr c24
 clear c24
 replace H := Option.bind_eq_some_iff.mp H
 obtain ⟨t409, A250, H⟩ := H
 replace H : (if t409 = true then (if t391 = t395 then ((thrumref15_SameLists.f t396 t400).bind fun t410 => (if t410 = true then (if t397 = t401 then (if t404 = t406 then (if t405 = t407 then ((soft_Check.f a0 a1 l2 (([(⟨l3_0, a3_1⟩ : S24)] : List (S24)))).bind fun t414 => ((thrumref15_Check.f a0 a1 l2 (([(⟨l3_0, a3_1⟩ : S24)] : List (S24)))).bind fun t418 => (some (t414 == t418)))) else (some false)) else (some false)) else (some false)) else (some false))) else (some false)) else (some false)) = some r := H
 have A25 := ZM A250
 clear A250
 by_cases c26 : t409 = true
 case neg =>
  replace c26 := Bool.eq_false_iff.mpr c26
  subst c26
  have H1 : (some false) = some r := by rw [if_neg (show ¬ (false = true) by decide)] at H; exact H
  exact absurd (Option.some.inj H1) Z40
 subst c26
 have H1 : (if t391 = t395 then ((thrumref15_SameLists.f t396 t400).bind fun t410 => (if t410 = true then (if t397 = t401 then (if t404 = t406 then (if t405 = t407 then ((soft_Check.f a0 a1 l2 (([(⟨l3_0, a3_1⟩ : S24)] : List (S24)))).bind fun t414 => ((thrumref15_Check.f a0 a1 l2 (([(⟨l3_0, a3_1⟩ : S24)] : List (S24)))).bind fun t418 => (some (t414 == t418)))) else (some false)) else (some false)) else (some false)) else (some false))) else (some false)) = some r := by rw [if_pos rfl] at H; exact H
 clear H
 have H := H1
 clear H1
 by_cases c27 : t391 = t395
 case neg =>
  rw [if_neg c27] at H
  exact absurd (Option.some.inj H) Z40
 rw [if_pos c27] at H
 have c27b0 : (t391 == t395) = true := beq_iff_eq.mpr c27
 have c27b1 : (t391 != t395) = false := bne_eq_false_iff_eq.mpr c27
 clear c27
 replace H := Option.bind_eq_some_iff.mp H
 obtain ⟨t410, A280, H⟩ := H
 replace H : (if t410 = true then (if t397 = t401 then (if t404 = t406 then (if t405 = t407 then ((soft_Check.f a0 a1 l2 (([(⟨l3_0, a3_1⟩ : S24)] : List (S24)))).bind fun t414 => ((thrumref15_Check.f a0 a1 l2 (([(⟨l3_0, a3_1⟩ : S24)] : List (S24)))).bind fun t418 => (some (t414 == t418)))) else (some false)) else (some false)) else (some false)) else (some false)) = some r := H
 have A28 := ZM A280
 clear A280
 by_cases c29 : t410 = true
 case neg =>
  replace c29 := Bool.eq_false_iff.mpr c29
  subst c29
  have H1 : (some false) = some r := by rw [if_neg (show ¬ (false = true) by decide)] at H; exact H
  exact absurd (Option.some.inj H1) Z40
 subst c29
 have H1 : (if t397 = t401 then (if t404 = t406 then (if t405 = t407 then ((soft_Check.f a0 a1 l2 (([(⟨l3_0, a3_1⟩ : S24)] : List (S24)))).bind fun t414 => ((thrumref15_Check.f a0 a1 l2 (([(⟨l3_0, a3_1⟩ : S24)] : List (S24)))).bind fun t418 => (some (t414 == t418)))) else (some false)) else (some false)) else (some false)) = some r := by rw [if_pos rfl] at H; exact H
 clear H
 have H := H1
 clear H1
 by_cases c30 : t397 = t401
 case neg =>
  rw [if_neg c30] at H
  exact absurd (Option.some.inj H) Z40
 rw [if_pos c30] at H
 have c30b0 : (t397 == t401) = true := beq_iff_eq.mpr c30
 have c30b1 : (t397 != t401) = false := bne_eq_false_iff_eq.mpr c30
 clear c30
 by_cases c31 : t404 = t406
 case neg =>
  rw [if_neg c31] at H
  exact absurd (Option.some.inj H) Z40
 rw [if_pos c31] at H
 have c31b0 : (t404 == t406) = true := beq_iff_eq.mpr c31
 have c31b1 : (t404 != t406) = false := bne_eq_false_iff_eq.mpr c31
 clear c31
 by_cases c32 : t405 = t407
 case neg =>
  rw [if_neg c32] at H
  exact absurd (Option.some.inj H) Z40
 rw [if_pos c32] at H
 have c32b0 : (t405 == t407) = true := beq_iff_eq.mpr c32
 have c32b1 : (t405 != t407) = false := bne_eq_false_iff_eq.mpr c32
 clear c32
 obtain ⟨y411, hy411⟩ : ∃ y_ : List (S24), y_ = (([(⟨l3_0, a3_1⟩ : S24)] : List (S24))) := ⟨_, rfl⟩
 replace H : ((soft_Check.f a0 a1 l2 y411).bind fun t414 => ((thrumref15_Check.f a0 a1 l2 (([(⟨l3_0, a3_1⟩ : S24)] : List (S24)))).bind fun t418 => (some (t414 == t418)))) = some r := by first | (rw [hy411]; with_reducible exact H) | (have H2_ := (Option.bind_some _ _).symm.trans H; rw [hy411]; with_reducible exact H2_) | (have H2_ := (Option.bind_some _ _).symm.trans H; with_reducible exact H2_) | with_reducible exact H | (rw [hy411]; exact H) | exact H
 have Ny411 := ZM hy411
 clear hy411
 replace H := Option.bind_eq_some_iff.mp H
 obtain ⟨t414, A330, H⟩ := H
 replace H : ((thrumref15_Check.f a0 a1 l2 (([(⟨l3_0, a3_1⟩ : S24)] : List (S24)))).bind fun t418 => (some (t414 == t418))) = some r := H
 have A33 := ZM A330
 clear A330
 obtain ⟨y415, hy415⟩ : ∃ y_ : List (S24), y_ = (([(⟨l3_0, a3_1⟩ : S24)] : List (S24))) := ⟨_, rfl⟩
 replace H : ((thrumref15_Check.f a0 a1 l2 y415).bind fun t418 => (some (t414 == t418))) = some r := by first | (rw [hy415]; with_reducible exact H) | (have H2_ := (Option.bind_some _ _).symm.trans H; rw [hy415]; with_reducible exact H2_) | (have H2_ := (Option.bind_some _ _).symm.trans H; with_reducible exact H2_) | with_reducible exact H | (rw [hy415]; exact H) | exact H
 have Ny415 := ZM hy415
 clear hy415
 replace H := Option.bind_eq_some_iff.mp H
 obtain ⟨t418, A340, H⟩ := H
 replace H : (some (t414 == t418)) = some r := H
 have A34 := ZM A340
 clear A340
 obtain rfl := Option.some.inj H
 go_enter Try.func3, Try.ntmps3
 try go_wp2_with (first | ((with_reducible refine gate_dst (N := 8) rfl ?_); (try (refine gate_guard (by rfl) ?_; dsimp only)); refine box_event ?hg (N := 8) ?hd (cs := #[.slice A3_0 l3_0.length c3_0, .int .i64 a3_1]) (t := 24) ?hr ?_; (case hd => rfl); (case hg => rfl); (case hr => exact Z10); intro gb370 hg w35 hbox hb; replace HO3_0 := ZM (Kd.V_below (Kd.V_elderB Z7 gb370 (Nat.le_of_eq hg.symm)) hb); have BK370 := ZM (hbox); have GW370 := ZM ((by rw [hg]; exact (zzS Z1) : w.heap.size ≤ gb370)); have GE370 := ZM ((by rw [hg]; exact (zzS Z1) : w.heap.size ≤ gb370)); replace HB := ZM (zzT Z1 hb); clear hb hbox hg) | ((with_reducible refine gate_callee (f := 4) rfl ?_); refine goesL_ (some 32) rfl rfl Try.func4 (by kernel_rfl) rfl #[] rfl Z2 ?_; (with_reducible refine (thrumlaw15_live.calls  true _ A6.out).mono ?_); rintro e w36 ⟨rfl, hb⟩; refine ⟨_, rfl, ?_⟩; replace HO3_0 := ZM (Kd.V_below Z7 hb); replace BK370 := ZM (blk_below (g := gb370) (o := .cells #[.slice A3_0 l3_0.length c3_0, .int .i64 a3_1] 24 (0, 0)) (Zk BK370) hb); replace HB := ZM (zzT Z4 hb); (try clear hb); (try clear hb2); (try clear hk); (try clear hi); obtain ⟨hcz37_0, hcz37_1, hfz37_0, hfz37_1⟩ := Y2f BK370) | ((with_reducible refine gate_dst (N := 37) rfl ?_); (try (refine gate_guard (by rfl) ?_; dsimp only)); refine Kd.N_lit k24 _ 24 ?hg (N' := 37) ?hd (xs := ([(⟨l3_0, a3_1⟩ : S24)] : List (S24))) (inner := [.slice A3_0 l3_0.length c3_0, .int .i64 a3_1]) (ok := (fun k_ => (P3_0_ k_ ∨ w.heap.size ≤ k_) ∧ k_ ≠ gb370)) (okp := (fun k_ => (P3_0_ k_ ∨ w.heap.size ≤ k_) ∧ k_ ≠ gb370)) ?hr ?hp (fun _ hk => hk) ((show ∀ k_, w36.heap.size ≤ k_ → (fun k_ => (P3_0_ k_ ∨ w.heap.size ≤ k_) ∧ k_ ≠ gb370) k_ from fun k_ hk => ⟨(.inr (Nat.le_trans (zzS Z4) hk)), Kd.freshB (g := gb370) (o := .cells #[.slice A3_0 l3_0.length c3_0, .int .i64 a3_1] 24 (0, 0)) (Zk BK370) k_ hk⟩) _ (Nat.le_refl _)) (Below.refl _ _) (Nat.le_refl _) (by simp) ?_; (case hd => rfl); (case hg => rfl); (case hr => exact Z10); (case hp => exact (Reps.c2 (show Kd.FK k24 _ _ (⟨l3_0, a3_1⟩ : S24) [.slice A3_0 l3_0.length c3_0, .int .i64 a3_1] from (k24_mkF _ _ (⟨l3_0, a3_1⟩ : S24) (Kd.V_reads' (Kd.V_mono (ok' := (fun k_ => (P3_0_ k_ ∨ w.heap.size ≤ k_) ∧ k_ ≠ gb370)) (HO3_0.out) (fun k_ hk => ⟨hk.1, hk.2⟩))).2.1 (Kd.V_F (Kd.V_mono (ok' := (fun k_ => (P3_0_ k_ ∨ w.heap.size ≤ k_) ∧ k_ ≠ gb370)) (HO3_0.out) (fun k_ hk => ⟨hk.1, hk.2⟩))))) (Reps.none _ _))); intro v373 w38 ho39 hb hg_ hnew_; clear hg_ hnew_; (first | rw [← Ny372.out] at ho39 | (simp only [Int.reduceToNat] at ho39; rw [← Ny372.out] at ho39)); replace HO3_0 := ZM (Kd.V_elder' Z7 (Kd.N_base ho39) hb); have HO374 := ZM (Kd.N_lower ho39 (zzS Z4)); replace BK370 := ZM (blk_below (g := gb370) (o := .cells #[.slice A3_0 l3_0.length c3_0, .int .i64 a3_1] 24 (0, 0)) (Zk BK370) hb); replace HB := ZM (zzT Z4 hb); clear hb ho39; obtain ⟨Ao40, co40, eo40⟩ := Kd.N_slice HO374.out; subst eo40) | ((with_reducible refine gate_callee (f := 5) rfl ?_); refine goesL_ (some 38) rfl rfl Try.func5 (by kernel_rfl) rfl #[.slice A2 l2.length c2, .slice Ao40 y372.length co40] rfl Z2 ?_; (with_reducible refine (thrumref14_Few.calls _ _ l2 _ _ y372 true _ ?side1 ?side2 ?side3 ?side4 A8.out).mono ?_); (case side1 => exact Z8); (case side2 => exact HC2.out); (case side3 => exact Z48); (case side4 => exact (Kd.N_reads' HO374.out).2.1); rintro e w41 ⟨rfl, hb⟩; refine ⟨_, rfl, ?_⟩; replace HO3_0 := ZM (Kd.V_below Z7 hb); replace HO374 := ZM (Kd.N_below Z12 hb); replace BK370 := ZM (blk_below (g := gb370) (o := .cells #[.slice A3_0 l3_0.length c3_0, .int .i64 a3_1] 24 (0, 0)) (Zk BK370) hb); replace HB := ZM (zzT Z4 hb); (try clear hb); (try clear hb2); (try clear hk); (try clear hi); obtain ⟨hcz42_0, hcz42_1, hfz42_0, hfz42_1⟩ := Y2f BK370) | ((with_reducible refine gate_callee (f := 6) rfl ?_); refine goesL_ (some 47) rfl rfl Try.func6 (by kernel_rfl) rfl #[.int .i64 a1, .slice A2 l2.length c2, .slice A3_0 l3_0.length c3_0, .int .i64 a4] rfl Z2 ?_; (with_reducible refine (soft_Tell.calls a1 _ _ l2 _ _ l3_0 a4 t376 t377 _ ?side1 ?side2 ?side3 ?side4 A10.out).mono ?_); (case side1 => exact Z8); (case side2 => exact HC2.out); (case side3 => exact Z23); (case side4 => exact (Kd.V_reads' HO3_0.out).2.1); rintro e w43 ⟨v378, rfl, ho0, hb⟩; refine ⟨_, rfl, ?_⟩; replace HO3_0 := ZM (Kd.V_elder' Z7 (Kd.R_base ho0) hb); replace HO374 := ZM (Kd.N_elder' Z12 (Kd.R_base ho0) hb); have HO379 := ZM (Kd.R_lower (Kd.R_newM (M := fun k_ => (w.heap.size ≤ k_)) ho0 (zzS Z4) (fun k_ h_ => h_)) (zzS Z4)); replace BK370 := ZM (blk_below (g := gb370) (o := .cells #[.slice A3_0 l3_0.length c3_0, .int .i64 a3_1] 24 (0, 0)) (Zk BK370) hb); replace HB := ZM (zzT Z4 hb); (try clear hb); (try clear hb2); (try clear hk); (try clear hi); (try clear ho0); obtain ⟨hcz44_0, hcz44_1, hfz44_0, hfz44_1⟩ := Y2f BK370) | ((with_reducible refine gate_callee (f := 7) rfl ?_); refine goesL_ (some 56) rfl rfl Try.func7 (by kernel_rfl) rfl #[.int .i64 a1, .slice A2 l2.length c2, .slice A3_0 l3_0.length c3_0, .int .i64 a4] rfl Z2 ?_; (with_reducible refine (thrumref15_Tell.calls a1 _ _ l2 _ _ l3_0 a4 t380 t381 _ ?side1 ?side2 ?side3 ?side4 A11.out).mono ?_); (case side1 => exact Z8); (case side2 => exact HC2.out); (case side3 => exact Z23); (case side4 => exact (Kd.V_reads' HO3_0.out).2.1); rintro e w45 ⟨v382, rfl, ho0, hb⟩; refine ⟨_, rfl, ?_⟩; have n0_ := ZM (Kd.V_elder' Z7 (Kd.R_base ho0) hb); have n1_ := ZM (Kd.N_elder' Z12 (Kd.R_base ho0) hb); have n2_ := ZM (Kd.R_elder' (Zr HO379) (Kd.R_base ho0) hb); have n3_ := ZM (Kd.R_lower (Kd.R_new' (Kd.R_newM (M := fun k_ => (w.heap.size ≤ k_)) ho0 (zzS Z4) (fun k_ h_ => h_)) (Kd.R_lt (Zr HO379))) (zzS Z4)); have n4_ := ZM (blk_below (g := gb370) (o := .cells #[.slice A3_0 l3_0.length c3_0, .int .i64 a3_1] 24 (0, 0)) (Zk BK370) hb); have n5_ := ZM (zzT Z4 hb); clear HO3_0; clear HO374; clear HO379; clear BK370; clear HB; have HO3_0 := n0_; have HO374 := n1_; have HO379 := n2_; have HO383 := n3_; have BK370 := n4_; have HB := n5_; clear n0_ n1_ n2_ n3_ n4_ n5_; (try clear hb); (try clear hb2); (try clear hk); (try clear hi); (try clear ho0); obtain ⟨hcz46_0, hcz46_1, hfz46_0, hfz46_1⟩ := Y2f BK370) | ((with_reducible refine gate_callee (f := 8) rfl ?_); refine goesL_ (some 65) rfl rfl Try.func8 (by kernel_rfl) rfl #[.int .i64 a1, .slice A2 l2.length c2, .slice A3_0 l3_0.length c3_0, .int .i64 a4] rfl Z2 ?_; (with_reducible refine (soft_Class.calls a1 _ _ l2 _ _ l3_0 a4 t384 t385 _ ?side1 ?side2 ?side3 ?side4 A12.out).mono ?_); (case side1 => exact Z8); (case side2 => exact HC2.out); (case side3 => exact Z23); (case side4 => exact (Kd.V_reads' HO3_0.out).2.1); rintro e w47 ⟨rfl, hb⟩; refine ⟨_, rfl, ?_⟩; replace HO3_0 := ZM (Kd.V_below Z7 hb); replace HO374 := ZM (Kd.N_below Z12 hb); replace HO379 := ZM (Kd.R_below (Zr HO379) hb); replace HO383 := ZM (Kd.R_below (Zr HO383) hb); replace BK370 := ZM (blk_below (g := gb370) (o := .cells #[.slice A3_0 l3_0.length c3_0, .int .i64 a3_1] 24 (0, 0)) (Zk BK370) hb); replace HB := ZM (zzT Z4 hb); (try clear hb); (try clear hb2); (try clear hk); (try clear hi); obtain ⟨hcz48_0, hcz48_1, hfz48_0, hfz48_1⟩ := Y2f BK370) | ((with_reducible refine gate_callee (f := 9) rfl ?_); refine goesL_ (some 74) rfl rfl Try.func9 (by kernel_rfl) rfl #[.int .i64 a1, .slice A2 l2.length c2, .slice A3_0 l3_0.length c3_0, .int .i64 a4] rfl Z2 ?_; (with_reducible refine (thrumref15_Class.calls a1 _ _ l2 _ _ l3_0 a4 t386 t387 _ ?side1 ?side2 ?side3 ?side4 A13.out).mono ?_); (case side1 => exact Z8); (case side2 => exact HC2.out); (case side3 => exact Z23); (case side4 => exact (Kd.V_reads' HO3_0.out).2.1); rintro e w49 ⟨rfl, hb⟩; refine ⟨_, rfl, ?_⟩; replace HO3_0 := ZM (Kd.V_below Z7 hb); replace HO374 := ZM (Kd.N_below Z12 hb); replace HO379 := ZM (Kd.R_below (Zr HO379) hb); replace HO383 := ZM (Kd.R_below (Zr HO383) hb); replace BK370 := ZM (blk_below (g := gb370) (o := .cells #[.slice A3_0 l3_0.length c3_0, .int .i64 a3_1] 24 (0, 0)) (Zk BK370) hb); replace HB := ZM (zzT Z4 hb); (try clear hb); (try clear hb2); (try clear hk); (try clear hi); obtain ⟨hcz50_0, hcz50_1, hfz50_0, hfz50_1⟩ := Y2f BK370) | ((with_reducible refine gate_callee (f := 10) rfl ?_); refine goesL_ (some 82) rfl rfl Try.func10 (by kernel_rfl) rfl #[.int .i64 a1, .slice A2 l2.length c2, .agg #[.slice A3_0 l3_0.length c3_0, .int .i64 a3_1], .int .i64 a4] rfl Z2 ?_; (with_reducible refine (soft_Off.calls a1 _ _ l2 _ _ l3_0 a3_1 a4 t388 t391 _ ?side1 ?side2 ?side3 ?side4 A14.out).mono ?_); (case side1 => exact Z8); (case side2 => exact HC2.out); (case side3 => exact Z23); (case side4 => exact (Kd.V_reads' HO3_0.out).2.1); rintro e w51 ⟨v389, rfl, ho0, hb⟩; refine ⟨_, rfl, ?_⟩; have n0_ := ZM (Kd.V_elder' Z7 (Kd.R_base ho0) hb); have n1_ := ZM (Kd.N_elder' Z12 (Kd.R_base ho0) hb); have n2_ := ZM (Kd.R_elder' (Zr HO379) (Kd.R_base ho0) hb); have n3_ := ZM (Kd.R_elder' (Zr HO383) (Kd.R_base ho0) hb); have n4_ := ZM (Kd.R_lower (Kd.R_new' (Kd.R_new' (Kd.R_newM (M := fun k_ => (w.heap.size ≤ k_)) ho0 (zzS Z4) (fun k_ h_ => h_)) (Kd.R_lt (Zr HO379))) (Kd.R_lt (Zr HO383))) (zzS Z4)); have n5_ := ZM (blk_below (g := gb370) (o := .cells #[.slice A3_0 l3_0.length c3_0, .int .i64 a3_1] 24 (0, 0)) (Zk BK370) hb); have n6_ := ZM (zzT Z4 hb); clear HO3_0; clear HO374; clear HO379; clear HO383; clear BK370; clear HB; have HO3_0 := n0_; have HO374 := n1_; have HO379 := n2_; have HO383 := n3_; have HO390 := n4_; have BK370 := n5_; have HB := n6_; clear n0_ n1_ n2_ n3_ n4_ n5_ n6_; (try clear hb); (try clear hb2); (try clear hk); (try clear hi); (try clear ho0); obtain ⟨hcz52_0, hcz52_1, hfz52_0, hfz52_1⟩ := Y2f BK370) | ((with_reducible refine gate_callee (f := 11) rfl ?_); refine goesL_ (some 90) rfl rfl Try.func11 (by kernel_rfl) rfl #[.int .i64 a1, .slice A2 l2.length c2, .agg #[.slice A3_0 l3_0.length c3_0, .int .i64 a3_1], .int .i64 a4] rfl Z2 ?_; (with_reducible refine (thrumref15_Off.calls a1 _ _ l2 _ _ l3_0 a3_1 a4 t392 t395 _ ?side1 ?side2 ?side3 ?side4 A15.out).mono ?_); (case side1 => exact Z8); (case side2 => exact HC2.out); (case side3 => exact Z23); (case side4 => exact (Kd.V_reads' HO3_0.out).2.1); rintro e w53 ⟨v393, rfl, ho0, hb⟩; refine ⟨_, rfl, ?_⟩; have n0_ := ZM (Kd.V_elder' Z7 (Kd.R_base ho0) hb); have n1_ := ZM (Kd.N_elder' Z12 (Kd.R_base ho0) hb); have n2_ := ZM (Kd.R_elder' (Zr HO379) (Kd.R_base ho0) hb); have n3_ := ZM (Kd.R_elder' (Zr HO383) (Kd.R_base ho0) hb); have n4_ := ZM (Kd.R_elder' (Zr HO390) (Kd.R_base ho0) hb); have n5_ := ZM (Kd.R_lower (Kd.R_new' (Kd.R_new' (Kd.R_new' (Kd.R_newM (M := fun k_ => (w.heap.size ≤ k_)) ho0 (zzS Z4) (fun k_ h_ => h_)) (Kd.R_lt (Zr HO379))) (Kd.R_lt (Zr HO383))) (Kd.R_lt (Zr HO390))) (zzS Z4)); have n6_ := ZM (blk_below (g := gb370) (o := .cells #[.slice A3_0 l3_0.length c3_0, .int .i64 a3_1] 24 (0, 0)) (Zk BK370) hb); have n7_ := ZM (zzT Z4 hb); clear HO3_0; clear HO374; clear HO379; clear HO383; clear HO390; clear BK370; clear HB; have HO3_0 := n0_; have HO374 := n1_; have HO379 := n2_; have HO383 := n3_; have HO390 := n4_; have HO394 := n5_; have BK370 := n6_; have HB := n7_; clear n0_ n1_ n2_ n3_ n4_ n5_ n6_ n7_; (try clear hb); (try clear hb2); (try clear hk); (try clear hi); (try clear ho0)) | ((with_reducible refine gate_callee (f := 12) rfl ?_); refine goesL_ (some 96) rfl rfl Try.func12 (by kernel_rfl) rfl #[.int .i64 a1, .slice A2 l2.length c2] rfl Z2 ?_; (with_reducible refine (soft_Rows.calls a1 _ _ l2 t396 t397 _ ?side1 ?side2 A16.out).mono ?_); (case side1 => exact Z8); (case side2 => exact HC2.out); rintro e w54 ⟨v398, rfl, ho0, hb⟩; refine ⟨_, rfl, ?_⟩; have n0_ := ZM (Kd.V_elder' Z7 (Kd.N_base (Kd.S_N ho0)) hb); have n1_ := ZM (Kd.N_elder' Z12 (Kd.N_base (Kd.S_N ho0)) hb); have n2_ := ZM (Kd.R_below (Zr HO379) hb); have n3_ := ZM (Kd.R_below (Zr HO383) hb); have n4_ := ZM (Kd.R_below (Zr HO390) hb); have n5_ := ZM (Kd.R_below (Zr HO394) hb); have n6_ := ZM (Kd.N_lower (Kd.N_mono (ok' := fun k_ => (P3_0_ k_ ∨ w.heap.size ≤ k_) ∧ some k_ ≠ (.slice Ao40 y372.length co40 : Value).ownBlock ∧ some k_ ≠ (v378 : Value).ownBlock ∧ some k_ ≠ (v382 : Value).ownBlock ∧ some k_ ≠ (v389 : Value).ownBlock ∧ some k_ ≠ (v393 : Value).ownBlock ∧ k_ ≠ gb370) (Kd.S_N (Kd.S_bound ho0)) (fun k_ hk_ => ⟨(.inr (Nat.le_trans (zzS Z4) hk_.2.1)), (Kd.fresh' (Kd.N_lt Z12) k_ hk_.2.1), (Kd.fresh' (Kd.R_lt (Zr HO379)) k_ hk_.2.1), (Kd.fresh' (Kd.R_lt (Zr HO383)) k_ hk_.2.1), (Kd.fresh' (Kd.R_lt (Zr HO390)) k_ hk_.2.1), (Kd.fresh' (Kd.R_lt (Zr HO394)) k_ hk_.2.1), (Kd.freshB (g := gb370) (o := .cells #[.slice A3_0 l3_0.length c3_0, .int .i64 a3_1] 24 (0, 0)) (Zk BK370) k_ hk_.2.1)⟩)) (zzS Z4)); have n7_ := ZM (blk_below (g := gb370) (o := .cells #[.slice A3_0 l3_0.length c3_0, .int .i64 a3_1] 24 (0, 0)) (Zk BK370) hb); have n8_ := ZM (zzT Z4 hb); clear HO3_0; clear HO374; clear HO379; clear HO383; clear HO390; clear HO394; clear BK370; clear HB; have HO3_0 := n0_; have HO374 := n1_; have HO379 := n2_; have HO383 := n3_; have HO390 := n4_; have HO394 := n5_; have HO399 := n6_; have BK370 := n7_; have HB := n8_; clear n0_ n1_ n2_ n3_ n4_ n5_ n6_ n7_ n8_; (try clear hb); (try clear hb2); (try clear hk); (try clear hi); (try clear ho0)) | ((with_reducible refine gate_callee (f := 13) rfl ?_); refine goesL_ (some 102) rfl rfl Try.func13 (by kernel_rfl) rfl #[.int .i64 a1, .slice A2 l2.length c2] rfl Z2 ?_; (with_reducible refine (thrumref15_Rows.calls a1 _ _ l2 t400 t401 _ ?side1 ?side2 A17.out).mono ?_); (case side1 => exact Z8); (case side2 => exact HC2.out); rintro e w55 ⟨v402, rfl, ho0, hb⟩; refine ⟨_, rfl, ?_⟩; have n0_ := ZM (Kd.V_elder' Z7 (Kd.N_base (Kd.S_N ho0)) hb); have n1_ := ZM (Kd.N_elder' Z12 (Kd.N_base (Kd.S_N ho0)) hb); have n2_ := ZM (Kd.R_below (Zr HO379) hb); have n3_ := ZM (Kd.R_below (Zr HO383) hb); have n4_ := ZM (Kd.R_below (Zr HO390) hb); have n5_ := ZM (Kd.R_below (Zr HO394) hb); have n6_ := ZM (Kd.N_elder' (by (with_reducible repeat (first | apply Kd.N_alloc | apply Kd.N_drewN | apply Kd.N_drew)); exact HO399.out) (Kd.N_base (Kd.S_N ho0)) hb); have n7_ := ZM (Kd.N_lower (Kd.N_mono (ok' := fun k_ => (P3_0_ k_ ∨ w.heap.size ≤ k_) ∧ some k_ ≠ (.slice Ao40 y372.length co40 : Value).ownBlock ∧ some k_ ≠ (v378 : Value).ownBlock ∧ some k_ ≠ (v382 : Value).ownBlock ∧ some k_ ≠ (v389 : Value).ownBlock ∧ some k_ ≠ (v393 : Value).ownBlock ∧ some k_ ≠ (v398 : Value).ownBlock ∧ k_ ≠ gb370) (Kd.S_N (Kd.S_bound ho0)) (fun k_ hk_ => ⟨(.inr (Nat.le_trans (zzS Z4) hk_.2.1)), (Kd.fresh' (Kd.N_lt Z12) k_ hk_.2.1), (Kd.fresh' (Kd.R_lt (Zr HO379)) k_ hk_.2.1), (Kd.fresh' (Kd.R_lt (Zr HO383)) k_ hk_.2.1), (Kd.fresh' (Kd.R_lt (Zr HO390)) k_ hk_.2.1), (Kd.fresh' (Kd.R_lt (Zr HO394)) k_ hk_.2.1), (Kd.fresh' (Kd.N_lt (by (with_reducible repeat (first | apply Kd.N_alloc | apply Kd.N_drewN | apply Kd.N_drew)); exact HO399.out)) k_ hk_.2.1), (Kd.freshB (g := gb370) (o := .cells #[.slice A3_0 l3_0.length c3_0, .int .i64 a3_1] 24 (0, 0)) (Zk BK370) k_ hk_.2.1)⟩)) (zzS Z4)); have n8_ := ZM (blk_below (g := gb370) (o := .cells #[.slice A3_0 l3_0.length c3_0, .int .i64 a3_1] 24 (0, 0)) (Zk BK370) hb); have n9_ := ZM (zzT Z4 hb); clear HO3_0; clear HO374; clear HO379; clear HO383; clear HO390; clear HO394; clear HO399; clear BK370; clear HB; have HO3_0 := n0_; have HO374 := n1_; have HO379 := n2_; have HO383 := n3_; have HO390 := n4_; have HO394 := n5_; have HO399 := n6_; have HO403 := n7_; have BK370 := n8_; have HB := n9_; clear n0_ n1_ n2_ n3_ n4_ n5_ n6_ n7_ n8_ n9_; (try clear hb); (try clear hb2); (try clear hk); (try clear hi); (try clear ho0)) | ((with_reducible refine gate_callee (f := 14) rfl ?_); refine goesL_ (some 108) rfl rfl Try.func14 (by kernel_rfl) rfl #[.int .i64 a0, .int .i64 a1] rfl Z2 ?_; (with_reducible refine (soft_Dim.calls a0 a1 t404 t405 _ A18.out).mono ?_); rintro e w' ⟨rfl, ⟨nd, rfl⟩⟩; refine ⟨_, rfl, ?_⟩) | ((with_reducible refine gate_callee (f := 15) rfl ?_); refine goesL_ (some 114) rfl rfl Try.func15 (by kernel_rfl) rfl #[.int .i64 a0, .int .i64 a1] rfl Z2 ?_; (with_reducible refine (thrumref15_Dim.calls a0 a1 t406 t407 _ A19.out).mono ?_); rintro e w' ⟨rfl, ⟨nd, rfl⟩⟩; refine ⟨_, rfl, ?_⟩; obtain ⟨Ao56, co56, eo56⟩ := Kd.R_slice HO379.out; subst eo56; obtain ⟨Ao57, co57, eo57⟩ := Kd.R_slice HO383.out; subst eo57; obtain ⟨Ao58, co58, eo58⟩ := Kd.R_slice HO390.out; subst eo58; obtain ⟨Ao59, co59, eo59⟩ := Kd.R_slice HO394.out; subst eo59; obtain ⟨Ao60, co60, eo60⟩ := Kd.N_slice HO399.out; subst eo60; obtain ⟨Ao61, co61, eo61⟩ := Kd.N_slice HO403.out; subst eo61))
 (try (rw [drewN_self w55]; generalize hq_ : World.drewN w55 _ = w55; have n0_ : Aside0 (Kd.N k24 24 w55 w.heap.size (fun k_ => (P3_0_ k_ ∨ w.heap.size ≤ k_) ∧ some k_ ≠ (.slice Ao56 t376.length co56 : Value).ownBlock ∧ some k_ ≠ (.slice Ao57 t380.length co57 : Value).ownBlock ∧ some k_ ≠ (.slice Ao58 t388.length co58 : Value).ownBlock ∧ some k_ ≠ (.slice Ao59 t392.length co59 : Value).ownBlock ∧ some k_ ≠ (.slice Ao60 t396.length co60 : Value).ownBlock ∧ some k_ ≠ (.slice Ao61 t400.length co61 : Value).ownBlock ∧ k_ ≠ gb370) (.slice Ao40 y372.length co40) y372) := ⟨by rw [← hq_]; exact (by (with_reducible repeat (first | apply Kd.N_alloc | apply Kd.N_drewN | apply Kd.N_drew)); exact Kd.N_mono HO374.out (fun _ hk => ⟨hk.1.1.1.1.1.1.1, ⟨hk.1.1.1.1.1.2, ⟨hk.1.1.1.1.2, ⟨hk.1.1.1.2, ⟨hk.1.1.2, ⟨hk.1.2, ⟨hk.2, hk.1.1.1.1.1.1.2⟩⟩⟩⟩⟩⟩⟩))⟩; have n1_ : Aside0 (Kd.R (Kd.int .i64) 2 w55 w.heap.size (fun k_ => (w.heap.size ≤ k_) ∧ some k_ ≠ (.slice Ao57 t380.length co57 : Value).ownBlock ∧ some k_ ≠ (.slice Ao58 t388.length co58 : Value).ownBlock ∧ some k_ ≠ (.slice Ao59 t392.length co59 : Value).ownBlock) (.slice Ao56 t376.length co56) t376) := ⟨by rw [← hq_]; exact (by (with_reducible repeat (first | apply rrA | apply rrN | apply rrD)); exact Kd.R_mono HO379.out (fun _ hk => ⟨hk.1.1.1.1, ⟨hk.1.1.2, ⟨hk.1.2, hk.2⟩⟩⟩))⟩; have n2_ : Aside0 (Kd.R (Kd.int .i64) 2 w55 w.heap.size (fun k_ => (w.heap.size ≤ k_) ∧ some k_ ≠ (.slice Ao56 t376.length co56 : Value).ownBlock ∧ some k_ ≠ (.slice Ao58 t388.length co58 : Value).ownBlock ∧ some k_ ≠ (.slice Ao59 t392.length co59 : Value).ownBlock) (.slice Ao57 t380.length co57) t380) := ⟨by rw [← hq_]; exact (by (with_reducible repeat (first | apply rrA | apply rrN | apply rrD)); exact Kd.R_mono HO383.out (fun _ hk => ⟨hk.1.1.1.1, ⟨hk.1.1.2, ⟨hk.1.2, hk.2⟩⟩⟩))⟩; have n3_ : Aside0 (Kd.R (Kd.int .i64) 2 w55 w.heap.size (fun k_ => (w.heap.size ≤ k_) ∧ some k_ ≠ (.slice Ao56 t376.length co56 : Value).ownBlock ∧ some k_ ≠ (.slice Ao57 t380.length co57 : Value).ownBlock ∧ some k_ ≠ (.slice Ao59 t392.length co59 : Value).ownBlock) (.slice Ao58 t388.length co58) t388) := ⟨by rw [← hq_]; exact (by (with_reducible repeat (first | apply rrA | apply rrN | apply rrD)); exact Kd.R_mono HO390.out (fun _ hk => ⟨hk.1.1.1.1, ⟨hk.1.1.2, ⟨hk.1.2, hk.2⟩⟩⟩))⟩; have n4_ : Aside0 (Kd.R (Kd.int .i64) 2 w55 w.heap.size (fun k_ => (w.heap.size ≤ k_) ∧ some k_ ≠ (.slice Ao56 t376.length co56 : Value).ownBlock ∧ some k_ ≠ (.slice Ao57 t380.length co57 : Value).ownBlock ∧ some k_ ≠ (.slice Ao58 t388.length co58 : Value).ownBlock) (.slice Ao59 t392.length co59) t392) := ⟨by rw [← hq_]; exact (by (with_reducible repeat (first | apply rrA | apply rrN | apply rrD)); exact Kd.R_mono HO394.out (fun _ hk => ⟨hk.1.1.1.1, ⟨hk.1.1.2, ⟨hk.1.2, hk.2⟩⟩⟩))⟩; have n5_ : Aside0 (Kd.N (Kd.slice 2 (Kd.int .i64)) 22 w55 w.heap.size (fun k_ => (P3_0_ k_ ∨ w.heap.size ≤ k_) ∧ some k_ ≠ (.slice Ao40 y372.length co40 : Value).ownBlock ∧ some k_ ≠ (.slice Ao56 t376.length co56 : Value).ownBlock ∧ some k_ ≠ (.slice Ao57 t380.length co57 : Value).ownBlock ∧ some k_ ≠ (.slice Ao58 t388.length co58 : Value).ownBlock ∧ some k_ ≠ (.slice Ao59 t392.length co59 : Value).ownBlock ∧ some k_ ≠ (.slice Ao61 t400.length co61 : Value).ownBlock ∧ k_ ≠ gb370) (.slice Ao60 t396.length co60) t396) := ⟨by rw [← hq_]; exact (by (with_reducible repeat (first | apply Kd.N_alloc | apply Kd.N_drewN | apply Kd.N_drew)); exact Kd.N_mono HO399.out (fun _ hk => ⟨hk.1.1, ⟨hk.1.2.1, ⟨hk.1.2.2.1, ⟨hk.1.2.2.2.1, ⟨hk.1.2.2.2.2.1, ⟨hk.1.2.2.2.2.2.1, ⟨hk.2, hk.1.2.2.2.2.2.2⟩⟩⟩⟩⟩⟩⟩))⟩; have n6_ : Aside0 (Kd.V (Kd.int .i64) 2 w55 w.heap.size (fun k_ => (P3_0_ k_ ∨ w.heap.size ≤ k_) ∧ some k_ ≠ (.slice Ao40 y372.length co40 : Value).ownBlock ∧ some k_ ≠ (.slice Ao56 t376.length co56 : Value).ownBlock ∧ some k_ ≠ (.slice Ao57 t380.length co57 : Value).ownBlock ∧ some k_ ≠ (.slice Ao58 t388.length co58 : Value).ownBlock ∧ some k_ ≠ (.slice Ao59 t392.length co59 : Value).ownBlock ∧ some k_ ≠ (.slice Ao60 t396.length co60 : Value).ownBlock ∧ some k_ ≠ (.slice Ao61 t400.length co61 : Value).ownBlock ∧ k_ ≠ gb370) (.slice A3_0 l3_0.length c3_0) l3_0) := ⟨by rw [← hq_]; exact (by (with_reducible repeat (first | apply Kd.V_alloc | apply Kd.V_drewN | apply Kd.V_drew)); exact Kd.V_mono HO3_0.out (fun _ hk => ⟨hk.1.1.1.1.1.1.1.1, ⟨hk.1.1.1.1.1.1.2, ⟨hk.1.1.1.1.1.2, ⟨hk.1.1.1.1.2, ⟨hk.1.1.1.2, ⟨hk.1.1.2, ⟨hk.1.2, ⟨hk.2, hk.1.1.1.1.1.1.1.2⟩⟩⟩⟩⟩⟩⟩⟩))⟩; have n7_ : Aside0 (Kd.N (Kd.slice 2 (Kd.int .i64)) 22 w55 w.heap.size (fun k_ => (P3_0_ k_ ∨ w.heap.size ≤ k_) ∧ some k_ ≠ (.slice Ao40 y372.length co40 : Value).ownBlock ∧ some k_ ≠ (.slice Ao56 t376.length co56 : Value).ownBlock ∧ some k_ ≠ (.slice Ao57 t380.length co57 : Value).ownBlock ∧ some k_ ≠ (.slice Ao58 t388.length co58 : Value).ownBlock ∧ some k_ ≠ (.slice Ao59 t392.length co59 : Value).ownBlock ∧ some k_ ≠ (.slice Ao60 t396.length co60 : Value).ownBlock ∧ k_ ≠ gb370) (.slice Ao61 t400.length co61) t400) := ⟨by rw [← hq_]; exact (by (with_reducible repeat (first | apply Kd.N_alloc | apply Kd.N_drewN | apply Kd.N_drew)); exact HO403.out)⟩; have n8_ : Aside0 (w55.heap[gb370]? = some (.cells #[.slice A3_0 l3_0.length c3_0, .int .i64 a3_1] 24 (0, 0))) := ⟨by rw [← hq_]; exact (Zk BK370)⟩; have n9_ : Aside0 (Below w.heap.size w w55) := ⟨by rw [← hq_]; exact Z4⟩; clear HO374 HO379 HO383 HO390 HO394 HO399 HO3_0 HO403 BK370 HB hq_; have HO374 := n0_; have HO379 := n1_; have HO383 := n2_; have HO390 := n3_; have HO394 := n4_; have HO399 := n5_; have HO3_0 := n6_; have HO403 := n7_; have BK370 := n8_; have HB := n9_; clear n0_ n1_ n2_ n3_ n4_ n5_ n6_ n7_ n8_ n9_))
 have n0_ := ZM (Kd.V_drew HO3_0.out)
 have n1_ := ZM (Kd.N_drew HO374.out)
 have n2_ := ZM (rrD HO379.out)
 have n3_ := ZM (rrD HO383.out)
 have n4_ := ZM (rrD HO390.out)
 have n5_ := ZM (rrD HO394.out)
 have n6_ := ZM (Kd.N_drew HO399.out)
 have n7_ := ZM (Kd.N_drew HO403.out)
 have n8_ := ZM (kkD BK370.out)
 have n9_ := ZM (zzD HB.out)
 clear HO3_0
 clear HO374
 clear HO379
 clear HO383
 clear HO390
 clear HO394
 clear HO399
 clear HO403
 clear BK370
 clear HB
 have HO3_0 := n0_
 have HO374 := n1_
 have HO379 := n2_
 have HO383 := n3_
 have HO390 := n4_
 have HO394 := n5_
 have HO399 := n6_
 have HO403 := n7_
 have BK370 := n8_
 have HB := n9_
 clear n0_ n1_ n2_ n3_ n4_ n5_ n6_ n7_ n8_ n9_
 refine start_ (n := 67) (S := fun w' => w'.cell? ⟨gb370, 0, none⟩ = some (.slice A3_0 l3_0.length c3_0) ∧ w'.cell? ⟨gb370, 1, none⟩ = some (.int .i64 a3_1)) (ds := []) #[false, false, false, false, false, false, false, false, false, false, false, false, false, false, false, false, false, false, false, false, false, false, false, false, false, false, false, false, false, false, false, false, false, false, false, false, false, false, false, false, false, false, false, false, false, false, false, false, false, false, false, false, false, false, false, false, false, false, false, false, false, false, false, false, false, false, false] (by kernel_rfl) rfl rfl ⟨(blk_cell BK370.out 0).trans rfl, (blk_cell BK370.out 1).trans rfl⟩ (fun hHeld => ?_); refine with_tabW thrumlaw15_SoftTells.tab16 thrumlaw15_SoftTells.bits16 (fun HT_ HW_ => ?_)
 generalize w55.drew = w62 at HO3_0 HO374 HO379 HO383 HO390 HO394 HO399 HO403 BK370 HB hHeld ⊢
 refine pure_ (i := 0) (N := some 117) (v := ?_) (a' := ?_) #[true, false, false, false, false, false, false, false, false, false, false, false, false, false, false, false, false, false, false, false, false, false, false, false, false, false, false, false, false, false, false, false, false, false, false, false, false, false, false, false, false, false, false, false, false, false, false, false, false, false, false, false, false, false, false, false, false, false, false, false, false, false, false, false, false, false, false] rfl rfl (any_of HT_.out (by kernel_rfl)) (fun _ _ _ h => h) (Or.inl ⟨by rfl, ?_⟩) ?_ ?_
 rotate_left
 ·
  intro w'
  go_simp
  with_reducible rfl
 rotate_left
 ·
  simp only [Act.put, Zs]
  rfl
 refine pure_ (i := 1) (N := some 118) (v := ?_) (a' := ?_) #[true, true, false, false, false, false, false, false, false, false, false, false, false, false, false, false, false, false, false, false, false, false, false, false, false, false, false, false, false, false, false, false, false, false, false, false, false, false, false, false, false, false, false, false, false, false, false, false, false, false, false, false, false, false, false, false, false, false, false, false, false, false, false, false, false, false, false] rfl rfl (any_of HT_.out (by kernel_rfl)) (fun _ _ _ h => h) (Or.inl ⟨by rfl, ?_⟩) ?_ ?_
 rotate_left
 ·
  intro w'
  go_simp
  with_reducible rfl
 rotate_left
 ·
  simp only [Act.put, Zs]
  rfl
 refine pure_ (i := 2) (N := some 119) (v := ?_) (a' := ?_) #[true, true, true, false, false, false, false, false, false, false, false, false, false, false, false, false, false, false, false, false, false, false, false, false, false, false, false, false, false, false, false, false, false, false, false, false, false, false, false, false, false, false, false, false, false, false, false, false, false, false, false, false, false, false, false, false, false, false, false, false, false, false, false, false, false, false, false] rfl rfl (any_of HT_.out (by kernel_rfl)) (fun _ _ _ h => h) (Or.inl ⟨by rfl, ?_⟩) ?_ ?_
 rotate_left
 ·
  intro w'
  go_simp
  with_reducible rfl
 rotate_left
 ·
  simp only [Act.put, Zs]
  rfl
 refine pure_ (i := 3) (N := some 120) (v := ?_) (a' := ?_) #[true, true, true, true, false, false, false, false, false, false, false, false, false, false, false, false, false, false, false, false, false, false, false, false, false, false, false, false, false, false, false, false, false, false, false, false, false, false, false, false, false, false, false, false, false, false, false, false, false, false, false, false, false, false, false, false, false, false, false, false, false, false, false, false, false, false, false] rfl rfl (any_of HT_.out (by kernel_rfl)) (fun _ _ _ h => h) (Or.inl ⟨by rfl, ?_⟩) ?_ ?_
 rotate_left
 ·
  intro w'
  go_simp
  with_reducible rfl
 rotate_left
 ·
  simp only [Act.put, Zs]
  rfl
 refine one_ (i := 4) (N := some 121) #[true, true, true, true, true, false, false, false, false, false, false, false, false, false, false, false, false, false, false, false, false, false, false, false, false, false, false, false, false, false, false, false, false, false, false, false, false, false, false, false, false, false, false, false, false, false, false, false, false, false, false, false, false, false, false, false, false, false, false, false, false, false, false, false, false, false, false] rfl rfl (one_of HT_.out (by kernel_rfl)) (by decide) (fun K hK => ?_)
 refine goes_ Try.func16 (by kernel_rfl) rfl #[.slice Ao56 t376.length co56, .slice Ao57 t380.length co57] (by rfl) rfl rfl Z2 ?_
 with_reducible refine (thrumref02_Same.calls _ _ t376 _ _ t380 true _ ?side1 ?side2 ?side3 ?side4 A20.out).mono ?_
 (case side1 => repeat (first | exact (Kd.R_reads' HO379.out).2.2 | (with_reducible refine ccA ?_ _) | (with_reducible refine ccN ?_ _) | (with_reducible refine ccD ?_)))
 (case side2 => exact (Kd.R_reads' HO379.out).2.1)
 (case side3 => repeat (first | exact (Kd.R_reads' HO383.out).2.2 | (with_reducible refine ccA ?_ _) | (with_reducible refine ccN ?_ _) | (with_reducible refine ccD ?_)))
 (case side4 => exact (Kd.R_reads' HO383.out).2.1)
 rintro e w' ⟨rfl, ⟨nd, rfl⟩⟩
 refine ⟨_, rfl, ?_⟩
 refine hK.out _ _ ⟨(blk_cell BK370.out 0).trans rfl, (blk_cell BK370.out 1).trans rfl⟩ (fun hHeld => ?_)
 clear hK K
 refine norm_ (a' := ?_) ?_ ?_
 rotate_left
 ·
  show Act.put _ (some 121) _ = _
  simp only [Act.put, Zs]
  rfl
 refine pure_ (i := 5) (N := some 122) (v := ?_) (a' := ?_) #[true, true, true, true, true, true, false, false, false, false, false, false, false, false, false, false, false, false, false, false, false, false, false, false, false, false, false, false, false, false, false, false, false, false, false, false, false, false, false, false, false, false, false, false, false, false, false, false, false, false, false, false, false, false, false, false, false, false, false, false, false, false, false, false, false, false, false] rfl rfl (any_of HT_.out (by kernel_rfl)) (fun _ _ _ h => h) (Or.inl ⟨by rfl, ?_⟩) ?_ ?_
 rotate_left
 ·
  intro w'
  go_simp
  with_reducible rfl
 rotate_left
 ·
  simp only [Act.put, Zs]
  rfl
 refine pure_ (i := 6) (N := some 123) (v := ?_) (a' := ?_) #[true, true, true, true, true, true, true, false, false, false, false, false, false, false, false, false, false, false, false, false, false, false, false, false, false, false, false, false, false, false, false, false, false, false, false, false, false, false, false, false, false, false, false, false, false, false, false, false, false, false, false, false, false, false, false, false, false, false, false, false, false, false, false, false, false, false, false] rfl rfl (any_of HT_.out (by kernel_rfl)) (fun _ _ _ h => h) (Or.inl ⟨by rfl, ?_⟩) ?_ ?_
 rotate_left
 ·
  intro w'
  go_simp
  with_reducible rfl
 rotate_left
 ·
  simp only [Act.put, Zs]
  rfl
 refine pure_ (i := 7) (N := some 124) (v := ?_) (a' := ?_) #[true, true, true, true, true, true, true, true, false, false, false, false, false, false, false, false, false, false, false, false, false, false, false, false, false, false, false, false, false, false, false, false, false, false, false, false, false, false, false, false, false, false, false, false, false, false, false, false, false, false, false, false, false, false, false, false, false, false, false, false, false, false, false, false, false, false, false] rfl rfl (any_of HT_.out (by kernel_rfl)) (fun _ _ _ h => h) (Or.inl ⟨by rfl, ?_⟩) ?_ ?_
 rotate_left
 ·
  intro w'
  go_simp
  with_reducible rfl
 rotate_left
 ·
  simp only [Act.put, Zs]
  rfl
 refine pure_ (i := 8) (N := some 125) (v := ?_) (a' := ?_) #[true, true, true, true, true, true, true, true, true, false, false, false, false, false, false, false, false, false, false, false, false, false, false, false, false, false, false, false, false, false, false, false, false, false, false, false, false, false, false, false, false, false, false, false, false, false, false, false, false, false, false, false, false, false, false, false, false, false, false, false, false, false, false, false, false, false, false] rfl rfl (any_of HT_.out (by kernel_rfl)) (fun _ _ _ h => h) (Or.inl ⟨by rfl, ?_⟩) ?_ ?_
 rotate_left
 ·
  intro w'
  go_simp
  with_reducible rfl
 rotate_left
 ·
  simp only [Act.put, Zs]
  rfl
 refine pure_ (i := 9) (N := some 126) (v := ?_) (a' := ?_) #[true, true, true, true, true, true, true, true, true, true, false, false, false, false, false, false, false, false, false, false, false, false, false, false, false, false, false, false, false, false, false, false, false, false, false, false, false, false, false, false, false, false, false, false, false, false, false, false, false, false, false, false, false, false, false, false, false, false, false, false, false, false, false, false, false, false, false] rfl rfl (any_of HT_.out (by kernel_rfl)) (fun _ _ _ h => h) (Or.inl ⟨by rfl, ?_⟩) ?_ ?_
 rotate_left
 ·
  intro w'
  go_simp
  with_reducible rfl
 rotate_left
 ·
  simp only [Act.put, Zs]
  rfl
 refine pure_ (i := 10) (N := some 127) (v := ?_) (a' := ?_) #[true, true, true, true, true, true, true, true, true, true, true, false, false, false, false, false, false, false, false, false, false, false, false, false, false, false, false, false, false, false, false, false, false, false, false, false, false, false, false, false, false, false, false, false, false, false, false, false, false, false, false, false, false, false, false, false, false, false, false, false, false, false, false, false, false, false, false] rfl rfl (any_of HT_.out (by kernel_rfl)) (fun _ _ _ h => h) (Or.inl ⟨by rfl, ?_⟩) ?_ ?_
 rotate_left
 ·
  intro w'
  go_simp
  with_reducible rfl
 rotate_left
 ·
  simp only [Act.put, Zs]
  rfl
 refine pure_ (i := 11) (N := some 128) (v := ?_) (a' := ?_) #[true, true, true, true, true, true, true, true, true, true, true, true, false, false, false, false, false, false, false, false, false, false, false, false, false, false, false, false, false, false, false, false, false, false, false, false, false, false, false, false, false, false, false, false, false, false, false, false, false, false, false, false, false, false, false, false, false, false, false, false, false, false, false, false, false, false, false] rfl rfl (any_of HT_.out (by kernel_rfl)) (fun _ _ _ h => h) (Or.inl ⟨by rfl, ?_⟩) ?_ ?_
 rotate_left
 ·
  intro w'
  go_simp
  with_reducible rfl
 rotate_left
 ·
  simp only [Act.put, Zs]
  rfl
 refine pure_ (i := 12) (N := some 129) (v := ?_) (a' := ?_) #[true, true, true, true, true, true, true, true, true, true, true, true, true, false, false, false, false, false, false, false, false, false, false, false, false, false, false, false, false, false, false, false, false, false, false, false, false, false, false, false, false, false, false, false, false, false, false, false, false, false, false, false, false, false, false, false, false, false, false, false, false, false, false, false, false, false, false] rfl rfl (any_of HT_.out (by kernel_rfl)) (fun _ _ _ h => h) (Or.inl ⟨by rfl, ?_⟩) ?_ ?_
 rotate_left
 ·
  intro w'
  go_simp
  with_reducible rfl
 rotate_left
 ·
  simp only [Act.put, Zs]
  rfl
 refine pure_ (i := 13) (N := some 130) (v := ?_) (a' := ?_) #[true, true, true, true, true, true, true, true, true, true, true, true, true, true, false, false, false, false, false, false, false, false, false, false, false, false, false, false, false, false, false, false, false, false, false, false, false, false, false, false, false, false, false, false, false, false, false, false, false, false, false, false, false, false, false, false, false, false, false, false, false, false, false, false, false, false, false] rfl rfl (any_of HT_.out (by kernel_rfl)) (fun _ _ _ h => h) (Or.inl ⟨by rfl, ?_⟩) ?_ ?_
 rotate_left
 ·
  intro w'
  go_simp
  with_reducible rfl
 rotate_left
 ·
  simp only [Act.put, Zs]
  rfl
 refine pure_ (i := 14) (N := some 131) (v := ?_) (a' := ?_) #[true, true, true, true, true, true, true, true, true, true, true, true, true, true, true, false, false, false, false, false, false, false, false, false, false, false, false, false, false, false, false, false, false, false, false, false, false, false, false, false, false, false, false, false, false, false, false, false, false, false, false, false, false, false, false, false, false, false, false, false, false, false, false, false, false, false, false] rfl rfl (any_of HT_.out (by kernel_rfl)) (fun _ _ _ h => h) (Or.inl ⟨by rfl, ?_⟩) ?_ ?_
 rotate_left
 ·
  intro w'
  go_simp
  with_reducible rfl
 rotate_left
 ·
  simp only [Act.put, Zs]
  rfl
 refine pure_ (i := 15) (N := some 132) (v := ?_) (a' := ?_) #[true, true, true, true, true, true, true, true, true, true, true, true, true, true, true, true, false, false, false, false, false, false, false, false, false, false, false, false, false, false, false, false, false, false, false, false, false, false, false, false, false, false, false, false, false, false, false, false, false, false, false, false, false, false, false, false, false, false, false, false, false, false, false, false, false, false, false] rfl rfl (any_of HT_.out (by kernel_rfl)) (fun _ _ _ h => h) (Or.inl ⟨by rfl, ?_⟩) ?_ ?_
 rotate_left
 ·
  intro w'
  go_simp
  with_reducible rfl
 rotate_left
 ·
  simp only [Act.put, Zs]
  rfl
 refine pure_ (i := 16) (N := some 133) (v := ?_) (a' := ?_) #[true, true, true, true, true, true, true, true, true, true, true, true, true, true, true, true, true, false, false, false, false, false, false, false, false, false, false, false, false, false, false, false, false, false, false, false, false, false, false, false, false, false, false, false, false, false, false, false, false, false, false, false, false, false, false, false, false, false, false, false, false, false, false, false, false, false, false] rfl rfl (any_of HT_.out (by kernel_rfl)) (fun _ _ _ h => h) (Or.inl ⟨by rfl, ?_⟩) ?_ ?_
 rotate_left
 ·
  intro w'
  go_simp
  with_reducible rfl
 rotate_left
 ·
  simp only [Act.put, Zs]
  rfl
 refine pure_ (i := 17) (N := some 134) (v := ?_) (a' := ?_) #[true, true, true, true, true, true, true, true, true, true, true, true, true, true, true, true, true, true, false, false, false, false, false, false, false, false, false, false, false, false, false, false, false, false, false, false, false, false, false, false, false, false, false, false, false, false, false, false, false, false, false, false, false, false, false, false, false, false, false, false, false, false, false, false, false, false, false] rfl rfl (any_of HT_.out (by kernel_rfl)) (fun _ _ _ h => h) (Or.inl ⟨by rfl, ?_⟩) ?_ ?_
 rotate_left
 ·
  intro w'
  go_simp
  with_reducible rfl
 rotate_left
 ·
  simp only [Act.put, Zs]
  rfl
 refine pure_ (i := 18) (N := some 135) (v := ?_) (a' := ?_) #[true, true, true, true, true, true, true, true, true, true, true, true, true, true, true, true, true, true, true, false, false, false, false, false, false, false, false, false, false, false, false, false, false, false, false, false, false, false, false, false, false, false, false, false, false, false, false, false, false, false, false, false, false, false, false, false, false, false, false, false, false, false, false, false, false, false, false] rfl rfl (any_of HT_.out (by kernel_rfl)) (fun _ _ _ h => h) (Or.inl ⟨by rfl, ?_⟩) ?_ ?_
 rotate_left
 ·
  intro w'
  go_simp
  with_reducible rfl
 rotate_left
 ·
  simp only [Act.put, Zs]
  rfl
 refine pure_ (i := 19) (N := some 136) (v := ?_) (a' := ?_) #[true, true, true, true, true, true, true, true, true, true, true, true, true, true, true, true, true, true, true, true, false, false, false, false, false, false, false, false, false, false, false, false, false, false, false, false, false, false, false, false, false, false, false, false, false, false, false, false, false, false, false, false, false, false, false, false, false, false, false, false, false, false, false, false, false, false, false] rfl rfl (any_of HT_.out (by kernel_rfl)) (fun _ _ _ h => h) (Or.inl ⟨by rfl, ?_⟩) ?_ ?_
 rotate_left
 ·
  intro w'
  go_simp
  with_reducible rfl
 rotate_left
 ·
  simp only [Act.put, Zs]
  rfl
 refine pure_ (i := 20) (N := some 137) (v := ?_) (a' := ?_) #[true, true, true, true, true, true, true, true, true, true, true, true, true, true, true, true, true, true, true, true, true, false, false, false, false, false, false, false, false, false, false, false, false, false, false, false, false, false, false, false, false, false, false, false, false, false, false, false, false, false, false, false, false, false, false, false, false, false, false, false, false, false, false, false, false, false, false] rfl rfl (any_of HT_.out (by kernel_rfl)) (fun _ _ _ h => h) (Or.inl ⟨by rfl, ?_⟩) ?_ ?_
 rotate_left
 ·
  intro w'
  go_simp
  with_reducible rfl
 rotate_left
 ·
  simp only [Act.put, Zs]
  rfl
 refine pure_ (i := 21) (N := some 138) (v := ?_) (a' := ?_) #[true, true, true, true, true, true, true, true, true, true, true, true, true, true, true, true, true, true, true, true, true, true, false, false, false, false, false, false, false, false, false, false, false, false, false, false, false, false, false, false, false, false, false, false, false, false, false, false, false, false, false, false, false, false, false, false, false, false, false, false, false, false, false, false, false, false, false] rfl rfl (any_of HT_.out (by kernel_rfl)) (fun _ _ _ h => h) (Or.inl ⟨by rfl, ?_⟩) ?_ ?_
 rotate_left
 ·
  intro w'
  go_simp
  with_reducible rfl
 rotate_left
 ·
  simp only [Act.put, Zs]
  rfl
 refine pure_ (i := 22) (N := some 139) (v := ?_) (a' := ?_) #[true, true, true, true, true, true, true, true, true, true, true, true, true, true, true, true, true, true, true, true, true, true, true, false, false, false, false, false, false, false, false, false, false, false, false, false, false, false, false, false, false, false, false, false, false, false, false, false, false, false, false, false, false, false, false, false, false, false, false, false, false, false, false, false, false, false, false] rfl rfl (any_of HT_.out (by kernel_rfl)) (fun _ _ _ h => h) (Or.inl ⟨by rfl, ?_⟩) ?_ ?_
 rotate_left
 ·
  intro w'
  go_simp
  with_reducible rfl
 rotate_left
 ·
  simp only [Act.put, Zs]
  rfl
 refine pure_ (i := 23) (N := some 140) (v := ?_) (a' := ?_) #[true, true, true, true, true, true, true, true, true, true, true, true, true, true, true, true, true, true, true, true, true, true, true, true, false, false, false, false, false, false, false, false, false, false, false, false, false, false, false, false, false, false, false, false, false, false, false, false, false, false, false, false, false, false, false, false, false, false, false, false, false, false, false, false, false, false, false] rfl rfl (any_of HT_.out (by kernel_rfl)) (fun _ _ _ h => h) (Or.inl ⟨by rfl, ?_⟩) ?_ ?_
 rotate_left
 ·
  intro w'
  go_simp
  with_reducible rfl
 rotate_left
 ·
  simp only [Act.put, Zs]
  rfl
 refine one_ (i := 24) (N := some 141) #[true, true, true, true, true, true, true, true, true, true, true, true, true, true, true, true, true, true, true, true, true, true, true, true, true, false, false, false, false, false, false, false, false, false, false, false, false, false, false, false, false, false, false, false, false, false, false, false, false, false, false, false, false, false, false, false, false, false, false, false, false, false, false, false, false, false, false] rfl rfl (one_of HT_.out (by kernel_rfl)) (by decide) (fun K hK => ?_)
 refine goes_ Try.func16 (by kernel_rfl) rfl #[.slice Ao58 t388.length co58, .slice Ao59 t392.length co59] (by rfl) rfl rfl Z2 ?_
 with_reducible refine (thrumref02_Same.calls _ _ t388 _ _ t392 true _ ?side1 ?side2 ?side3 ?side4 A25.out).mono ?_
 (case side1 => repeat (first | exact (Kd.R_reads' HO390.out).2.2 | (with_reducible refine ccA ?_ _) | (with_reducible refine ccN ?_ _) | (with_reducible refine ccD ?_)))
 (case side2 => exact (Kd.R_reads' HO390.out).2.1)
 (case side3 => repeat (first | exact (Kd.R_reads' HO394.out).2.2 | (with_reducible refine ccA ?_ _) | (with_reducible refine ccN ?_ _) | (with_reducible refine ccD ?_)))
 (case side4 => exact (Kd.R_reads' HO394.out).2.1)
 rintro e w' ⟨rfl, ⟨nd, rfl⟩⟩
 refine ⟨_, rfl, ?_⟩
 refine hK.out _ _ ⟨(blk_cell BK370.out 0).trans rfl, (blk_cell BK370.out 1).trans rfl⟩ (fun hHeld => ?_)
 clear hK K
 refine norm_ (a' := ?_) ?_ ?_
 rotate_left
 ·
  show Act.put _ (some 141) _ = _
  simp only [Act.put, Zs]
  rfl
 refine pure_ (i := 25) (N := some 142) (v := ?_) (a' := ?_) #[true, true, true, true, true, true, true, true, true, true, true, true, true, true, true, true, true, true, true, true, true, true, true, true, true, true, false, false, false, false, false, false, false, false, false, false, false, false, false, false, false, false, false, false, false, false, false, false, false, false, false, false, false, false, false, false, false, false, false, false, false, false, false, false, false, false, false] rfl rfl (any_of HT_.out (by kernel_rfl)) (fun _ _ _ h => h) (Or.inl ⟨by rfl, ?_⟩) ?_ ?_
 rotate_left
 ·
  intro w'
  go_simp
  with_reducible rfl
 rotate_left
 ·
  simp only [Act.put, Zs]
  rfl
 refine pure_ (i := 26) (N := some 143) (v := ?_) (a' := ?_) #[true, true, true, true, true, true, true, true, true, true, true, true, true, true, true, true, true, true, true, true, true, true, true, true, true, true, true, false, false, false, false, false, false, false, false, false, false, false, false, false, false, false, false, false, false, false, false, false, false, false, false, false, false, false, false, false, false, false, false, false, false, false, false, false, false, false, false] rfl rfl (any_of HT_.out (by kernel_rfl)) (fun _ _ _ h => h) (Or.inl ⟨by rfl, ?_⟩) ?_ ?_
 rotate_left
 ·
  intro w'
  go_simp
  with_reducible rfl
 rotate_left
 ·
  simp only [Act.put, Zs]
  rfl
 refine pure_ (i := 27) (N := some 144) (v := ?_) (a' := ?_) #[true, true, true, true, true, true, true, true, true, true, true, true, true, true, true, true, true, true, true, true, true, true, true, true, true, true, true, true, false, false, false, false, false, false, false, false, false, false, false, false, false, false, false, false, false, false, false, false, false, false, false, false, false, false, false, false, false, false, false, false, false, false, false, false, false, false, false] rfl rfl (any_of HT_.out (by kernel_rfl)) (fun _ _ _ h => h) (Or.inl ⟨by rfl, ?_⟩) ?_ ?_
 rotate_left
 ·
  intro w'
  go_simp
  with_reducible rfl
 rotate_left
 ·
  simp only [Act.put, Zs]
  rfl
 refine pure_ (i := 28) (N := some 145) (v := ?_) (a' := ?_) #[true, true, true, true, true, true, true, true, true, true, true, true, true, true, true, true, true, true, true, true, true, true, true, true, true, true, true, true, true, false, false, false, false, false, false, false, false, false, false, false, false, false, false, false, false, false, false, false, false, false, false, false, false, false, false, false, false, false, false, false, false, false, false, false, false, false, false] rfl rfl (any_of HT_.out (by kernel_rfl)) (fun _ _ _ h => h) (Or.inl ⟨by rfl, ?_⟩) ?_ ?_
 rotate_left
 ·
  intro w'
  go_simp
  with_reducible rfl
 rotate_left
 ·
  simp only [Act.put, Zs]
  rfl
 refine pure_ (i := 29) (N := some 146) (v := ?_) (a' := ?_) #[true, true, true, true, true, true, true, true, true, true, true, true, true, true, true, true, true, true, true, true, true, true, true, true, true, true, true, true, true, true, false, false, false, false, false, false, false, false, false, false, false, false, false, false, false, false, false, false, false, false, false, false, false, false, false, false, false, false, false, false, false, false, false, false, false, false, false] rfl rfl (any_of HT_.out (by kernel_rfl)) (fun _ _ _ h => h) (Or.inl ⟨by rfl, ?_⟩) ?_ ?_
 rotate_left
 ·
  intro w'
  go_simp
  with_reducible rfl
 rotate_left
 ·
  simp only [Act.put, Zs]
  rfl
 refine pure_ (i := 30) (N := some 147) (v := ?_) (a' := ?_) #[true, true, true, true, true, true, true, true, true, true, true, true, true, true, true, true, true, true, true, true, true, true, true, true, true, true, true, true, true, true, true, false, false, false, false, false, false, false, false, false, false, false, false, false, false, false, false, false, false, false, false, false, false, false, false, false, false, false, false, false, false, false, false, false, false, false, false] rfl rfl (any_of HT_.out (by kernel_rfl)) (fun _ _ _ h => h) (Or.inl ⟨by rfl, ?_⟩) ?_ ?_
 rotate_left
 ·
  intro w'
  go_simp
  with_reducible rfl
 rotate_left
 ·
  simp only [Act.put, Zs]
  rfl
 refine pure_ (i := 31) (N := some 148) (v := ?_) (a' := ?_) #[true, true, true, true, true, true, true, true, true, true, true, true, true, true, true, true, true, true, true, true, true, true, true, true, true, true, true, true, true, true, true, true, false, false, false, false, false, false, false, false, false, false, false, false, false, false, false, false, false, false, false, false, false, false, false, false, false, false, false, false, false, false, false, false, false, false, false] rfl rfl (any_of HT_.out (by kernel_rfl)) (fun _ _ _ h => h) (Or.inl ⟨by rfl, ?_⟩) ?_ ?_
 rotate_left
 ·
  intro w'
  go_simp
  with_reducible rfl
 rotate_left
 ·
  simp only [Act.put, Zs]
  rfl
 refine pure_ (i := 32) (N := some 149) (v := ?_) (a' := ?_) #[true, true, true, true, true, true, true, true, true, true, true, true, true, true, true, true, true, true, true, true, true, true, true, true, true, true, true, true, true, true, true, true, true, false, false, false, false, false, false, false, false, false, false, false, false, false, false, false, false, false, false, false, false, false, false, false, false, false, false, false, false, false, false, false, false, false, false] rfl rfl (any_of HT_.out (by kernel_rfl)) (fun _ _ _ h => h) (Or.inl ⟨by rfl, ?_⟩) ?_ ?_
 rotate_left
 ·
  intro w'
  go_simp
  with_reducible rfl
 rotate_left
 ·
  simp only [Act.put, Zs]
  rfl
 refine pure_ (i := 33) (N := some 150) (v := ?_) (a' := ?_) #[true, true, true, true, true, true, true, true, true, true, true, true, true, true, true, true, true, true, true, true, true, true, true, true, true, true, true, true, true, true, true, true, true, true, false, false, false, false, false, false, false, false, false, false, false, false, false, false, false, false, false, false, false, false, false, false, false, false, false, false, false, false, false, false, false, false, false] rfl rfl (any_of HT_.out (by kernel_rfl)) (fun _ _ _ h => h) (Or.inl ⟨by rfl, ?_⟩) ?_ ?_
 rotate_left
 ·
  intro w'
  go_simp
  with_reducible rfl
 rotate_left
 ·
  simp only [Act.put, Zs]
  rfl
 refine one_ (i := 34) (N := some 151) #[true, true, true, true, true, true, true, true, true, true, true, true, true, true, true, true, true, true, true, true, true, true, true, true, true, true, true, true, true, true, true, true, true, true, true, false, false, false, false, false, false, false, false, false, false, false, false, false, false, false, false, false, false, false, false, false, false, false, false, false, false, false, false, false, false, false, false] rfl rfl (one_of HT_.out (by kernel_rfl)) (by decide) (fun K hK => ?_)
 refine goes_ Try.func17 (by kernel_rfl) rfl #[.slice Ao60 t396.length co60, .slice Ao61 t400.length co61] (by rfl) rfl rfl Z2 ?_
 with_reducible refine (thrumref15_SameLists.calls _ _ t396 _ _ t400 true _ ?side1 ?side2 ?side3 ?side4 A28.out).mono ?_
 (case side1 => repeat (first | exact (Kd.N_reads' HO399.out).2.2 | (with_reducible refine ccA ?_ _) | (with_reducible refine ccN ?_ _) | (with_reducible refine ccD ?_)))
 (case side2 => exact (Kd.N_reads' HO399.out).2.1)
 (case side3 => repeat (first | exact (Kd.N_reads' HO403.out).2.2 | (with_reducible refine ccA ?_ _) | (with_reducible refine ccN ?_ _) | (with_reducible refine ccD ?_)))
 (case side4 => exact (Kd.N_reads' HO403.out).2.1)
 rintro e w' ⟨rfl, ⟨nd, rfl⟩⟩
 refine ⟨_, rfl, ?_⟩
 refine hK.out _ _ ⟨(blk_cell BK370.out 0).trans rfl, (blk_cell BK370.out 1).trans rfl⟩ (fun hHeld => ?_)
 clear hK K
 refine norm_ (a' := ?_) ?_ ?_
 rotate_left
 ·
  show Act.put _ (some 151) _ = _
  simp only [Act.put, Zs]
  rfl
 refine pure_ (i := 35) (N := some 152) (v := ?_) (a' := ?_) #[true, true, true, true, true, true, true, true, true, true, true, true, true, true, true, true, true, true, true, true, true, true, true, true, true, true, true, true, true, true, true, true, true, true, true, true, false, false, false, false, false, false, false, false, false, false, false, false, false, false, false, false, false, false, false, false, false, false, false, false, false, false, false, false, false, false, false] rfl rfl (any_of HT_.out (by kernel_rfl)) (fun _ _ _ h => h) (Or.inl ⟨by rfl, ?_⟩) ?_ ?_
 rotate_left
 ·
  intro w'
  go_simp
  with_reducible rfl
 rotate_left
 ·
  simp only [Act.put, Zs]
  rfl
 refine pure_ (i := 36) (N := some 153) (v := ?_) (a' := ?_) #[true, true, true, true, true, true, true, true, true, true, true, true, true, true, true, true, true, true, true, true, true, true, true, true, true, true, true, true, true, true, true, true, true, true, true, true, true, false, false, false, false, false, false, false, false, false, false, false, false, false, false, false, false, false, false, false, false, false, false, false, false, false, false, false, false, false, false] rfl rfl (any_of HT_.out (by kernel_rfl)) (fun _ _ _ h => h) (Or.inl ⟨by rfl, ?_⟩) ?_ ?_
 rotate_left
 ·
  intro w'
  go_simp
  with_reducible rfl
 rotate_left
 ·
  simp only [Act.put, Zs]
  rfl
 refine pure_ (i := 37) (N := some 154) (v := ?_) (a' := ?_) #[true, true, true, true, true, true, true, true, true, true, true, true, true, true, true, true, true, true, true, true, true, true, true, true, true, true, true, true, true, true, true, true, true, true, true, true, true, true, false, false, false, false, false, false, false, false, false, false, false, false, false, false, false, false, false, false, false, false, false, false, false, false, false, false, false, false, false] rfl rfl (any_of HT_.out (by kernel_rfl)) (fun _ _ _ h => h) (Or.inl ⟨by rfl, ?_⟩) ?_ ?_
 rotate_left
 ·
  intro w'
  go_simp
  with_reducible rfl
 rotate_left
 ·
  simp only [Act.put, Zs]
  rfl
 refine pure_ (i := 38) (N := some 155) (v := ?_) (a' := ?_) #[true, true, true, true, true, true, true, true, true, true, true, true, true, true, true, true, true, true, true, true, true, true, true, true, true, true, true, true, true, true, true, true, true, true, true, true, true, true, true, false, false, false, false, false, false, false, false, false, false, false, false, false, false, false, false, false, false, false, false, false, false, false, false, false, false, false, false] rfl rfl (any_of HT_.out (by kernel_rfl)) (fun _ _ _ h => h) (Or.inl ⟨by rfl, ?_⟩) ?_ ?_
 rotate_left
 ·
  intro w'
  go_simp
  with_reducible rfl
 rotate_left
 ·
  simp only [Act.put, Zs]
  rfl
 refine pure_ (i := 39) (N := some 156) (v := ?_) (a' := ?_) #[true, true, true, true, true, true, true, true, true, true, true, true, true, true, true, true, true, true, true, true, true, true, true, true, true, true, true, true, true, true, true, true, true, true, true, true, true, true, true, true, false, false, false, false, false, false, false, false, false, false, false, false, false, false, false, false, false, false, false, false, false, false, false, false, false, false, false] rfl rfl (any_of HT_.out (by kernel_rfl)) (fun _ _ _ h => h) (Or.inl ⟨by rfl, ?_⟩) ?_ ?_
 rotate_left
 ·
  intro w'
  go_simp
  with_reducible rfl
 rotate_left
 ·
  simp only [Act.put, Zs]
  rfl
 refine pure_ (i := 40) (N := some 157) (v := ?_) (a' := ?_) #[true, true, true, true, true, true, true, true, true, true, true, true, true, true, true, true, true, true, true, true, true, true, true, true, true, true, true, true, true, true, true, true, true, true, true, true, true, true, true, true, true, false, false, false, false, false, false, false, false, false, false, false, false, false, false, false, false, false, false, false, false, false, false, false, false, false, false] rfl rfl (any_of HT_.out (by kernel_rfl)) (fun _ _ _ h => h) (Or.inl ⟨by rfl, ?_⟩) ?_ ?_
 rotate_left
 ·
  intro w'
  go_simp
  with_reducible rfl
 rotate_left
 ·
  simp only [Act.put, Zs]
  rfl
 refine pure_ (i := 41) (N := some 158) (v := ?_) (a' := ?_) #[true, true, true, true, true, true, true, true, true, true, true, true, true, true, true, true, true, true, true, true, true, true, true, true, true, true, true, true, true, true, true, true, true, true, true, true, true, true, true, true, true, true, false, false, false, false, false, false, false, false, false, false, false, false, false, false, false, false, false, false, false, false, false, false, false, false, false] rfl rfl (any_of HT_.out (by kernel_rfl)) (fun _ _ _ h => h) (Or.inl ⟨by rfl, ?_⟩) ?_ ?_
 rotate_left
 ·
  intro w'
  go_simp
  with_reducible rfl
 rotate_left
 ·
  simp only [Act.put, Zs]
  rfl
 refine pure_ (i := 42) (N := some 159) (v := ?_) (a' := ?_) #[true, true, true, true, true, true, true, true, true, true, true, true, true, true, true, true, true, true, true, true, true, true, true, true, true, true, true, true, true, true, true, true, true, true, true, true, true, true, true, true, true, true, true, false, false, false, false, false, false, false, false, false, false, false, false, false, false, false, false, false, false, false, false, false, false, false, false] rfl rfl (any_of HT_.out (by kernel_rfl)) (fun _ _ _ h => h) (Or.inl ⟨by rfl, ?_⟩) ?_ ?_
 rotate_left
 ·
  intro w'
  go_simp
  with_reducible rfl
 rotate_left
 ·
  simp only [Act.put, Zs]
  rfl
 refine pure_ (i := 43) (N := some 160) (v := ?_) (a' := ?_) #[true, true, true, true, true, true, true, true, true, true, true, true, true, true, true, true, true, true, true, true, true, true, true, true, true, true, true, true, true, true, true, true, true, true, true, true, true, true, true, true, true, true, true, true, false, false, false, false, false, false, false, false, false, false, false, false, false, false, false, false, false, false, false, false, false, false, false] rfl rfl (any_of HT_.out (by kernel_rfl)) (fun _ _ _ h => h) (Or.inl ⟨by rfl, ?_⟩) ?_ ?_
 rotate_left
 ·
  intro w'
  go_simp
  with_reducible rfl
 rotate_left
 ·
  simp only [Act.put, Zs]
  rfl
 refine pure_ (i := 44) (N := some 161) (v := ?_) (a' := ?_) #[true, true, true, true, true, true, true, true, true, true, true, true, true, true, true, true, true, true, true, true, true, true, true, true, true, true, true, true, true, true, true, true, true, true, true, true, true, true, true, true, true, true, true, true, true, false, false, false, false, false, false, false, false, false, false, false, false, false, false, false, false, false, false, false, false, false, false] rfl rfl (any_of HT_.out (by kernel_rfl)) (fun _ _ _ h => h) (Or.inl ⟨by rfl, ?_⟩) ?_ ?_
 rotate_left
 ·
  intro w'
  go_simp
  with_reducible rfl
 rotate_left
 ·
  simp only [Act.put, Zs]
  rfl
 refine pure_ (i := 45) (N := some 162) (v := ?_) (a' := ?_) #[true, true, true, true, true, true, true, true, true, true, true, true, true, true, true, true, true, true, true, true, true, true, true, true, true, true, true, true, true, true, true, true, true, true, true, true, true, true, true, true, true, true, true, true, true, true, false, false, false, false, false, false, false, false, false, false, false, false, false, false, false, false, false, false, false, false, false] rfl rfl (any_of HT_.out (by kernel_rfl)) (fun _ _ _ h => h) (Or.inl ⟨by rfl, ?_⟩) ?_ ?_
 rotate_left
 ·
  intro w'
  go_simp
  with_reducible rfl
 rotate_left
 ·
  simp only [Act.put, Zs]
  rfl
 refine pure_ (i := 46) (N := some 163) (v := ?_) (a' := ?_) #[true, true, true, true, true, true, true, true, true, true, true, true, true, true, true, true, true, true, true, true, true, true, true, true, true, true, true, true, true, true, true, true, true, true, true, true, true, true, true, true, true, true, true, true, true, true, true, false, false, false, false, false, false, false, false, false, false, false, false, false, false, false, false, false, false, false, false] rfl rfl (any_of HT_.out (by kernel_rfl)) (fun _ _ _ h => h) (Or.inl ⟨by rfl, ?_⟩) ?_ ?_
 rotate_left
 ·
  intro w'
  go_simp
  with_reducible rfl
 rotate_left
 ·
  simp only [Act.put, Zs]
  rfl
 refine pure_ (i := 47) (N := some 164) (v := ?_) (a' := ?_) #[true, true, true, true, true, true, true, true, true, true, true, true, true, true, true, true, true, true, true, true, true, true, true, true, true, true, true, true, true, true, true, true, true, true, true, true, true, true, true, true, true, true, true, true, true, true, true, true, false, false, false, false, false, false, false, false, false, false, false, false, false, false, false, false, false, false, false] rfl rfl (any_of HT_.out (by kernel_rfl)) (fun _ _ _ h => h) (Or.inl ⟨by rfl, ?_⟩) ?_ ?_
 rotate_left
 ·
  intro w'
  go_simp
  with_reducible rfl
 rotate_left
 ·
  simp only [Act.put, Zs]
  rfl
 refine pure_ (i := 48) (N := some 165) (v := ?_) (a' := ?_) #[true, true, true, true, true, true, true, true, true, true, true, true, true, true, true, true, true, true, true, true, true, true, true, true, true, true, true, true, true, true, true, true, true, true, true, true, true, true, true, true, true, true, true, true, true, true, true, true, true, false, false, false, false, false, false, false, false, false, false, false, false, false, false, false, false, false, false] rfl rfl (any_of HT_.out (by kernel_rfl)) (fun _ _ _ h => h) (Or.inl ⟨by rfl, ?_⟩) ?_ ?_
 rotate_left
 ·
  intro w'
  go_simp
  with_reducible rfl
 rotate_left
 ·
  simp only [Act.put, Zs]
  rfl
 refine pure_ (i := 49) (N := some 166) (v := ?_) (a' := ?_) #[true, true, true, true, true, true, true, true, true, true, true, true, true, true, true, true, true, true, true, true, true, true, true, true, true, true, true, true, true, true, true, true, true, true, true, true, true, true, true, true, true, true, true, true, true, true, true, true, true, true, false, false, false, false, false, false, false, false, false, false, false, false, false, false, false, false, false] rfl rfl (any_of HT_.out (by kernel_rfl)) (fun _ _ _ h => h) (Or.inl ⟨by rfl, ?_⟩) ?_ ?_
 rotate_left
 ·
  intro w'
  go_simp
  with_reducible rfl
 rotate_left
 ·
  simp only [Act.put, Zs]
  rfl
 refine pure_ (i := 50) (N := some 167) (v := ?_) (a' := ?_) #[true, true, true, true, true, true, true, true, true, true, true, true, true, true, true, true, true, true, true, true, true, true, true, true, true, true, true, true, true, true, true, true, true, true, true, true, true, true, true, true, true, true, true, true, true, true, true, true, true, true, true, false, false, false, false, false, false, false, false, false, false, false, false, false, false, false, false] rfl rfl (any_of HT_.out (by kernel_rfl)) (fun _ _ _ h => h) (Or.inl ⟨by rfl, ?_⟩) ?_ ?_
 rotate_left
 ·
  intro w'
  go_simp
  with_reducible rfl
 rotate_left
 ·
  simp only [Act.put, Zs]
  rfl
 refine pure_ (i := 51) (N := some 168) (v := ?_) (a' := ?_) #[true, true, true, true, true, true, true, true, true, true, true, true, true, true, true, true, true, true, true, true, true, true, true, true, true, true, true, true, true, true, true, true, true, true, true, true, true, true, true, true, true, true, true, true, true, true, true, true, true, true, true, true, false, false, false, false, false, false, false, false, false, false, false, false, false, false, false] rfl rfl (any_of HT_.out (by kernel_rfl)) (fun _ _ _ h => h) (Or.inl ⟨by rfl, ?_⟩) ?_ ?_
 rotate_left
 ·
  intro w'
  go_simp
  with_reducible rfl
 rotate_left
 ·
  simp only [Act.put, Zs]
  rfl
 refine pure_ (i := 52) (N := some 169) (v := ?_) (a' := ?_) #[true, true, true, true, true, true, true, true, true, true, true, true, true, true, true, true, true, true, true, true, true, true, true, true, true, true, true, true, true, true, true, true, true, true, true, true, true, true, true, true, true, true, true, true, true, true, true, true, true, true, true, true, true, false, false, false, false, false, false, false, false, false, false, false, false, false, false] rfl rfl (any_of HT_.out (by kernel_rfl)) (fun _ _ _ h => h) (Or.inl ⟨by rfl, ?_⟩) ?_ ?_
 rotate_left
 ·
  intro w'
  go_simp
  with_reducible rfl
 rotate_left
 ·
  simp only [Act.put, Zs]
  rfl
 refine pure_ (i := 53) (N := some 170) (v := ?_) (a' := ?_) #[true, true, true, true, true, true, true, true, true, true, true, true, true, true, true, true, true, true, true, true, true, true, true, true, true, true, true, true, true, true, true, true, true, true, true, true, true, true, true, true, true, true, true, true, true, true, true, true, true, true, true, true, true, true, false, false, false, false, false, false, false, false, false, false, false, false, false] rfl rfl (any_of HT_.out (by kernel_rfl)) (fun _ _ _ h => h) (Or.inl ⟨by rfl, ?_⟩) ?_ ?_
 rotate_left
 ·
  intro w'
  go_simp
  with_reducible rfl
 rotate_left
 ·
  simp only [Act.put, Zs]
  rfl
 refine pure_ (i := 54) (N := some 171) (v := ?_) (a' := ?_) #[true, true, true, true, true, true, true, true, true, true, true, true, true, true, true, true, true, true, true, true, true, true, true, true, true, true, true, true, true, true, true, true, true, true, true, true, true, true, true, true, true, true, true, true, true, true, true, true, true, true, true, true, true, true, true, false, false, false, false, false, false, false, false, false, false, false, false] rfl rfl (any_of HT_.out (by kernel_rfl)) (fun _ _ _ h => h) (Or.inl ⟨by rfl, ?_⟩) ?_ ?_
 rotate_left
 ·
  intro w'
  go_simp
  with_reducible rfl
 rotate_left
 ·
  simp only [Act.put, Zs]
  rfl
 refine pure_ (i := 58) (N := some 175) (v := ?_) (a' := ?_) #[true, true, true, true, true, true, true, true, true, true, true, true, true, true, true, true, true, true, true, true, true, true, true, true, true, true, true, true, true, true, true, true, true, true, true, true, true, true, true, true, true, true, true, true, true, true, true, true, true, true, true, true, true, true, true, false, false, false, true, false, false, false, false, false, false, false, false] rfl rfl (any_of HT_.out (by kernel_rfl)) (fun _ _ _ h => h) (Or.inl ⟨by rfl, ?_⟩) ?_ ?_
 rotate_left
 ·
  intro w'
  go_simp
  with_reducible rfl
 rotate_left
 ·
  simp only [Act.put, Zs]
  rfl
 refine pure_ (i := 59) (N := some 176) (v := ?_) (a' := ?_) #[true, true, true, true, true, true, true, true, true, true, true, true, true, true, true, true, true, true, true, true, true, true, true, true, true, true, true, true, true, true, true, true, true, true, true, true, true, true, true, true, true, true, true, true, true, true, true, true, true, true, true, true, true, true, true, false, false, false, true, true, false, false, false, false, false, false, false] rfl rfl (any_of HT_.out (by kernel_rfl)) (fun _ _ _ h => h) (Or.inl ⟨by rfl, ?_⟩) ?_ ?_
 rotate_left
 ·
  intro w'
  go_simp
  with_reducible rfl
 rotate_left
 ·
  simp only [Act.put, Zs]
  rfl
 refine pure_ (i := 60) (N := some 177) (v := ?_) (a' := ?_) #[true, true, true, true, true, true, true, true, true, true, true, true, true, true, true, true, true, true, true, true, true, true, true, true, true, true, true, true, true, true, true, true, true, true, true, true, true, true, true, true, true, true, true, true, true, true, true, true, true, true, true, true, true, true, true, false, false, false, true, true, true, false, false, false, false, false, false] rfl rfl (any_of HT_.out (by kernel_rfl)) (fun _ _ _ h => h) (Or.inl ⟨by rfl, ?_⟩) ?_ ?_
 rotate_left
 ·
  intro w'
  go_simp
  with_reducible rfl
 rotate_left
 ·
  simp only [Act.put, Zs]
  rfl
 refine take_ (i := 55) (N := some 172) (v := ?_) (a' := ?_) #[true, true, true, true, true, true, true, true, true, true, true, true, true, true, true, true, true, true, true, true, true, true, true, true, true, true, true, true, true, true, true, true, true, true, true, true, true, true, true, true, true, true, true, true, true, true, true, true, true, true, true, true, true, true, true, true, false, false, true, true, true, false, false, false, false, false, false] rfl rfl (take_ofW HT_.out HW_.out (by kernel_rfl)) (fun _ _ _ h => h) (Or.inl ⟨by rfl, ?_⟩) hHeld ?_ ?_
 rotate_left
 ·
  rintro w' ⟨s0, s1⟩
  go_simp
  with_reducible rfl
 rotate_left
 ·
  simp only [Act.put, Zs]
  rfl
 refine take_ (i := 61) (N := some 178) (v := ?_) (a' := ?_) #[true, true, true, true, true, true, true, true, true, true, true, true, true, true, true, true, true, true, true, true, true, true, true, true, true, true, true, true, true, true, true, true, true, true, true, true, true, true, true, true, true, true, true, true, true, true, true, true, true, true, true, true, true, true, true, true, false, false, true, true, true, true, false, false, false, false, false] rfl rfl (take_ofW HT_.out HW_.out (by kernel_rfl)) (fun _ _ _ h => h) (Or.inl ⟨by rfl, ?_⟩) hHeld ?_ ?_
 rotate_left
 ·
  rintro w' ⟨s0, s1⟩
  go_simp
  with_reducible rfl
 rotate_left
 ·
  simp only [Act.put, Zs]
  rfl
 have n_ := ZM (Kd.V_mono (ok' := (fun k_ => (P3_0_ k_ ∨ w.heap.size ≤ k_))) HO3_0.out (fun k_ hk => hk.1))
 clear HO3_0
 have HO3_0 := n_
 clear n_
 refine join_ (σ := Value × Value) 4 #[true, true, true, true, true, true, true, true, true, true, true, true, true, true, true, true, true, true, true, true, true, true, true, true, true, true, true, true, true, true, true, true, true, true, true, true, true, true, true, true, true, true, true, true, true, true, true, true, true, true, true, true, true, true, true, true, true, true, true, true, true, true, true, false, false, false, false] (fun s_ => [(173, s_.1), (174, .int .i64 t414), (179, s_.2)]) (fun s_ w' => (w'.cell? ⟨gb370, 0, none⟩ = some (.slice A3_0 l3_0.length c3_0) ∧ w'.cell? ⟨gb370, 1, none⟩ = some (.int .i64 a3_1)) ∧ (Kd.V (Kd.int .i64) 2 w' w.heap.size (fun k_ => (P3_0_ k_ ∨ w.heap.size ≤ k_)) (.slice A3_0 l3_0.length c3_0) l3_0) ∧ (Kd.N k24 24 w' w.heap.size (fun k_ => (P3_0_ k_ ∨ w.heap.size ≤ k_)) s_.1 y411) ∧ (Kd.N k24 24 w' w.heap.size (fun k_ => (P3_0_ k_ ∨ w.heap.size ≤ k_)) s_.2 y415) ∧ (w'.heap[gb370]? = some (.cells #[.slice A3_0 l3_0.length c3_0, .int .i64 a3_1] 24 (0, 0))) ∧ (Below w.heap.size w w')) ?_ ?_
 rotate_left
 ·
  intro hCont
  refine two_ (i := 56) (j := 62) (Ni := some 173) (Nj := some 179) #[true, true, true, true, true, true, true, true, true, true, true, true, true, true, true, true, true, true, true, true, true, true, true, true, true, true, true, true, true, true, true, true, true, true, true, true, true, true, true, true, true, true, true, true, true, true, true, true, true, true, true, true, true, true, true, true, true, false, true, true, true, true, false, false, false, false, false] #[true, true, true, true, true, true, true, true, true, true, true, true, true, true, true, true, true, true, true, true, true, true, true, true, true, true, true, true, true, true, true, true, true, true, true, true, true, true, true, true, true, true, true, true, true, true, true, true, true, true, true, true, true, true, true, true, false, false, true, true, true, true, true, false, false, false, false] rfl rfl rfl rfl (two_of HT_.out (by kernel_rfl)) (by decide) (by decide) (fun K hK => ?_) (fun K hK => ?_)
  ·
   skip
   refine Kd.N_lit_step k24 _ 24 ?hg (N' := 173) ?hd (xs := ([(⟨l3_0, a3_1⟩ : S24)] : List (S24))) (inner := [.slice A3_0 l3_0.length c3_0, .int .i64 a3_1]) (ok := (fun k_ => (P3_0_ k_ ∨ w.heap.size ≤ k_))) (okp := (fun k_ => (P3_0_ k_ ∨ w.heap.size ≤ k_))) ?hr ?hp (fun _ hk => hk) ((show ∀ k_, w62.heap.size ≤ k_ → (fun k_ => (P3_0_ k_ ∨ w.heap.size ≤ k_)) k_ from fun k_ hk => (.inr (Nat.le_trans (zzS Z4) hk))) _ (Nat.le_refl _)) (Below.refl _ _) (Nat.le_refl _) (by simp) ?_; (case hd => rfl); (case hg => rfl); (case hr => exact Z10); (case hp => exact (Reps.c2 (show Kd.FK k24 _ _ (⟨l3_0, a3_1⟩ : S24) [.slice A3_0 l3_0.length c3_0, .int .i64 a3_1] from (k24_mkF _ _ (⟨l3_0, a3_1⟩ : S24) (Kd.V_reads' HO3_0.out).2.1 (Kd.V_F (base := w.heap.size) (e := 2) HO3_0.out))) (Reps.none _ _)))
   intro v412 w63 ho64 hb hg_ hnew_
   clear hg_ hnew_
   (first | rw [← Ny411.out] at ho64 | (simp only [Int.reduceToNat] at ho64; rw [← Ny411.out] at ho64))
   have n0_ := ZM (Kd.V_below Z7 hb)
   have n8_ := ZM (Kd.N_lower ho64 (zzS Z4))
   have n9_ := ZM (blk_below (g := gb370) (o := .cells #[.slice A3_0 l3_0.length c3_0, .int .i64 a3_1] 24 (0, 0)) (Zk BK370) hb)
   have n10_ := ZM (zzT Z4 hb)
   clear HO3_0
   clear BK370
   clear HB
   have HO3_0 := n0_
   have HO413 := n8_
   have BK370 := n9_
   have HB := n10_
   clear n0_ n8_ n9_ n10_
   clear hb ho64
   obtain ⟨Ao65, co65, eo65⟩ := Kd.N_slice HO413.out
   (first | subst eo65 | (injection eo65 with f1_ f2_ f3_; have f4_ := f1_.symm; have f5_ := f3_.symm; clear f1_ f2_ f3_; subst f4_; subst f5_))
   refine hK.out _ _ ⟨(blk_cell BK370.out 0).trans rfl, (blk_cell BK370.out 1).trans rfl⟩ (fun hHeld => ?_)
   clear hK K
   refine norm_ (a' := ?_) ?_ ?_
   rotate_left
   ·
    show Act.put _ (some 173) _ = _
    simp only [Act.put, Zs]
    rfl
   refine two_ (i := 57) (j := 62) (Ni := some 174) (Nj := some 179) #[true, true, true, true, true, true, true, true, true, true, true, true, true, true, true, true, true, true, true, true, true, true, true, true, true, true, true, true, true, true, true, true, true, true, true, true, true, true, true, true, true, true, true, true, true, true, true, true, true, true, true, true, true, true, true, true, true, true, true, true, true, true, false, false, false, false, false] #[true, true, true, true, true, true, true, true, true, true, true, true, true, true, true, true, true, true, true, true, true, true, true, true, true, true, true, true, true, true, true, true, true, true, true, true, true, true, true, true, true, true, true, true, true, true, true, true, true, true, true, true, true, true, true, true, true, false, true, true, true, true, true, false, false, false, false] rfl rfl rfl rfl (two_of HT_.out (by kernel_rfl)) (by decide) (by decide) (fun K hK => ?_) (fun K hK => ?_)
   ·
    skip
    refine goes_ Try.func18 (by kernel_rfl) rfl #[.int .i64 a0, .int .i64 a1, .slice A2 l2.length c2, .slice Ao65 y411.length co65] (by rfl) rfl rfl Z2 ?_
    with_reducible refine (soft_Check.calls a0 a1 _ _ l2 _ _ y411 t414 _ ?side1 ?side2 ?side3 ?side4 A33.out).mono ?_
    (case side1 => exact Z8)
    (case side2 => exact HC2.out)
    (case side3 => exact Z35)
    (case side4 => exact (Kd.N_reads' HO413.out).2.1)
    rintro e w66 ⟨rfl, hb⟩
    refine ⟨_, rfl, ?_⟩
    have n0_ := ZM (Kd.V_below Z7 hb)
    have n8_ := ZM (Kd.N_below Z20 hb)
    have n9_ := ZM (blk_below (g := gb370) (o := .cells #[.slice A3_0 l3_0.length c3_0, .int .i64 a3_1] 24 (0, 0)) (Zk BK370) hb)
    have n10_ := ZM (zzT Z4 hb)
    clear HO3_0
    clear HO413
    clear BK370
    clear HB
    have HO3_0 := n0_
    have HO413 := n8_
    have BK370 := n9_
    have HB := n10_
    clear n0_ n8_ n9_ n10_
    (try clear hb)
    (try clear hb2)
    (try clear hk)
    (try clear hi)
    refine hK.out _ _ ⟨(blk_cell BK370.out 0).trans rfl, (blk_cell BK370.out 1).trans rfl⟩ (fun hHeld => ?_)
    clear hK K
    refine norm_ (a' := ?_) ?_ ?_
    rotate_left
    ·
     show Act.put _ (some 174) _ = _
     simp only [Act.put, Zs]
     rfl
    refine one_ (i := 62) (N := some 179) #[true, true, true, true, true, true, true, true, true, true, true, true, true, true, true, true, true, true, true, true, true, true, true, true, true, true, true, true, true, true, true, true, true, true, true, true, true, true, true, true, true, true, true, true, true, true, true, true, true, true, true, true, true, true, true, true, true, true, true, true, true, true, true, false, false, false, false] rfl rfl (one_of HT_.out (by kernel_rfl)) (by decide) (fun K hK => ?_)
    refine Kd.N_lit_step k24 _ 24 ?hg (N' := 179) ?hd (xs := ([(⟨l3_0, a3_1⟩ : S24)] : List (S24))) (inner := [.slice A3_0 l3_0.length c3_0, .int .i64 a3_1]) (ok := (fun k_ => (P3_0_ k_ ∨ w.heap.size ≤ k_))) (okp := (fun k_ => (P3_0_ k_ ∨ w.heap.size ≤ k_))) ?hr ?hp (fun _ hk => hk) ((show ∀ k_, w66.heap.size ≤ k_ → (fun k_ => (P3_0_ k_ ∨ w.heap.size ≤ k_)) k_ from fun k_ hk => (.inr (Nat.le_trans (zzS Z4) hk))) _ (Nat.le_refl _)) (Below.refl _ _) (Nat.le_refl _) (by simp) ?_; (case hd => rfl); (case hg => rfl); (case hr => exact Z10); (case hp => exact (Reps.c2 (show Kd.FK k24 _ _ (⟨l3_0, a3_1⟩ : S24) [.slice A3_0 l3_0.length c3_0, .int .i64 a3_1] from (k24_mkF _ _ (⟨l3_0, a3_1⟩ : S24) (Kd.V_reads' HO3_0.out).2.1 (Kd.V_F (base := w.heap.size) (e := 2) HO3_0.out))) (Reps.none _ _)))
    intro v416 w67 ho68 hb hg_ hnew_
    clear hg_ hnew_
    (first | rw [← Ny415.out] at ho68 | (simp only [Int.reduceToNat] at ho68; rw [← Ny415.out] at ho68))
    have n0_ := ZM (Kd.V_below Z7 hb)
    have n8_ := ZM (Kd.N_below Z20 hb)
    have n9_ := ZM (Kd.N_lower ho68 (zzS Z4))
    have n10_ := ZM (blk_below (g := gb370) (o := .cells #[.slice A3_0 l3_0.length c3_0, .int .i64 a3_1] 24 (0, 0)) (Zk BK370) hb)
    have n11_ := ZM (zzT Z4 hb)
    clear HO3_0
    clear HO413
    clear BK370
    clear HB
    have HO3_0 := n0_
    have HO413 := n8_
    have HO417 := n9_
    have BK370 := n10_
    have HB := n11_
    clear n0_ n8_ n9_ n10_ n11_
    clear hb ho68
    refine hK.out _ _ ⟨(blk_cell BK370.out 0).trans rfl, (blk_cell BK370.out 1).trans rfl⟩ (fun hHeld => ?_)
    clear hK K
    refine norm_ (a' := ?_) ?_ ?_
    rotate_left
    ·
     show Act.put _ (some 179) _ = _
     simp only [Act.put, Zs]
     rfl
    exact norm_ (by simp only [putAll, Act.put, Zt]) (hCont (.slice Ao65 y411.length co65, v416) _ ⟨hHeld, Z7, Z20, Z26, (Zk BK370), Z4⟩)
   skip
   refine Kd.N_lit_step k24 _ 24 ?hg (N' := 179) ?hd (xs := ([(⟨l3_0, a3_1⟩ : S24)] : List (S24))) (inner := [.slice A3_0 l3_0.length c3_0, .int .i64 a3_1]) (ok := (fun k_ => (P3_0_ k_ ∨ w.heap.size ≤ k_))) (okp := (fun k_ => (P3_0_ k_ ∨ w.heap.size ≤ k_))) ?hr ?hp (fun _ hk => hk) ((show ∀ k_, w63.heap.size ≤ k_ → (fun k_ => (P3_0_ k_ ∨ w.heap.size ≤ k_)) k_ from fun k_ hk => (.inr (Nat.le_trans (zzS Z4) hk))) _ (Nat.le_refl _)) (Below.refl _ _) (Nat.le_refl _) (by simp) ?_; (case hd => rfl); (case hg => rfl); (case hr => exact Z10); (case hp => exact (Reps.c2 (show Kd.FK k24 _ _ (⟨l3_0, a3_1⟩ : S24) [.slice A3_0 l3_0.length c3_0, .int .i64 a3_1] from (k24_mkF _ _ (⟨l3_0, a3_1⟩ : S24) (Kd.V_reads' HO3_0.out).2.1 (Kd.V_F (base := w.heap.size) (e := 2) HO3_0.out))) (Reps.none _ _)))
   intro v416 w65 ho66 hb hg_ hnew_
   clear hg_ hnew_
   (first | rw [← Ny415.out] at ho66 | (simp only [Int.reduceToNat] at ho66; rw [← Ny415.out] at ho66))
   have n0_ := ZM (Kd.V_below Z7 hb)
   have n8_ := ZM (Kd.N_below Z20 hb)
   have n9_ := ZM (Kd.N_lower ho66 (zzS Z4))
   have n10_ := ZM (blk_below (g := gb370) (o := .cells #[.slice A3_0 l3_0.length c3_0, .int .i64 a3_1] 24 (0, 0)) (Zk BK370) hb)
   have n11_ := ZM (zzT Z4 hb)
   clear HO3_0
   clear HO413
   clear BK370
   clear HB
   have HO3_0 := n0_
   have HO413 := n8_
   have HO417 := n9_
   have BK370 := n10_
   have HB := n11_
   clear n0_ n8_ n9_ n10_ n11_
   clear hb ho66
   obtain ⟨Ao67, co67, eo67⟩ := Kd.N_slice HO413.out
   (first | subst eo67 | (injection eo67 with f1_ f2_ f3_; have f4_ := f1_.symm; have f5_ := f3_.symm; clear f1_ f2_ f3_; subst f4_; subst f5_))
   refine hK.out _ _ ⟨(blk_cell BK370.out 0).trans rfl, (blk_cell BK370.out 1).trans rfl⟩ (fun hHeld => ?_)
   clear hK K
   refine norm_ (a' := ?_) ?_ ?_
   rotate_left
   ·
    show Act.put _ (some 179) _ = _
    simp only [Act.put, Zs]
    rfl
   refine one_ (i := 57) (N := some 174) #[true, true, true, true, true, true, true, true, true, true, true, true, true, true, true, true, true, true, true, true, true, true, true, true, true, true, true, true, true, true, true, true, true, true, true, true, true, true, true, true, true, true, true, true, true, true, true, true, true, true, true, true, true, true, true, true, true, true, true, true, true, true, true, false, false, false, false] rfl rfl (one_of HT_.out (by kernel_rfl)) (by decide) (fun K hK => ?_)
   refine goes_ Try.func18 (by kernel_rfl) rfl #[.int .i64 a0, .int .i64 a1, .slice A2 l2.length c2, .slice Ao67 y411.length co67] (by rfl) rfl rfl Z2 ?_
   with_reducible refine (soft_Check.calls a0 a1 _ _ l2 _ _ y411 t414 _ ?side1 ?side2 ?side3 ?side4 A33.out).mono ?_
   (case side1 => exact Z8)
   (case side2 => exact HC2.out)
   (case side3 => exact Z35)
   (case side4 => exact (Kd.N_reads' HO413.out).2.1)
   rintro e w68 ⟨rfl, hb⟩
   refine ⟨_, rfl, ?_⟩
   have n0_ := ZM (Kd.V_below Z7 hb)
   have n8_ := ZM (Kd.N_below Z20 hb)
   have n9_ := ZM (Kd.N_below Z26 hb)
   have n10_ := ZM (blk_below (g := gb370) (o := .cells #[.slice A3_0 l3_0.length c3_0, .int .i64 a3_1] 24 (0, 0)) (Zk BK370) hb)
   have n11_ := ZM (zzT Z4 hb)
   clear HO3_0
   clear HO413
   clear HO417
   clear BK370
   clear HB
   have HO3_0 := n0_
   have HO413 := n8_
   have HO417 := n9_
   have BK370 := n10_
   have HB := n11_
   clear n0_ n8_ n9_ n10_ n11_
   (try clear hb)
   (try clear hb2)
   (try clear hk)
   (try clear hi)
   refine hK.out _ _ ⟨(blk_cell BK370.out 0).trans rfl, (blk_cell BK370.out 1).trans rfl⟩ (fun hHeld => ?_)
   clear hK K
   refine norm_ (a' := ?_) ?_ ?_
   rotate_left
   ·
    show Act.put _ (some 174) _ = _
    simp only [Act.put, Zs]
    rfl
   exact norm_ (by simp only [putAll, Act.put, Zt]) (hCont (.slice Ao67 y411.length co67, v416) _ ⟨hHeld, Z7, Z20, Z26, (Zk BK370), Z4⟩)
  skip
  refine Kd.N_lit_step k24 _ 24 ?hg (N' := 179) ?hd (xs := ([(⟨l3_0, a3_1⟩ : S24)] : List (S24))) (inner := [.slice A3_0 l3_0.length c3_0, .int .i64 a3_1]) (ok := (fun k_ => (P3_0_ k_ ∨ w.heap.size ≤ k_))) (okp := (fun k_ => (P3_0_ k_ ∨ w.heap.size ≤ k_))) ?hr ?hp (fun _ hk => hk) ((show ∀ k_, w62.heap.size ≤ k_ → (fun k_ => (P3_0_ k_ ∨ w.heap.size ≤ k_)) k_ from fun k_ hk => (.inr (Nat.le_trans (zzS Z4) hk))) _ (Nat.le_refl _)) (Below.refl _ _) (Nat.le_refl _) (by simp) ?_; (case hd => rfl); (case hg => rfl); (case hr => exact Z10); (case hp => exact (Reps.c2 (show Kd.FK k24 _ _ (⟨l3_0, a3_1⟩ : S24) [.slice A3_0 l3_0.length c3_0, .int .i64 a3_1] from (k24_mkF _ _ (⟨l3_0, a3_1⟩ : S24) (Kd.V_reads' HO3_0.out).2.1 (Kd.V_F (base := w.heap.size) (e := 2) HO3_0.out))) (Reps.none _ _)))
  intro v416 w63 ho64 hb hg_ hnew_
  clear hg_ hnew_
  (first | rw [← Ny415.out] at ho64 | (simp only [Int.reduceToNat] at ho64; rw [← Ny415.out] at ho64))
  have n0_ := ZM (Kd.V_below Z7 hb)
  have n8_ := ZM (Kd.N_lower ho64 (zzS Z4))
  have n9_ := ZM (blk_below (g := gb370) (o := .cells #[.slice A3_0 l3_0.length c3_0, .int .i64 a3_1] 24 (0, 0)) (Zk BK370) hb)
  have n10_ := ZM (zzT Z4 hb)
  clear HO3_0
  clear BK370
  clear HB
  have HO3_0 := n0_
  have HO417 := n8_
  have BK370 := n9_
  have HB := n10_
  clear n0_ n8_ n9_ n10_
  clear hb ho64
  refine hK.out _ _ ⟨(blk_cell BK370.out 0).trans rfl, (blk_cell BK370.out 1).trans rfl⟩ (fun hHeld => ?_)
  clear hK K
  refine norm_ (a' := ?_) ?_ ?_
  rotate_left
  ·
   show Act.put _ (some 179) _ = _
   simp only [Act.put, Zs]
   rfl
  refine one_ (i := 56) (N := some 173) #[true, true, true, true, true, true, true, true, true, true, true, true, true, true, true, true, true, true, true, true, true, true, true, true, true, true, true, true, true, true, true, true, true, true, true, true, true, true, true, true, true, true, true, true, true, true, true, true, true, true, true, true, true, true, true, true, true, false, true, true, true, true, true, false, false, false, false] rfl rfl (one_of HT_.out (by kernel_rfl)) (by decide) (fun K hK => ?_)
  refine Kd.N_lit_step k24 _ 24 ?hg (N' := 173) ?hd (xs := ([(⟨l3_0, a3_1⟩ : S24)] : List (S24))) (inner := [.slice A3_0 l3_0.length c3_0, .int .i64 a3_1]) (ok := (fun k_ => (P3_0_ k_ ∨ w.heap.size ≤ k_))) (okp := (fun k_ => (P3_0_ k_ ∨ w.heap.size ≤ k_))) ?hr ?hp (fun _ hk => hk) ((show ∀ k_, w63.heap.size ≤ k_ → (fun k_ => (P3_0_ k_ ∨ w.heap.size ≤ k_)) k_ from fun k_ hk => (.inr (Nat.le_trans (zzS Z4) hk))) _ (Nat.le_refl _)) (Below.refl _ _) (Nat.le_refl _) (by simp) ?_; (case hd => rfl); (case hg => rfl); (case hr => exact Z10); (case hp => exact (Reps.c2 (show Kd.FK k24 _ _ (⟨l3_0, a3_1⟩ : S24) [.slice A3_0 l3_0.length c3_0, .int .i64 a3_1] from (k24_mkF _ _ (⟨l3_0, a3_1⟩ : S24) (Kd.V_reads' HO3_0.out).2.1 (Kd.V_F (base := w.heap.size) (e := 2) HO3_0.out))) (Reps.none _ _)))
  intro v412 w65 ho66 hb hg_ hnew_
  clear hg_ hnew_
  (first | rw [← Ny411.out] at ho66 | (simp only [Int.reduceToNat] at ho66; rw [← Ny411.out] at ho66))
  have n0_ := ZM (Kd.V_below Z7 hb)
  have n8_ := ZM (Kd.N_below Z26 hb)
  have n9_ := ZM (Kd.N_lower ho66 (zzS Z4))
  have n10_ := ZM (blk_below (g := gb370) (o := .cells #[.slice A3_0 l3_0.length c3_0, .int .i64 a3_1] 24 (0, 0)) (Zk BK370) hb)
  have n11_ := ZM (zzT Z4 hb)
  clear HO3_0
  clear HO417
  clear BK370
  clear HB
  have HO3_0 := n0_
  have HO417 := n8_
  have HO413 := n9_
  have BK370 := n10_
  have HB := n11_
  clear n0_ n8_ n9_ n10_ n11_
  clear hb ho66
  obtain ⟨Ao67, co67, eo67⟩ := Kd.N_slice HO413.out
  (first | subst eo67 | (injection eo67 with f1_ f2_ f3_; have f4_ := f1_.symm; have f5_ := f3_.symm; clear f1_ f2_ f3_; subst f4_; subst f5_))
  refine hK.out _ _ ⟨(blk_cell BK370.out 0).trans rfl, (blk_cell BK370.out 1).trans rfl⟩ (fun hHeld => ?_)
  clear hK K
  refine norm_ (a' := ?_) ?_ ?_
  rotate_left
  ·
   show Act.put _ (some 173) _ = _
   simp only [Act.put, Zs]
   rfl
  refine one_ (i := 57) (N := some 174) #[true, true, true, true, true, true, true, true, true, true, true, true, true, true, true, true, true, true, true, true, true, true, true, true, true, true, true, true, true, true, true, true, true, true, true, true, true, true, true, true, true, true, true, true, true, true, true, true, true, true, true, true, true, true, true, true, true, true, true, true, true, true, true, false, false, false, false] rfl rfl (one_of HT_.out (by kernel_rfl)) (by decide) (fun K hK => ?_)
  refine goes_ Try.func18 (by kernel_rfl) rfl #[.int .i64 a0, .int .i64 a1, .slice A2 l2.length c2, .slice Ao67 y411.length co67] (by rfl) rfl rfl Z2 ?_
  with_reducible refine (soft_Check.calls a0 a1 _ _ l2 _ _ y411 t414 _ ?side1 ?side2 ?side3 ?side4 A33.out).mono ?_
  (case side1 => exact Z8)
  (case side2 => exact HC2.out)
  (case side3 => exact Z35)
  (case side4 => exact (Kd.N_reads' HO413.out).2.1)
  rintro e w68 ⟨rfl, hb⟩
  refine ⟨_, rfl, ?_⟩
  have n0_ := ZM (Kd.V_below Z7 hb)
  have n8_ := ZM (Kd.N_below Z26 hb)
  have n9_ := ZM (Kd.N_below Z20 hb)
  have n10_ := ZM (blk_below (g := gb370) (o := .cells #[.slice A3_0 l3_0.length c3_0, .int .i64 a3_1] 24 (0, 0)) (Zk BK370) hb)
  have n11_ := ZM (zzT Z4 hb)
  clear HO3_0
  clear HO417
  clear HO413
  clear BK370
  clear HB
  have HO3_0 := n0_
  have HO417 := n8_
  have HO413 := n9_
  have BK370 := n10_
  have HB := n11_
  clear n0_ n8_ n9_ n10_ n11_
  (try clear hb)
  (try clear hb2)
  (try clear hk)
  (try clear hi)
  refine hK.out _ _ ⟨(blk_cell BK370.out 0).trans rfl, (blk_cell BK370.out 1).trans rfl⟩ (fun hHeld => ?_)
  clear hK K
  refine norm_ (a' := ?_) ?_ ?_
  rotate_left
  ·
   show Act.put _ (some 174) _ = _
   simp only [Act.put, Zs]
   rfl
  exact norm_ (by simp only [putAll, Act.put, Zt]) (hCont (.slice Ao67 y411.length co67, v416) _ ⟨hHeld, Z7, Z20, Z26, (Zk BK370), Z4⟩)
 rintro ⟨v412, v416⟩ w69 ⟨hS_, h6_, h8_, h9_, h10_, h11_⟩
 have n6_ : Aside0 (Kd.V (Kd.int .i64) 2 w69 w.heap.size (fun k_ => (P3_0_ k_ ∨ w.heap.size ≤ k_)) (.slice A3_0 l3_0.length c3_0) l3_0) := ⟨h6_⟩
 have n8_ : Aside0 (Kd.N k24 24 w69 w.heap.size (fun k_ => (P3_0_ k_ ∨ w.heap.size ≤ k_)) v412 y411) := ⟨h8_⟩
 have n9_ : Aside0 (Kd.N k24 24 w69 w.heap.size (fun k_ => (P3_0_ k_ ∨ w.heap.size ≤ k_)) v416 y415) := ⟨h9_⟩
 have n10_ : Aside0 (w69.heap[gb370]? = some (.cells #[.slice A3_0 l3_0.length c3_0, .int .i64 a3_1] 24 (0, 0))) := ⟨h10_⟩
 have n11_ : Aside0 (Below w.heap.size w w69) := ⟨h11_⟩
 clear HO3_0
 clear BK370
 clear HB
 clear h6_ h8_ h9_ h10_ h11_
 have HO3_0 := n6_
 have HO413 := n8_
 have HO417 := n9_
 have BK370 := n10_
 have HB := n11_
 clear n6_ n8_ n9_ n10_ n11_
 have hHeld : w69.cell? ⟨gb370, 0, none⟩ = some (.slice A3_0 l3_0.length c3_0) ∧ w69.cell? ⟨gb370, 1, none⟩ = some (.int .i64 a3_1) := hS_
 obtain ⟨Ao70, co70, eo70⟩ := Kd.N_slice HO417.out
 (first | subst eo70 | (injection eo70 with f1_ f2_ f3_; have f4_ := f1_.symm; have f5_ := f3_.symm; clear f1_ f2_ f3_; subst f4_; subst f5_))
 refine norm_ (a' := ?_) ?_ ?_
 rotate_left
 ·
  simp only [putAll, Act.put, Zt]
  rfl
 refine one_ (i := 63) (N := some 180) #[true, true, true, true, true, true, true, true, true, true, true, true, true, true, true, true, true, true, true, true, true, true, true, true, true, true, true, true, true, true, true, true, true, true, true, true, true, true, true, true, true, true, true, true, true, true, true, true, true, true, true, true, true, true, true, true, true, true, true, true, true, true, true, true, false, false, false] rfl rfl (one_of HT_.out (by kernel_rfl)) (by decide) (fun K hK => ?_)
 refine goes_ Try.func19 (by kernel_rfl) rfl #[.int .i64 a0, .int .i64 a1, .slice A2 l2.length c2, .slice Ao70 y415.length co70] (by rfl) rfl rfl Z2 ?_
 with_reducible refine (thrumref15_Check.calls a0 a1 _ _ l2 _ _ y415 t418 _ ?side1 ?side2 ?side3 ?side4 A34.out).mono ?_
 (case side1 => exact Z8)
 (case side2 => exact HC2.out)
 (case side3 => repeat (first | exact (Kd.N_reads' HO417.out).2.2 | (with_reducible refine ccA ?_ _) | (with_reducible refine ccN ?_ _) | (with_reducible refine ccD ?_)))
 (case side4 => exact (Kd.N_reads' HO417.out).2.1)
 rintro e w71 ⟨rfl, hb⟩
 refine ⟨_, rfl, ?_⟩
 have n0_ := ZM (Kd.V_below Z7 hb)
 have n8_ := ZM (Kd.N_below Z20 hb)
 have n9_ := ZM (Kd.N_below Z26 hb)
 have n10_ := ZM (blk_below (g := gb370) (o := .cells #[.slice A3_0 l3_0.length c3_0, .int .i64 a3_1] 24 (0, 0)) (Zk BK370) hb)
 have n11_ := ZM (zzT Z4 hb)
 clear HO3_0
 clear HO413
 clear HO417
 clear BK370
 clear HB
 have HO3_0 := n0_
 have HO413 := n8_
 have HO417 := n9_
 have BK370 := n10_
 have HB := n11_
 clear n0_ n8_ n9_ n10_ n11_
 (try clear hb)
 (try clear hb2)
 (try clear hk)
 (try clear hi)
 refine hK.out _ _ ⟨(blk_cell BK370.out 0).trans rfl, (blk_cell BK370.out 1).trans rfl⟩ (fun hHeld => ?_)
 clear hK K
 refine norm_ (a' := ?_) ?_ ?_
 rotate_left
 ·
  show Act.put _ (some 180) _ = _
  simp only [Act.put, Zs]
  rfl
 refine pure_ (i := 64) (N := some 181) (v := ?_) (a' := ?_) #[true, true, true, true, true, true, true, true, true, true, true, true, true, true, true, true, true, true, true, true, true, true, true, true, true, true, true, true, true, true, true, true, true, true, true, true, true, true, true, true, true, true, true, true, true, true, true, true, true, true, true, true, true, true, true, true, true, true, true, true, true, true, true, true, true, false, false] rfl rfl (any_of HT_.out (by kernel_rfl)) (fun _ _ _ h => h) (Or.inl ⟨by rfl, ?_⟩) ?_ ?_
 rotate_left
 ·
  intro w'
  go_simp
  with_reducible rfl
 rotate_left
 ·
  simp only [Act.put, Zs]
  rfl
 refine pure_ (i := 65) (N := some 182) (v := ?_) (a' := ?_) #[true, true, true, true, true, true, true, true, true, true, true, true, true, true, true, true, true, true, true, true, true, true, true, true, true, true, true, true, true, true, true, true, true, true, true, true, true, true, true, true, true, true, true, true, true, true, true, true, true, true, true, true, true, true, true, true, true, true, true, true, true, true, true, true, true, true, false] rfl rfl (any_of HT_.out (by kernel_rfl)) (fun _ _ _ h => h) (Or.inl ⟨by rfl, ?_⟩) ?_ ?_
 rotate_left
 ·
  intro w'
  go_simp
  with_reducible rfl
 rotate_left
 ·
  simp only [Act.put, Zs]
  rfl
 refine pure_ (i := 66) (N := some 10) (v := ?_) (a' := ?_) #[true, true, true, true, true, true, true, true, true, true, true, true, true, true, true, true, true, true, true, true, true, true, true, true, true, true, true, true, true, true, true, true, true, true, true, true, true, true, true, true, true, true, true, true, true, true, true, true, true, true, true, true, true, true, true, true, true, true, true, true, true, true, true, true, true, true, true] rfl rfl (any_of HT_.out (by kernel_rfl)) (fun _ _ _ h => h) (Or.inl ⟨by rfl, ?_⟩) ?_ ?_
 rotate_left
 ·
  intro w'
  go_simp
  with_reducible rfl
 rotate_left
 ·
  simp only [Act.put, Zs]
  rfl
 refine done_ (done_of HT_.out (by kernel_rfl)) ?_
 try go_wp2
 go_ret
 exact ⟨by first | rfl | (simp [errW_none, errW_some] <;> rfl) | (simp [*, errW_none, errW_some] <;> rfl), by repeat (first | (with_reducible first | exact HB.out | apply zzA | apply zzN | apply zzD | refine below_set ?_ GE370.out) | exact HB.out)⟩
end Go.Proofs.Ytihgcjagokippaa.HS
