/- What Go functions do, each as a plain Lean function with the same answers, and the proof of it, in every world: printed by the session's driver over the kit's print, with texts by hand. -/
import Derived.Test.YtihgcjagokippaaHSx0
import Derived.Test.YtihgcjagokippaaHSx1
import Derived.Test.YtihgcjagokippaaHSx8
import Derived.Test.YtihgcjagokippaaHSx9
import Derived.Test.YtihgcjagokippaaMini
namespace Go.Proofs.Ytihgcjagokippaa.HS
open Go.RowKit Go.Proofs.YtihgcjagokippaaW.PrintWords Go.Proofs.YtihgcjagokippaaW.PrintLast Go.Proofs.YtihgcjagokippaaW.PrintMore
attribute [local go_sem] max2_int min2_int max_two min_two max_three min_three max_four min_four   -- for this text's walks alone
open Go.Proofs.Ytihgcjagokippaa.Sp
attribute [local go_sem] Go.Proofs.Ytihgcjagokippaa.Sp.u64_not
set_option linter.unusedVariables false
set_option linter.unusedSimpArgs false

/-! ### thrumref14_TellP: function 41 -/
def thrumref14_TellP.f (l0 : List Int) (l1 : List Int) (a2 : Int) : Option (Int × Int) := (thrumref14_Check.f (l1.length : Int) l0 (([(⟨l1, 0⟩ : S24)] : List (S24)))).bind fun t282 => (if t282 = 0 then (if 0 ≤ (l1.length : Int) then (if (l1.length : Int) ≤ (l0.length : Int) then ((thrumref02_Dot.f (l0.take ((l1.length : Int) : Int).toNat) l1 a2).bind fun bt284 => (if bt284.2 = 0 then (if (l1.length : Int) < (l0.length : Int) then ((thrumref01_Add.f bt284.1 (rd l0 (l1.length : Int))).bind fun bt287 => (some (bt287.1, bt287.2))) else (none)) else (some (0, bt284.2)))) else (none)) else (none)) else (some (0, t282)))
set_option maxHeartbeats 8000000 in
set_option maxRecDepth 100000 in
theorem thrumref14_TellP.calls (A0 : Option Addr) (c0 : Nat) (l0 : List Int) (P1_ : Nat → Prop) (A1 : Option Addr) (c1 : Nat) (l1 : List Int) (a2 : Int) (r1 : Int) (r2 : Int) (w : World) (hr0 : Kd.C (Kd.int .i64) w A0 l0.length l0) (hc0 : l0.length ≤ c0) (hs1 : Kd.V (Kd.int .i64) 2 w w.heap.size (fun k_ => P1_ k_) (.slice A1 l1.length c1) l1) (h : thrumref14_TellP.f l0 l1 a2 = some (r1, r2)) :
  Calls Try.prog 41 #[.slice A0 l0.length c0, .slice A1 l1.length c1, .int .i64 a2] w fun e w' => e = .returned (.tuple #[.int .i64 r1, .int .i64 r2]) ∧ Below w.heap.size w w' := by
 have hu24 := Try.underlying24
 have HR0 := ZM hr0
 have HC0 := ZM hc0
 clear hr0 hc0
 have HO1 := ZM (show Kd.V (Kd.int .i64) 2 w w.heap.size (fun k_ => (P1_ k_ ∨ w.heap.size ≤ k_)) (.slice A1 l1.length c1) l1 from Kd.V_mono hs1 (fun k_ hk => .inl hk))
 have HB := ZM (Below.refl w.heap.size w)
 have H : ((thrumref14_Check.f (l1.length : Int) l0 (([(⟨l1, 0⟩ : S24)] : List (S24)))).bind fun t282 => (if t282 = 0 then (if 0 ≤ (l1.length : Int) then (if (l1.length : Int) ≤ (l0.length : Int) then ((thrumref02_Dot.f (l0.take ((l1.length : Int) : Int).toNat) l1 a2).bind fun bt284 => (if bt284.2 = 0 then (if (l1.length : Int) < (l0.length : Int) then ((thrumref01_Add.f bt284.1 (rd l0 (l1.length : Int))).bind fun bt287 => (some (bt287.1, bt287.2))) else (none)) else (some (0, bt284.2)))) else (none)) else (none)) else (some (0, t282)))) = some (r1, r2) := h
 clear h
 obtain ⟨y279, hy279⟩ : ∃ y_ : List (S24), y_ = (([(⟨l1, 0⟩ : S24)] : List (S24))) := ⟨_, rfl⟩
 replace H : ((thrumref14_Check.f (l1.length : Int) l0 y279).bind fun t282 => (if t282 = 0 then (if 0 ≤ (l1.length : Int) then (if (l1.length : Int) ≤ (l0.length : Int) then ((thrumref02_Dot.f (l0.take ((l1.length : Int) : Int).toNat) l1 a2).bind fun bt284 => (if bt284.2 = 0 then (if (l1.length : Int) < (l0.length : Int) then ((thrumref01_Add.f bt284.1 (rd l0 (l1.length : Int))).bind fun bt287 => (some (bt287.1, bt287.2))) else (none)) else (some (0, bt284.2)))) else (none)) else (none)) else (some (0, t282)))) = some (r1, r2) := by first | (rw [hy279]; with_reducible exact H) | (have H2_ := (Option.bind_some _ _).symm.trans H; rw [hy279]; with_reducible exact H2_) | (have H2_ := (Option.bind_some _ _).symm.trans H; with_reducible exact H2_) | with_reducible exact H | (rw [hy279]; exact H) | exact H
 have Ny279 := ZM hy279
 clear hy279
 replace H := Option.bind_eq_some_iff.mp H
 obtain ⟨t282, A40, H⟩ := H
 replace H : (if t282 = 0 then (if 0 ≤ (l1.length : Int) then (if (l1.length : Int) ≤ (l0.length : Int) then ((thrumref02_Dot.f (l0.take ((l1.length : Int) : Int).toNat) l1 a2).bind fun bt284 => (if bt284.2 = 0 then (if (l1.length : Int) < (l0.length : Int) then ((thrumref01_Add.f bt284.1 (rd l0 (l1.length : Int))).bind fun bt287 => (some (bt287.1, bt287.2))) else (none)) else (some (0, bt284.2)))) else (none)) else (none)) else (some (0, t282))) = some (r1, r2) := H
 have A4 := ZM A40
 clear A40
 by_cases c5 : t282 = 0
 case neg =>
  rw [if_neg c5] at H
  have c5b0 : (t282 == 0) = false := beq_eq_false_iff_ne.mpr c5
  have c5b1 : (t282 != 0) = true := bne_iff_ne.mpr c5
  simp only [Option.some.injEq, Prod.mk.injEq] at H
  obtain ⟨rfl, rfl⟩ := H
  go_enter Try.func41, Try.ntmps41
  go_wp2_with (first | ((with_reducible refine gate_dst (N := 16) rfl ?_); refine Kd.N_lit k24 _ 24 ?hg (N' := 16) ?hd (xs := ([(⟨l1, 0⟩ : S24)] : List (S24))) (inner := [.slice A1 l1.length c1, .int .i64 0]) (ok := (fun k_ => (P1_ k_ ∨ w.heap.size ≤ k_))) (okp := (fun k_ => (P1_ k_ ∨ w.heap.size ≤ k_))) ?hr ?hp (fun _ hk => hk) ((show ∀ k_, w.heap.size ≤ k_ → (fun k_ => (P1_ k_ ∨ w.heap.size ≤ k_)) k_ from fun k_ hk => (.inr (Nat.le_trans (zzS Z1) hk))) _ (Nat.le_refl _)) (Below.refl _ _) (Nat.le_refl _) (by simp) ?_; (case hd => rfl); (case hg => rfl); (case hr => exact Z10); (case hp => exact (Reps.c2 (show Kd.FK k24 _ _ (⟨l1, 0⟩ : S24) [.slice A1 l1.length c1, .int .i64 0] from (k24_mkF _ _ (⟨l1, 0⟩ : S24) (Kd.V_reads' (Kd.V_mono (ok' := (fun k_ => (P1_ k_ ∨ w.heap.size ≤ k_))) (HO1.out) (fun k_ hk => hk))).2.1 (Kd.V_F (Kd.V_mono (ok' := (fun k_ => (P1_ k_ ∨ w.heap.size ≤ k_))) (HO1.out) (fun k_ hk => hk))))) (Reps.none _ _))); intro v280 w22 ho23 hb hg_ hnew_; clear hg_ hnew_; (first | rw [← Ny279.out] at ho23 | (simp only [Int.reduceToNat] at ho23; rw [← Ny279.out] at ho23)); replace HO1 := ZM (Kd.V_elder' Z11 (Kd.N_base ho23) hb); have HO281 := ZM (Kd.N_lower ho23 (zzS Z1)); replace HB := ZM (zzT Z1 hb); clear hb ho23; obtain ⟨Ao24, co24, eo24⟩ := Kd.N_slice HO281.out; subst eo24) | ((with_reducible refine gate_callee (f := 62) rfl ?_); refine goesL_ (some 17) rfl rfl Try.func62 (by kernel_rfl) rfl #[.int .i64 (l1.length : Int), .slice A0 l0.length c0, .slice Ao24 y279.length co24] rfl Z2 ?_; (with_reducible refine (thrumref14_Check.calls (l1.length : Int) _ _ l0 _ _ y279 t282 _ ?side1 ?side2 ?side3 ?side4 A4.out).mono ?_); (case side1 => exact Z18); (case side2 => exact HC0.out); (case side3 => exact Z34); (case side4 => exact (Kd.N_reads' HO281.out).2.1); rintro e w25 ⟨rfl, hb⟩; refine ⟨_, rfl, ?_⟩; replace HO1 := ZM (Kd.V_below Z11 hb); replace HO281 := ZM (Kd.N_below Z42 hb); replace HB := ZM (zzT Z1 hb); (try clear hb); (try clear hb2); (try clear hk); (try clear hi)))
  go_ret2
  exact ⟨by first | rfl | (simp [errW_none, errW_some] <;> rfl) | (simp [*, errW_none, errW_some] <;> rfl), by repeat (first | (with_reducible first | exact HB.out | apply zzA | apply zzN | apply zzD) | exact HB.out)⟩
 rw [if_pos c5] at H
 have c5b0 : (t282 == 0) = true := beq_iff_eq.mpr c5
 have c5b1 : (t282 != 0) = false := bne_eq_false_iff_eq.mpr c5
 clear c5
 by_cases c6 : 0 ≤ (l1.length : Int)
 case neg =>
  rw [if_neg c6] at H
  exact absurd H (by simp)
 rw [if_pos c6] at H
 have c6b0 := eq_true c6
 have c6b1 : decide (0 ≤ (l1.length : Int)) = true := decide_eq_true c6
 clear c6
 by_cases c7 : (l1.length : Int) ≤ (l0.length : Int)
 case neg =>
  rw [if_neg c7] at H
  exact absurd H (by simp)
 rw [if_pos c7] at H
 have c7b0 := eq_true c7
 have c7b1 : decide ((l1.length : Int) ≤ (l0.length : Int)) = true := decide_eq_true c7
 clear c7
 replace H := Option.bind_eq_some_iff.mp H
 obtain ⟨⟨t284, t285⟩, A80, H⟩ := H
 replace H : (if t285 = 0 then (if (l1.length : Int) < (l0.length : Int) then ((thrumref01_Add.f t284 (rd l0 (l1.length : Int))).bind fun bt287 => (some (bt287.1, bt287.2))) else (none)) else (some (0, t285))) = some (r1, r2) := H
 have A8 := ZM A80
 clear A80
 by_cases c9 : t285 = 0
 case neg =>
  rw [if_neg c9] at H
  have c9b0 : (t285 == 0) = false := beq_eq_false_iff_ne.mpr c9
  have c9b1 : (t285 != 0) = true := bne_iff_ne.mpr c9
  simp only [Option.some.injEq, Prod.mk.injEq] at H
  obtain ⟨rfl, rfl⟩ := H
  go_enter Try.func41, Try.ntmps41
  go_wp2_with (first | ((with_reducible refine gate_dst (N := 16) rfl ?_); refine Kd.N_lit k24 _ 24 ?hg (N' := 16) ?hd (xs := ([(⟨l1, 0⟩ : S24)] : List (S24))) (inner := [.slice A1 l1.length c1, .int .i64 0]) (ok := (fun k_ => (P1_ k_ ∨ w.heap.size ≤ k_))) (okp := (fun k_ => (P1_ k_ ∨ w.heap.size ≤ k_))) ?hr ?hp (fun _ hk => hk) ((show ∀ k_, w.heap.size ≤ k_ → (fun k_ => (P1_ k_ ∨ w.heap.size ≤ k_)) k_ from fun k_ hk => (.inr (Nat.le_trans (zzS Z1) hk))) _ (Nat.le_refl _)) (Below.refl _ _) (Nat.le_refl _) (by simp) ?_; (case hd => rfl); (case hg => rfl); (case hr => exact Z10); (case hp => exact (Reps.c2 (show Kd.FK k24 _ _ (⟨l1, 0⟩ : S24) [.slice A1 l1.length c1, .int .i64 0] from (k24_mkF _ _ (⟨l1, 0⟩ : S24) (Kd.V_reads' (Kd.V_mono (ok' := (fun k_ => (P1_ k_ ∨ w.heap.size ≤ k_))) (HO1.out) (fun k_ hk => hk))).2.1 (Kd.V_F (Kd.V_mono (ok' := (fun k_ => (P1_ k_ ∨ w.heap.size ≤ k_))) (HO1.out) (fun k_ hk => hk))))) (Reps.none _ _))); intro v280 w17 ho18 hb hg_ hnew_; clear hg_ hnew_; (first | rw [← Ny279.out] at ho18 | (simp only [Int.reduceToNat] at ho18; rw [← Ny279.out] at ho18)); replace HO1 := ZM (Kd.V_elder' Z11 (Kd.N_base ho18) hb); have HO281 := ZM (Kd.N_lower ho18 (zzS Z1)); replace HB := ZM (zzT Z1 hb); clear hb ho18; obtain ⟨Ao19, co19, eo19⟩ := Kd.N_slice HO281.out; subst eo19) | ((with_reducible refine gate_callee (f := 62) rfl ?_); refine goesL_ (some 17) rfl rfl Try.func62 (by kernel_rfl) rfl #[.int .i64 (l1.length : Int), .slice A0 l0.length c0, .slice Ao19 y279.length co19] rfl Z2 ?_; (with_reducible refine (thrumref14_Check.calls (l1.length : Int) _ _ l0 _ _ y279 t282 _ ?side1 ?side2 ?side3 ?side4 A4.out).mono ?_); (case side1 => exact Z18); (case side2 => exact HC0.out); (case side3 => exact Z34); (case side4 => exact (Kd.N_reads' HO281.out).2.1); rintro e w20 ⟨rfl, hb⟩; refine ⟨_, rfl, ?_⟩; replace HO1 := ZM (Kd.V_below Z11 hb); replace HO281 := ZM (Kd.N_below Z42 hb); replace HB := ZM (zzT Z1 hb); (try clear hb); (try clear hb2); (try clear hk); (try clear hi); obtain ⟨i021, hi021, _, hsz21, _⟩ := info_parts info2; obtain ⟨hcut21, hA21, hC21⟩ := print_take_of (P := Try.prog) (Value.int .i64) 0 22 2 .i64 Try.underlying22 hi021 hsz21 A0 c0 l0 (l1.length : Int) (of_decide_eq_true Z3) (of_decide_eq_true Z3) HC0.out; have HR283 := ZM (Kd.C_of_reads (h1 := fun _ => rfl) (hA21 _ (Kd.reads_of_C HR0.out))); have HC283 := ZM hC21; clear hA21 hC21 hi021 hsz21) | ((with_reducible refine gate_callee (f := 63) rfl ?_); refine goesL_ (some 28) rfl rfl Try.func63 (by kernel_rfl) rfl #[.slice A0 (l0.take ((l1.length : Int) : Int).toNat).length c0, .slice A1 l1.length c1, .int .i64 a2] rfl Z13 ?_; (with_reducible refine (thrumref02_Dot.calls _ _ (l0.take ((l1.length : Int) : Int).toNat) _ _ l1 a2 t284 t285 _ ?side1 ?side2 ?side3 ?side4 A8.out).mono ?_); (case side1 => exact Z45); (case side2 => exact HC283.out); (case side3 => exact Z31); (case side4 => exact (Kd.V_reads' HO1.out).2.1); rintro e w' ⟨rfl, ⟨nd, rfl⟩⟩; refine ⟨_, rfl, ?_⟩))
  go_ret2
  exact ⟨by first | rfl | (simp [errW_none, errW_some] <;> rfl) | (simp [*, errW_none, errW_some] <;> rfl), by repeat (first | (with_reducible first | exact HB.out | apply zzA | apply zzN | apply zzD) | exact HB.out)⟩
 rw [if_pos c9] at H
 have c9b0 : (t285 == 0) = true := beq_iff_eq.mpr c9
 have c9b1 : (t285 != 0) = false := bne_eq_false_iff_eq.mpr c9
 clear c9
 by_cases c10 : (l1.length : Int) < (l0.length : Int)
 case neg =>
  rw [if_neg c10] at H
  exact absurd H (by simp)
 rw [if_pos c10] at H
 have c10b0 : decide ((l1.length : Int) < (l0.length : Int)) = true := decide_eq_true c10
 have c10b1 : decide (l1.length < l0.length) = true := decide_eq_true (Int.ofNat_lt.mp c10)
 clear c10
 replace H := Option.bind_eq_some_iff.mp H
 obtain ⟨⟨t287, t288⟩, A110, H⟩ := H
 replace H : (some (t287, t288)) = some (r1, r2) := H
 have A11 := ZM A110
 clear A110
 simp only [Option.some.injEq, Prod.mk.injEq] at H
 obtain ⟨rfl, rfl⟩ := H
 go_enter Try.func41, Try.ntmps41
 go_wp2_with (first | ((with_reducible refine gate_dst (N := 16) rfl ?_); refine Kd.N_lit k24 _ 24 ?hg (N' := 16) ?hd (xs := ([(⟨l1, 0⟩ : S24)] : List (S24))) (inner := [.slice A1 l1.length c1, .int .i64 0]) (ok := (fun k_ => (P1_ k_ ∨ w.heap.size ≤ k_))) (okp := (fun k_ => (P1_ k_ ∨ w.heap.size ≤ k_))) ?hr ?hp (fun _ hk => hk) ((show ∀ k_, w.heap.size ≤ k_ → (fun k_ => (P1_ k_ ∨ w.heap.size ≤ k_)) k_ from fun k_ hk => (.inr (Nat.le_trans (zzS Z1) hk))) _ (Nat.le_refl _)) (Below.refl _ _) (Nat.le_refl _) (by simp) ?_; (case hd => rfl); (case hg => rfl); (case hr => exact Z10); (case hp => exact (Reps.c2 (show Kd.FK k24 _ _ (⟨l1, 0⟩ : S24) [.slice A1 l1.length c1, .int .i64 0] from (k24_mkF _ _ (⟨l1, 0⟩ : S24) (Kd.V_reads' (Kd.V_mono (ok' := (fun k_ => (P1_ k_ ∨ w.heap.size ≤ k_))) (HO1.out) (fun k_ hk => hk))).2.1 (Kd.V_F (Kd.V_mono (ok' := (fun k_ => (P1_ k_ ∨ w.heap.size ≤ k_))) (HO1.out) (fun k_ hk => hk))))) (Reps.none _ _))); intro v280 w12 ho13 hb hg_ hnew_; clear hg_ hnew_; (first | rw [← Ny279.out] at ho13 | (simp only [Int.reduceToNat] at ho13; rw [← Ny279.out] at ho13)); replace HO1 := ZM (Kd.V_elder' Z11 (Kd.N_base ho13) hb); have HO281 := ZM (Kd.N_lower ho13 (zzS Z1)); replace HB := ZM (zzT Z1 hb); clear hb ho13; obtain ⟨Ao14, co14, eo14⟩ := Kd.N_slice HO281.out; subst eo14) | ((with_reducible refine gate_callee (f := 62) rfl ?_); refine goesL_ (some 17) rfl rfl Try.func62 (by kernel_rfl) rfl #[.int .i64 (l1.length : Int), .slice A0 l0.length c0, .slice Ao14 y279.length co14] rfl Z2 ?_; (with_reducible refine (thrumref14_Check.calls (l1.length : Int) _ _ l0 _ _ y279 t282 _ ?side1 ?side2 ?side3 ?side4 A4.out).mono ?_); (case side1 => exact Z18); (case side2 => exact HC0.out); (case side3 => exact Z34); (case side4 => exact (Kd.N_reads' HO281.out).2.1); rintro e w15 ⟨rfl, hb⟩; refine ⟨_, rfl, ?_⟩; replace HO1 := ZM (Kd.V_below Z11 hb); replace HO281 := ZM (Kd.N_below Z42 hb); replace HB := ZM (zzT Z1 hb); (try clear hb); (try clear hb2); (try clear hk); (try clear hi); obtain ⟨i016, hi016, _, hsz16, _⟩ := info_parts info2; obtain ⟨hcut16, hA16, hC16⟩ := print_take_of (P := Try.prog) (Value.int .i64) 0 22 2 .i64 Try.underlying22 hi016 hsz16 A0 c0 l0 (l1.length : Int) (of_decide_eq_true Z3) (of_decide_eq_true Z3) HC0.out; have HR283 := ZM (Kd.C_of_reads (h1 := fun _ => rfl) (hA16 _ (Kd.reads_of_C HR0.out))); have HC283 := ZM hC16; clear hA16 hC16 hi016 hsz16) | ((with_reducible refine gate_callee (f := 63) rfl ?_); refine goesL_ (some 28) rfl rfl Try.func63 (by kernel_rfl) rfl #[.slice A0 (l0.take ((l1.length : Int) : Int).toNat).length c0, .slice A1 l1.length c1, .int .i64 a2] rfl Z13 ?_; (with_reducible refine (thrumref02_Dot.calls _ _ (l0.take ((l1.length : Int) : Int).toNat) _ _ l1 a2 t284 t285 _ ?side1 ?side2 ?side3 ?side4 A8.out).mono ?_); (case side1 => exact Z45); (case side2 => exact HC283.out); (case side3 => exact Z31); (case side4 => exact (Kd.V_reads' HO1.out).2.1); rintro e w' ⟨rfl, ⟨nd, rfl⟩⟩; refine ⟨_, rfl, ?_⟩; have p286 : 0 ≤ ((l1.length : Int) : Int) := of_decide_eq_true Z3; have q286 : (l1.length : Int) < (l0.length : Int) := of_decide_eq_true Z3; obtain ⟨ad286, e286, hx286_0⟩ := Kd.at_int HR0.out (l1.length : Int) p286 q286; cases e286; replace hx286_0 := (HB.out.cell (World.block_lt_of_cell? w _ hx286_0)).trans hx286_0; (try simp only [Go.IntWalk.toNatUp] at hx286_0); replace p286 := eq_true p286; replace q286 := eq_true q286) | ((with_reducible refine gate_callee (f := 64) rfl ?_); refine goesL_ (some 40) rfl rfl Try.func64 (by kernel_rfl) rfl #[.int .i64 t284, .int .i64 (rd l0 (l1.length : Int))] rfl Z2 ?_; (with_reducible refine (thrumref01_Add.calls t284 (rd l0 (l1.length : Int)) t287 t288 _ A11.out).mono ?_); rintro e w' ⟨rfl, ⟨nd, rfl⟩⟩; refine ⟨_, rfl, ?_⟩))
 go_ret2
 exact ⟨by first | rfl | (simp [errW_none, errW_some] <;> rfl) | (simp [*, errW_none, errW_some] <;> rfl), by repeat (first | (with_reducible first | exact HB.out | apply zzA | apply zzN | apply zzD) | exact HB.out)⟩
def thrumref14_Tell.f (l0 l1 : List Int) (a2 : Int) : Option (Int × Int) := if V64 l0 ∧ V64 l1 then some (tellL l0 l1 a2) else none
theorem thrumref14_Tell.of (l0 l1 : List Int) (a2 : Int)  (h_ : V64 l0 ∧ V64 l1) : thrumref14_Tell.f l0 l1 a2 = some (tellL l0 l1 a2) := if_pos h_
theorem thrumref14_TellP.is (l0 l1 : List Int) (a2 : Int) (h0 : V64 l0) (h1 : V64 l1) : thrumref14_TellP.f l0 l1 a2 = some (tellL l0 l1 a2) := by
  unfold thrumref14_TellP.f tellL thrumref14_Check.f
  simp only [Option.bind_some, List.map_cons, List.map_nil, sm]
  by_cases c : checkL l1.length l0 [(l1, 0)] = 0
  · rw [if_pos c, if_pos c]
    obtain ⟨c1, c2, c3, -, -, -⟩ := checkL_len c
    rw [if_pos (by omega), if_pos (by omega), Int.toNat_natCast, thrumref02_Dot.of _ _ _ ⟨fun x hx => h0 x (List.mem_of_mem_take hx), h1⟩]
    simp only [Option.bind_some]
    by_cases d : (dotV (l0.take l1.length) l1 a2).2 = 0
    · rw [if_pos d, if_pos d, if_pos (by omega), thrumref01_Add.of _ _ ⟨dotV_i64 _ _ _, h0.rd _⟩]; rfl
    · rw [if_neg d, if_neg d]
  · rw [if_neg c, if_neg c]
theorem thrumref14_Tell.calls (A0 : Option Addr) (c0 : Nat) (l0 : List Int) (P1_ : Nat → Prop) (A1 : Option Addr) (c1 : Nat) (l1 : List Int) (a2 : Int) (r1 : Int) (r2 : Int) (w : World) (hr0 : Kd.C (Kd.int .i64) w A0 l0.length l0) (hc0 : l0.length ≤ c0) (hs1 : Kd.V (Kd.int .i64) 2 w w.heap.size (fun k_ => P1_ k_) (.slice A1 l1.length c1) l1) (h : thrumref14_Tell.f l0 l1 a2 = some (r1, r2)) :
    Calls Try.prog 41 #[.slice A0 l0.length c0, .slice A1 l1.length c1, .int .i64 a2] w fun e w' => e = .returned (.tuple #[.int .i64 r1, .int .i64 r2]) ∧ Below w.heap.size w w' := by
  unfold thrumref14_Tell.f at h
  split at h
  case isFalse => cases h
  rename_i hv
  exact thrumref14_TellP.calls A0 c0 l0 P1_ A1 c1 l1 a2 r1 r2 w hr0 hc0 hs1 ((thrumref14_TellP.is l0 l1 a2 hv.1 hv.2).trans h)


/-! ### thrumref15_linesP: function 23 -/
mutual
def thrumref15_linesP.j0 : Nat → List Int → Int → List (List Int) → Bool → Option (List Int × Int)
 | 0, _, _, _, _ => none
 | k + 1, x2, x3, x10, x39 => if x39 = true then (some (([] : List Int), 1)) else (thrumref15_linesP.l0 k x2 x3 ([] : List Int) x10 (x10.length : Int) 0)
def thrumref15_linesP.l0 : Nat → List Int → Int → List Int → List (List Int) → Int → Int → Option (List Int × Int)
 | 0, _, _, _, _, _, _ => none
 | k + 1, x2, x3, x12, x40, x41, x42 => if x42 < x41 then (if 0 ≤ x42 then (if x42 < (x40.length : Int) then ((thrumref14_Tell.f (rd_L1 x40 x42) x2 x3).bind fun bt295 => (if bt295.2 = 0 then (if x12.length < 17592186044416 then (thrumref15_linesP.l0 k x2 x3 (x12 ++ [bt295.1]) x40 x41 (wrap64 (x42 + 1))) else (none)) else (some (([] : List Int), bt295.2)))) else (none)) else (none)) else (some (x12, 0))
end
def thrumref15_linesP.f (k : Nat) (a0 : Int) (l1 : List Int) (l2 : List Int) (a3 : Int) : Option (List Int × Int) := (thrumref15_Rows.f a0 l1).bind fun bt289 => (if bt289.2 = 0 then (if 0 < (bt289.1.length : Int) then (if ((rd_L1 bt289.1 0).length : Int) = (wrap64 ((l2.length : Int) + 1)) then (if a3 < 0 then (thrumref15_linesP.j0 k l2 a3 bt289.1 true) else (thrumref15_linesP.j0 k l2 a3 bt289.1 (decide (a3 > 30)))) else (some (([] : List Int), 4))) else (none)) else (some (([] : List Int), bt289.2)))
theorem thrumref15_linesP.mono_l : ∀ k, (∀ y0 y1 y2 y3, LeO (thrumref15_linesP.j0 k y0 y1 y2 y3) (thrumref15_linesP.j0 (k + 1) y0 y1 y2 y3)) ∧ (∀ y0 y1 y2 y3 y4 y5, LeO (thrumref15_linesP.l0 k y0 y1 y2 y3 y4 y5) (thrumref15_linesP.l0 (k + 1) y0 y1 y2 y3 y4 y5))
 | 0 => ⟨fun _ _ _ _ r h => by simp [thrumref15_linesP.j0] at h, fun _ _ _ _ _ _ r h => by simp [thrumref15_linesP.l0] at h⟩
 | k + 1 => by
  obtain ⟨ih0, ih1⟩ := thrumref15_linesP.mono_l k
  refine ⟨?_, ?_⟩
  ·
   intro y0 y1 y2 y3
   unfold thrumref15_linesP.j0
   repeat' first
   | (with_reducible exact ih0 _ _ _ _)
   | (with_reducible exact ih1 _ _ _ _ _ _)
   | (with_reducible exact LeO.refl _)
   | (with_reducible exact LeO.none _)
   | (with_reducible refine LeO.ite ?_ ?_)
   | (with_reducible refine LeO.bind ?_ (fun _ => ?_))
  ·
   intro y0 y1 y2 y3 y4 y5
   unfold thrumref15_linesP.l0
   repeat' first
   | (with_reducible exact ih0 _ _ _ _)
   | (with_reducible exact ih1 _ _ _ _ _ _)
   | (with_reducible exact LeO.refl _)
   | (with_reducible exact LeO.none _)
   | (with_reducible refine LeO.ite ?_ ?_)
   | (with_reducible refine LeO.bind ?_ (fun _ => ?_))
theorem thrumref15_linesP.mono : ∀ a0 a1 a2 a3 k, LeO (thrumref15_linesP.f k a0 a1 a2 a3) (thrumref15_linesP.f (k + 1) a0 a1 a2 a3) := by
 intro a0 a1 a2 a3 k
 obtain ⟨ih0, ih1⟩ := thrumref15_linesP.mono_l k
 unfold thrumref15_linesP.f
 repeat' first
   | (with_reducible exact ih0 _ _ _ _)
   | (with_reducible exact ih1 _ _ _ _ _ _)
   | (with_reducible exact LeO.refl _)
   | (with_reducible exact LeO.none _)
   | (with_reducible refine LeO.ite ?_ ?_)
   | (with_reducible refine LeO.bind ?_ (fun _ => ?_))
set_option maxHeartbeats 8000000 in
set_option maxRecDepth 100000 in
theorem thrumref15_linesP.calls (k : Nat) (a0 : Int) (A1 : Option Addr) (c1 : Nat) (l1 : List Int) (A2 : Option Addr) (c2 : Nat) (l2 : List Int) (a3 : Int) (r1 : List Int) (r2 : Int) (w : World) (hr1 : Kd.C (Kd.int .i64) w A1 l1.length l1) (hc1 : l1.length ≤ c1) (hr2 : Kd.C (Kd.int .i64) w A2 l2.length l2) (hc2 : l2.length ≤ c2) (h : thrumref15_linesP.f k a0 l1 l2 a3 = some (r1, r2)) :
  Calls Try.prog 23 #[.int .i64 a0, .slice A1 l1.length c1, .slice A2 l2.length c2, .int .i64 a3] w fun e w' => ∃ v0_ : Value, e = .returned (.tuple #[v0_, .int .i64 r2]) ∧ Kd.R (Kd.int .i64) 2 w' w.heap.size (fun _ => True) v0_ r1 ∧ Below w.heap.size w w' := by
 have HR1 := ZM hr1
 have HC1 := ZM hc1
 clear hr1 hc1
 have HR2 := ZM hr2
 have HC2 := ZM hc2
 clear hr2 hc2
 have HB := ZM (Below.refl w.heap.size w)
 have H : ((thrumref15_Rows.f a0 l1).bind fun bt289 => (if bt289.2 = 0 then (if 0 < (bt289.1.length : Int) then (if ((rd_L1 bt289.1 0).length : Int) = (wrap64 ((l2.length : Int) + 1)) then (if a3 < 0 then (thrumref15_linesP.j0 k l2 a3 bt289.1 true) else (thrumref15_linesP.j0 k l2 a3 bt289.1 (decide (a3 > 30)))) else (some (([] : List Int), 4))) else (none)) else (some (([] : List Int), bt289.2)))) = some (r1, r2) := h
 clear h
 replace H := Option.bind_eq_some_iff.mp H
 obtain ⟨⟨t289, t290⟩, A50, H⟩ := H
 replace H : (if t290 = 0 then (if 0 < (t289.length : Int) then (if ((rd_L1 t289 0).length : Int) = (wrap64 ((l2.length : Int) + 1)) then (if a3 < 0 then (thrumref15_linesP.j0 k l2 a3 t289 true) else (thrumref15_linesP.j0 k l2 a3 t289 (decide (a3 > 30)))) else (some (([] : List Int), 4))) else (none)) else (some (([] : List Int), t290))) = some (r1, r2) := H
 have A5 := ZM A50
 clear A50
 by_cases c6 : t290 = 0
 case neg =>
  rw [if_neg c6] at H
  have c6b0 : (t290 == 0) = false := beq_eq_false_iff_ne.mpr c6
  have c6b1 : (t290 != 0) = true := bne_iff_ne.mpr c6
  simp only [Option.some.injEq, Prod.mk.injEq] at H
  obtain ⟨rfl, rfl⟩ := H
  go_enter Try.func23, Try.ntmps23
  go_wp2_with (first | ((with_reducible refine gate_callee (f := 13) rfl ?_); refine goesL_ (some 20) rfl rfl Try.func13 (by kernel_rfl) rfl #[.int .i64 a0, .slice A1 l1.length c1] rfl Z2 ?_; (with_reducible refine (thrumref15_Rows.calls a0 _ _ l1 t289 t290 _ ?side1 ?side2 A5.out).mono ?_); (case side1 => exact Z6); (case side2 => exact HC1.out); rintro e w25 ⟨v291, rfl, ho0, hb⟩; refine ⟨_, rfl, ?_⟩; have HO292 := ZM (Kd.S_lower ho0 (zzS Z1)); replace HB := ZM (zzT Z1 hb); (try clear hb); (try clear hb2); (try clear hk); (try clear hi); (try clear ho0)))
  go_ret2
  exact ⟨_, by first | rfl | (simp [errW_none, errW_some] <;> rfl) | (simp [*, errW_none, errW_some] <;> rfl), by first | exact Kd.R_nil _ _ _ _ _ | exact Kd.N_nil _ _ _ _ _ | exact Kd.V_nil _ _ _ _ _ | exact Kd.Q_nil _ _ _ _ _ | exact Kd.S_nil _ _ _ _ _, by repeat (first | (with_reducible first | exact HB.out | apply zzA | apply zzN | apply zzD) | exact HB.out)⟩
 rw [if_pos c6] at H
 have c6b0 : (t290 == 0) = true := beq_iff_eq.mpr c6
 have c6b1 : (t290 != 0) = false := bne_eq_false_iff_eq.mpr c6
 clear c6
 by_cases c7 : 0 < (t289.length : Int)
 case neg =>
  rw [if_neg c7] at H
  exact absurd H (by simp)
 rw [if_pos c7] at H
 have c7b0 : decide (0 < (t289.length : Int)) = true := decide_eq_true c7
 have c7b1 : decide (0 < t289.length) = true := decide_eq_true (by omega)
 clear c7
 by_cases c8 : ((rd_L1 t289 0).length : Int) = (wrap64 ((l2.length : Int) + 1))
 case neg =>
  rw [if_neg c8] at H
  have c8b0 : (((rd_L1 t289 0).length : Int) == (wrap64 ((l2.length : Int) + 1))) = false := beq_eq_false_iff_ne.mpr c8
  have c8b1 : (((rd_L1 t289 0).length : Int) != (wrap64 ((l2.length : Int) + 1))) = true := bne_iff_ne.mpr c8
  simp only [Option.some.injEq, Prod.mk.injEq] at H
  obtain ⟨rfl, rfl⟩ := H
  go_enter Try.func23, Try.ntmps23
  go_wp2_with (first | ((with_reducible refine gate_callee (f := 13) rfl ?_); refine goesL_ (some 20) rfl rfl Try.func13 (by kernel_rfl) rfl #[.int .i64 a0, .slice A1 l1.length c1] rfl Z2 ?_; (with_reducible refine (thrumref15_Rows.calls a0 _ _ l1 t289 t290 _ ?side1 ?side2 A5.out).mono ?_); (case side1 => exact Z6); (case side2 => exact HC1.out); rintro e w23 ⟨v291, rfl, ho0, hb⟩; refine ⟨_, rfl, ?_⟩; have HO292 := ZM (Kd.S_lower ho0 (zzS Z1)); replace HB := ZM (zzT Z1 hb); (try clear hb); (try clear hb2); (try clear hk); (try clear hi); (try clear ho0); obtain ⟨Ao24, co24, eo24⟩ := Kd.S_slice HO292.out; subst eo24; have p293 : 0 ≤ (0 : Int) := (by omega); have q293 : 0 < (t289.length : Int) := of_decide_eq_true Z3; obtain ⟨ad293, A293_0, c293_0, e293, hx293_0, hl293_0, hi293_0⟩ := at_L1 (Kd.S_reads' HO292.out).2.2 0 p293 q293; cases e293; obtain ⟨ce293, hce293, hMe293, hcc293⟩ := Kd.S_get HO292.out [] 0 p293 (by first | exact q293 | exact of_decide_eq_true Z3 | (have e_ := (Kd.S_reads' HO292.out).1; omega)); obtain ⟨ve293_0, rfl, ge293_0⟩ := hMe293; have hv293_0 := hcc293 0 _ rfl; rw [Nat.add_zero, show ((Kd.slice 2 (Kd.int .i64))).sz = 1 from rfl, Nat.mul_one] at hv293_0; replace hv293_0 := Option.some.inj (hv293_0.symm.trans hx293_0); rw [hv293_0] at ge293_0; have HL293_0 := ZM (show Kd.R (Kd.int .i64) 2 _ _ _ _ (rd_L1 t289 0) from ge293_0); clear hv293_0 ge293_0; clear hcc293 hce293; have qi293 : (0 < t289.length) = True := eq_true (by omega); (try rw [show ((0 : Int)).toNat = 0 from rfl] at hx293_0); (try rw [Addr.add_zero'] at hx293_0); have HR293_0 := ZM hi293_0; have HC293_0 := ZM hl293_0; clear hi293_0 hl293_0; replace p293 := eq_true p293; replace q293 := eq_true q293))
  go_ret2
  exact ⟨_, by first | rfl | (simp [errW_none, errW_some] <;> rfl) | (simp [*, errW_none, errW_some] <;> rfl), by first | exact Kd.R_nil _ _ _ _ _ | exact Kd.N_nil _ _ _ _ _ | exact Kd.V_nil _ _ _ _ _ | exact Kd.Q_nil _ _ _ _ _ | exact Kd.S_nil _ _ _ _ _, by repeat (first | (with_reducible first | exact HB.out | apply zzA | apply zzN | apply zzD) | exact HB.out)⟩
 rw [if_pos c8] at H
 have c8b0 : (((rd_L1 t289 0).length : Int) == (wrap64 ((l2.length : Int) + 1))) = true := beq_iff_eq.mpr c8
 have c8b1 : (((rd_L1 t289 0).length : Int) != (wrap64 ((l2.length : Int) + 1))) = false := bne_eq_false_iff_eq.mpr c8
 clear c8
 have HC9 := ZM H
 clear H
 go_enter Try.func23, Try.ntmps23
 go_upto_region 6 with (first | ((with_reducible refine gate_callee (f := 13) rfl ?_); refine goesL_ (some 20) rfl rfl Try.func13 (by kernel_rfl) rfl #[.int .i64 a0, .slice A1 l1.length c1] rfl Z2 ?_; (with_reducible refine (thrumref15_Rows.calls a0 _ _ l1 t289 t290 _ ?side1 ?side2 A5.out).mono ?_); (case side1 => exact Z6); (case side2 => exact HC1.out); rintro e w10 ⟨v291, rfl, ho0, hb⟩; refine ⟨_, rfl, ?_⟩; have HO292 := ZM (Kd.S_lower ho0 (zzS Z1)); replace HB := ZM (zzT Z1 hb); (try clear hb); (try clear hb2); (try clear hk); (try clear hi); (try clear ho0); obtain ⟨Ao11, co11, eo11⟩ := Kd.S_slice HO292.out; subst eo11; have p293 : 0 ≤ (0 : Int) := (by omega); have q293 : 0 < (t289.length : Int) := of_decide_eq_true Z3; obtain ⟨ad293, A293_0, c293_0, e293, hx293_0, hl293_0, hi293_0⟩ := at_L1 (Kd.S_reads' HO292.out).2.2 0 p293 q293; cases e293; obtain ⟨ce293, hce293, hMe293, hcc293⟩ := Kd.S_get HO292.out [] 0 p293 (by first | exact q293 | exact of_decide_eq_true Z3 | (have e_ := (Kd.S_reads' HO292.out).1; omega)); obtain ⟨ve293_0, rfl, ge293_0⟩ := hMe293; have hv293_0 := hcc293 0 _ rfl; rw [Nat.add_zero, show ((Kd.slice 2 (Kd.int .i64))).sz = 1 from rfl, Nat.mul_one] at hv293_0; replace hv293_0 := Option.some.inj (hv293_0.symm.trans hx293_0); rw [hv293_0] at ge293_0; have HL293_0 := ZM (show Kd.R (Kd.int .i64) 2 _ _ _ _ (rd_L1 t289 0) from ge293_0); clear hv293_0 ge293_0; clear hcc293 hce293; have qi293 : (0 < t289.length) = True := eq_true (by omega); (try rw [show ((0 : Int)).toNat = 0 from rfl] at hx293_0); (try rw [Addr.add_zero'] at hx293_0); have HR293_0 := ZM hi293_0; have HC293_0 := ZM hl293_0; clear hi293_0 hl293_0; replace p293 := eq_true p293; replace q293 := eq_true q293))
 (try simp only [Act.put, Zt])
 go_cut [39] (fun v39 wc => ∃ (kq : Nat) (x39_8 : Bool), v39 = .bool x39_8 ∧ Aside0 (thrumref15_linesP.j0 kq l2 a3 t289 x39_8 = some (r1, r2)) ∧ Aside0 (kq ≤ k) ∧ Aside0 (Kd.S (Kd.slice 2 (Kd.int .i64)) 22 wc w.heap.size (fun _ => True) (.slice (some ad293) t289.length co11) t289) ∧ Aside0 (Kd.C (Kd.int .i64) wc A293_0 (rd_L1 t289 0).length (rd_L1 t289 0)) ∧ Aside0 (Below w.heap.size w wc))
 case first =>
  have H := HC9.out
  clear HC9
  by_cases c12 : a3 < 0
  case neg =>
   rw [if_neg c12] at H
   have c12b0 : decide (a3 < 0) = false := decide_eq_false c12
   clear c12
   (first | rw [c12b0] | (simp only [i64_w, i32_w]; rw [c12b0]) | skip)
   have H' := ZM H
   clear H
   go_wp2
   go_meet
   case rel => exact ⟨_, (decide (a3 > 30)), Z5, H', ⟨by first | omega | exact Nat.le_refl _⟩, ⟨by (with_reducible repeat (first | apply Kd.S_alloc | apply Kd.S_drewN | apply Kd.S_drew)); exact HO292.out⟩, ⟨by repeat (first | (with_reducible exact HR293_0.out) | (with_reducible refine ccA ?_ _) | (with_reducible refine ccN ?_ _) | (with_reducible refine ccD ?_) | exact HR293_0.out)⟩, ⟨by repeat (first | (with_reducible first | exact HB.out | apply zzA | apply zzN | apply zzD) | exact HB.out)⟩⟩
  rw [if_pos c12] at H
  have c12b0 : decide (a3 < 0) = true := decide_eq_true c12
  clear c12
  (first | rw [c12b0] | (simp only [i64_w, i32_w]; rw [c12b0]) | skip)
  have H' := ZM H
  clear H
  go_wp2
  go_meet
  case rel => exact ⟨_, (true), Z5, H', ⟨by first | omega | exact Nat.le_refl _⟩, ⟨by (with_reducible repeat (first | apply Kd.S_alloc | apply Kd.S_drewN | apply Kd.S_drew)); exact HO292.out⟩, ⟨by repeat (first | (with_reducible exact HR293_0.out) | (with_reducible refine ccA ?_ _) | (with_reducible refine ccN ?_ _) | (with_reducible refine ccD ?_) | exact HR293_0.out)⟩, ⟨by repeat (first | (with_reducible first | exact HB.out | apply zzA | apply zzN | apply zzD) | exact HB.out)⟩⟩
 clear HC9
 try clear c1
 try clear c2
 try clear c6
 try clear c6b0
 try clear c6b1
 try clear c7
 try clear c7b0
 try clear c7b1
 try clear c8
 try clear c8b0
 try clear c8b1
 try clear hx293_0
 try clear p293
 try clear q293
 obtain ⟨kq, x39_8, rfl, HA, HJ8, HO_10, HR293_0, HB⟩ := hcut
 cases kq with
 | zero => exact absurd HA.out (by simp [thrumref15_linesP.j0])
 | succ kj8 =>
  have H := HA.out
  clear HA
  simp only [thrumref15_linesP.j0] at H
  by_cases c13 : x39_8 = true
  ·
   subst c13
   have H1 : (some (([] : List Int), 1)) = some (r1, r2) := by rw [if_pos rfl] at H; exact H
   clear H
   have H := H1
   clear H1
   simp only [Option.some.injEq, Prod.mk.injEq] at H
   obtain ⟨rfl, rfl⟩ := H
   go_wp2
   go_ret2
   exact ⟨_, by first | rfl | (simp [errW_none, errW_some] <;> rfl) | (simp [*, errW_none, errW_some] <;> rfl), by first | exact Kd.R_nil _ _ _ _ _ | exact Kd.N_nil _ _ _ _ _ | exact Kd.V_nil _ _ _ _ _ | exact Kd.Q_nil _ _ _ _ _ | exact Kd.S_nil _ _ _ _ _, by repeat (first | (with_reducible first | exact HB.out | apply zzA | apply zzN | apply zzD) | exact HB.out)⟩
  replace c13 := Bool.eq_false_iff.mpr c13
  subst c13
  have H1 : (thrumref15_linesP.l0 kj8 l2 a3 ([] : List Int) t289 (t289.length : Int) 0) = some (r1, r2) := by rw [if_neg (show ¬ (false = true) by decide)] at H; exact H
  clear H
  have H := H1
  clear H1
  have H' := ZM H
  clear H
  go_wp2
  go_loopg [12, 42] kj8 (fun kq v12 v42 w' => ∃ (x12_2 : List Int) (x42_2 : Int), v42 = .int .i64 x42_2 ∧ Aside0 (thrumref15_linesP.l0 kq l2 a3 x12_2 t289 (t289.length : Int) x42_2 = some (r1, r2)) ∧ Aside0 (kq ≤ kj8) ∧ Aside0 (Kd.R (Kd.int .i64) 2 w' w.heap.size (fun _ => True) v12 x12_2) ∧ Aside0 (Kd.S (Kd.slice 2 (Kd.int .i64)) 22 w' w.heap.size (fun k_ => some k_ ≠ (v12 : Value).ownBlock) (.slice (some ad293) t289.length co11) t289) ∧ Aside0 (Below w.heap.size w w'))
  case atStart => exact ⟨(([] : List Int)), (0), Z5, H', ⟨Nat.le_refl _⟩, ⟨by first | exact Kd.R_nil _ _ _ _ _ | exact Kd.N_nil _ _ _ _ _ | exact Kd.V_nil _ _ _ _ _ | exact Kd.Q_nil _ _ _ _ _ | exact Kd.S_nil _ _ _ _ _⟩, ⟨by (with_reducible repeat (first | apply Kd.S_alloc | apply Kd.S_drewN | apply Kd.S_drew)); exact Kd.S_mono HO_10.out (fun _ hk => (by simp [Value.ownBlock]))⟩, ⟨by repeat (first | (with_reducible first | exact HB.out | apply zzA | apply zzN | apply zzD) | exact HB.out)⟩⟩
  case round =>
   clear H'
   try clear c1
   try clear c2
   try clear c6
   try clear c6b0
   try clear c6b1
   try clear c7
   try clear c7b0
   try clear c7b1
   try clear c8
   try clear c8b0
   try clear c8b1
   try clear c13
   try clear hx293_0
   try clear p293
   try clear q293
   obtain ⟨x12_2, x42_2, rfl, HA, HK2, HO_12, HO_40, HB⟩ := hrel
   cases gk with
   | zero => exact absurd HA.out (by simp [thrumref15_linesP.l0])
   | succ k2 =>
    have H := HA.out
    clear HA
    simp only [thrumref15_linesP.l0] at H
    by_cases c14 : x42_2 < (t289.length : Int)
    case neg =>
     rw [if_neg c14] at H
     have c14b0 : decide (x42_2 < (t289.length : Int)) = false := decide_eq_false c14
     clear c14
     simp only [Option.some.injEq, Prod.mk.injEq] at H
     obtain ⟨rfl, rfl⟩ := H
     go_wp2
     go_ret2
     exact ⟨_, by first | rfl | (simp [errW_none, errW_some] <;> rfl) | (simp [*, errW_none, errW_some] <;> rfl), by (with_reducible repeat (first | apply rrA | apply rrN | apply rrD)); exact HO_12.out, by repeat (first | (with_reducible first | exact HB.out | apply zzA | apply zzN | apply zzD) | exact HB.out)⟩
    rw [if_pos c14] at H
    have c14b0 : decide (x42_2 < (t289.length : Int)) = true := decide_eq_true c14
    clear c14
    by_cases c15 : 0 ≤ x42_2
    case neg =>
     rw [if_neg c15] at H
     exact absurd H (by simp)
    rw [if_pos c15] at H
    have c15b0 : decide (0 ≤ x42_2) = true := decide_eq_true c15
    clear c15
    by_cases c16 : x42_2 < (t289.length : Int)
    case neg =>
     rw [if_neg c16] at H
     exact absurd H (by simp)
    rw [if_pos c16] at H
    have c16b0 : decide (x42_2 < (t289.length : Int)) = true := decide_eq_true c16
    clear c16
    replace H := Option.bind_eq_some_iff.mp H
    obtain ⟨⟨t295, t296⟩, A170, H⟩ := H
    replace H : (if t296 = 0 then (if x12_2.length < 17592186044416 then (thrumref15_linesP.l0 k2 l2 a3 (x12_2 ++ [t295]) t289 (t289.length : Int) (wrap64 (x42_2 + 1))) else (none)) else (some (([] : List Int), t296))) = some (r1, r2) := H
    have A17 := ZM A170
    clear A170
    by_cases c18 : t296 = 0
    case neg =>
     rw [if_neg c18] at H
     have c18b0 : (t296 == 0) = false := beq_eq_false_iff_ne.mpr c18
     have c18b1 : (t296 != 0) = true := bne_iff_ne.mpr c18
     simp only [Option.some.injEq, Prod.mk.injEq] at H
     obtain ⟨rfl, rfl⟩ := H
     have p294 : 0 ≤ (x42_2 : Int) := of_decide_eq_true Z3
     have q294 : x42_2 < (t289.length : Int) := of_decide_eq_true Z3
     obtain ⟨ad294, A294_0, c294_0, e294, hx294_0, hl294_0, hi294_0⟩ := at_L1 (Kd.S_reads' HO_40.out).2.2 x42_2 p294 q294
     obtain rfl : ad293 = ad294 := (by injection e294)
     obtain ⟨ce294, hce294, hMe294, hcc294⟩ := Kd.S_get HO_40.out [] x42_2 p294 (by first | exact q294 | exact of_decide_eq_true Z3 | (have e_ := (Kd.S_reads' HO_40.out).1; omega))
     obtain ⟨ve294_0, rfl, ge294_0⟩ := hMe294
     have hv294_0 := hcc294 0 _ rfl
     rw [Nat.add_zero, show ((Kd.slice 2 (Kd.int .i64))).sz = 1 from rfl, Nat.mul_one] at hv294_0
     replace hv294_0 := Option.some.inj (hv294_0.symm.trans hx294_0)
     rw [hv294_0] at ge294_0
     have HL294_0 := ZM (show Kd.R (Kd.int .i64) 2 _ _ _ _ (rd_L1 t289 x42_2) from ge294_0)
     clear hv294_0 ge294_0
     clear hcc294 hce294
     have HR294_0 := ZM hi294_0
     have HC294_0 := ZM hl294_0
     clear hi294_0 hl294_0
     replace p294 := eq_true p294
     replace q294 := eq_true q294
     go_wp2_with (first | ((with_reducible refine gate_callee (f := 41) rfl ?_); refine goesL_ (some 50) rfl rfl Try.func41 (by kernel_rfl) rfl #[.slice A294_0 (rd_L1 t289 x42_2).length c294_0, .slice A2 l2.length c2, .int .i64 a3] rfl Z2 ?_; (with_reducible refine (thrumref14_Tell.calls _ _ (rd_L1 t289 x42_2) (fun k_ => k_ < w.heap.size) _ _ l2 a3 t295 t296 _ ?side1 ?side2 ?side3 A17.out).mono ?_); (case side1 => exact Z52); (case side2 => exact HC294_0.out); (case side3 => exact Kd.V_mk HC2.out (Kd.F_below (Kd.C_F (Kd.heap_int .i64) HR2.out) Z1)); rintro e w22 ⟨rfl, hb⟩; refine ⟨_, rfl, ?_⟩; replace HO_12 := ZM (Kd.R_below (Zr HO_12) hb); replace HO_40 := ZM (Kd.S_below (by (with_reducible repeat (first | apply Kd.S_alloc | apply Kd.S_drewN | apply Kd.S_drew)); exact HO_40.out) hb); replace HL294_0 := ZM (Kd.R_below (Zr HL294_0) hb); replace HR294_0 := ZM (Kd.C_below Z29 hb); replace HB := ZM (zzT Z1 hb); (try clear hb); (try clear hb2); (try clear hk); (try clear hi)))
     go_ret2
     exact ⟨_, by first | rfl | (simp [errW_none, errW_some] <;> rfl) | (simp [*, errW_none, errW_some] <;> rfl), by first | exact Kd.R_nil _ _ _ _ _ | exact Kd.N_nil _ _ _ _ _ | exact Kd.V_nil _ _ _ _ _ | exact Kd.Q_nil _ _ _ _ _ | exact Kd.S_nil _ _ _ _ _, by repeat (first | (with_reducible first | exact HB.out | apply zzA | apply zzN | apply zzD) | exact HB.out)⟩
    rw [if_pos c18] at H
    have c18b0 : (t296 == 0) = true := beq_iff_eq.mpr c18
    have c18b1 : (t296 != 0) = false := bne_eq_false_iff_eq.mpr c18
    clear c18
    by_cases c19 : x12_2.length < 17592186044416
    case neg =>
     rw [if_neg c19] at H
     exact absurd H (by simp)
    rw [if_pos c19] at H
    have LMc19 := ZM c19
    clear c19
    obtain ⟨y297, hy297⟩ : ∃ y_ : List Int, y_ = (x12_2 ++ [t295]) := ⟨_, rfl⟩
    replace H : (thrumref15_linesP.l0 k2 l2 a3 y297 t289 (t289.length : Int) (wrap64 (x42_2 + 1))) = some (r1, r2) := by first | (rw [hy297]; with_reducible exact H) | (have H2_ := (Option.bind_some _ _).symm.trans H; rw [hy297]; with_reducible exact H2_) | (have H2_ := (Option.bind_some _ _).symm.trans H; with_reducible exact H2_) | with_reducible exact H | (rw [hy297]; exact H) | exact H
    have Ny297 := ZM hy297
    clear hy297
    have H' := ZM H
    clear H
    have p294 : 0 ≤ (x42_2 : Int) := of_decide_eq_true Z3
    have q294 : x42_2 < (t289.length : Int) := of_decide_eq_true Z3
    obtain ⟨ad294, A294_0, c294_0, e294, hx294_0, hl294_0, hi294_0⟩ := at_L1 (Kd.S_reads' HO_40.out).2.2 x42_2 p294 q294
    obtain rfl : ad293 = ad294 := (by injection e294)
    obtain ⟨ce294, hce294, hMe294, hcc294⟩ := Kd.S_get HO_40.out [] x42_2 p294 (by first | exact q294 | exact of_decide_eq_true Z3 | (have e_ := (Kd.S_reads' HO_40.out).1; omega))
    obtain ⟨ve294_0, rfl, ge294_0⟩ := hMe294
    have hv294_0 := hcc294 0 _ rfl
    rw [Nat.add_zero, show ((Kd.slice 2 (Kd.int .i64))).sz = 1 from rfl, Nat.mul_one] at hv294_0
    replace hv294_0 := Option.some.inj (hv294_0.symm.trans hx294_0)
    rw [hv294_0] at ge294_0
    have HL294_0 := ZM (show Kd.R (Kd.int .i64) 2 _ _ _ _ (rd_L1 t289 x42_2) from ge294_0)
    clear hv294_0 ge294_0
    clear hcc294 hce294
    have HR294_0 := ZM hi294_0
    have HC294_0 := ZM hl294_0
    clear hi294_0 hl294_0
    replace p294 := eq_true p294
    replace q294 := eq_true q294
    go_wp2_with (first | ((with_reducible refine gate_callee (f := 41) rfl ?_); refine goesL_ (some 50) rfl rfl Try.func41 (by kernel_rfl) rfl #[.slice A294_0 (rd_L1 t289 x42_2).length c294_0, .slice A2 l2.length c2, .int .i64 a3] rfl Z2 ?_; (with_reducible refine (thrumref14_Tell.calls _ _ (rd_L1 t289 x42_2) (fun k_ => k_ < w.heap.size) _ _ l2 a3 t295 t296 _ ?side1 ?side2 ?side3 A17.out).mono ?_); (case side1 => exact Z52); (case side2 => exact HC294_0.out); (case side3 => exact Kd.V_mk HC2.out (Kd.F_below (Kd.C_F (Kd.heap_int .i64) HR2.out) Z1)); rintro e w20 ⟨rfl, hb⟩; refine ⟨_, rfl, ?_⟩; replace HO_12 := ZM (Kd.R_below (Zr HO_12) hb); replace HO_40 := ZM (Kd.S_below (by (with_reducible repeat (first | apply Kd.S_alloc | apply Kd.S_drewN | apply Kd.S_drew)); exact HO_40.out) hb); replace HL294_0 := ZM (Kd.R_below (Zr HL294_0) hb); replace HR294_0 := ZM (Kd.C_below Z29 hb); replace HB := ZM (zzT Z1 hb); (try clear hb); (try clear hb2); (try clear hk); (try clear hi)) | ((with_reducible refine gate_builtin (b := .append) (xs := #[.tmp 56, .tmp 58]) rfl ?_); at_builtin; refine Kd.R_append (Kd.int .i64) (w0 := w) w.heap.size rfl (.tmp 56) (.tmp 58) 22 2 (.int .i64 0) 8 rfl Try.underlying22 info2 rfl (by decide) (by omega) u12 x12_2 t295 [.int .i64 t295] (fun _ => True) (fun _ => False) rfl rfl ?aP (fun _ hk => hk.elim) ?aF ?aO ?aB ?aS ?aL ?_; (case aP => exact rfl); (case aB => exact Z1); (case aF => exact (fun _ _ => trivial)); (case aO => exact (Zr HO_12)); (case aS => exact (zzS Z1)); (case aL => have := LMc19.out; omega); intro v298 w21 ho hb hg hat; rw [← Ny297.out] at ho; replace HO_40 := ZM (Kd.S_after (ok := (fun _ => True)) (by (with_reducible repeat (first | apply Kd.S_alloc | apply Kd.S_drewN | apply Kd.S_drew)); exact Kd.S_mono HO_40.out (fun _ hk => ⟨trivial, hk⟩)) hg hat); replace HL294_0 := ZM (Kd.R_after (ok := (fun k_ => some k_ ≠ (.slice (some ad293) t289.length co11 : Value).ownBlock)) (by (with_reducible repeat (first | apply rrA | apply rrN | apply rrD)); exact Kd.R_mono HL294_0.out (fun _ hk => ⟨hk.2, hk.1⟩)) hg hat); have HO299 := ZM (ho); replace HB := ZM (hb); clear HO_12; clear ho hb hg hat))
    go_roundg k2
    case measure => have := HJ8.out; have := HK2.out; omega
    case rel => exact ⟨(y297), (wrap64 (x42_2 + 1)), Z5, H', ⟨by have := HJ8.out; have := HK2.out; omega⟩, ⟨by (with_reducible repeat (first | apply rrA | apply rrN | apply rrD)); exact HO299.out⟩, ⟨by (with_reducible repeat (first | apply Kd.S_alloc | apply Kd.S_drewN | apply Kd.S_drew)); exact Kd.S_mono HO_40.out (fun _ hk => hk.2)⟩, ⟨by repeat (first | (with_reducible first | exact HB.out | apply zzA | apply zzN | apply zzD) | exact HB.out)⟩⟩
def thrumref15_lines.f (a0 : Int) (l1 l2 : List Int) (a3 : Int) : Option (List Int × Int) := if V64 l1 ∧ V64 l2 then some (linesS a0 l1 l2 a3) else none
theorem thrumref15_lines.of (a0 : Int) (l1 l2 : List Int) (a3 : Int)  (h_ : V64 l1 ∧ V64 l2) : thrumref15_lines.f a0 l1 l2 a3 = some (linesS a0 l1 l2 a3) := if_pos h_
theorem thrumref15_linesP.loop (x : List Int) (f : Int) (rows : List (List Int)) (hx : V64 x) (hrv : ∀ r ∈ rows, V64 r) (hb : rows.length ≤ 17592186044415) : ∀ (d i : Nat) (acc : List Int), d + i = rows.length → acc.length ≤ i →
    thrumref15_linesP.l0 (d + 1) x f acc rows (rows.length : Int) (i : Int) = some (if (seqV ((rows.drop i).map fun row => tellL row x f)).2 = 0 then (acc ++ (seqV ((rows.drop i).map fun row => tellL row x f)).1, 0) else ([], (seqV ((rows.drop i).map fun row => tellL row x f)).2)) := by
  intro d
  induction d with
  | zero =>
    intro i acc hd ha
    rw [thrumref15_linesP.l0, if_neg (by omega), List.drop_eq_nil_of_le (by omega)]
    simp only [List.map_nil, seqV, if_true, List.append_nil]
  | succ d ih =>
    intro i acc hd ha
    have hi : i < rows.length := by omega
    have hrd : rd_L1 rows (i : Int) = rows[i] := by unfold rd_L1; rw [Int.toNat_natCast, List.getD_eq_getElem?_getD, List.getElem?_eq_getElem hi, Option.getD_some]
    rw [thrumref15_linesP.l0, if_pos (by omega), if_pos (by omega), if_pos (by omega), hrd, thrumref14_Tell.of _ _ _ ⟨hrv _ (List.getElem_mem hi), hx⟩, Option.bind_some, List.drop_eq_getElem_cons hi, List.map_cons]
    obtain ⟨⟨t, e⟩, hp⟩ : ∃ p, tellL rows[i] x f = p := ⟨_, rfl⟩
    rw [hp]
    simp only [seqV]
    by_cases c : e = 0
    · rw [if_pos c, if_pos c, if_pos (by omega), wrap64_of (by unfold I64; omega), show (i : Int) + 1 = ((i + 1 : Nat) : Int) by omega, ih (i + 1) _ (by omega) Z41]
      obtain ⟨⟨ys, e2⟩, hq⟩ : ∃ p, seqV ((rows.drop (i + 1)).map fun row => tellL row x f) = p := ⟨_, rfl⟩
      rw [hq]
      simp only []
      by_cases c2 : e2 = 0
      · rw [if_pos c2, if_pos c2, if_pos rfl, List.append_assoc]; rfl
      · rw [if_neg c2, if_neg c2, if_neg c2]
    · rw [if_neg c, if_neg c, if_neg c]
theorem len_wrap {m n : Nat} (h0 : 2 ≤ m) (h1 : m ≤ 17) (hn : n ≤ 9223372036854775807) : ((m : Int) = wrap64 ((n : Int) + 1)) ↔ ((m : Int) - 1 = n) := by
  by_cases c : n ≤ 9223372036854775806
  · rw [wrap64_of (by unfold I64; omega)]; omega
  · have e : n = 9223372036854775807 := by omega
    rw [e, show wrap64 (((9223372036854775807 : Nat) : Int) + 1) = -9223372036854775808 by decide +kernel]
    omega
theorem thrumref15_linesP.is (o : Int) (w x : List Int) (f : Int) (hw : V64 w) (hx : V64 x) (hn : x.length ≤ 9223372036854775807) : thrumref15_linesP.f ((rowsS o w).1.length + 1 + 1) o w x f = some (linesS o w x f) := by
  unfold thrumref15_linesP.f linesS thrumref15_Rows.f
  rw [Option.bind_some]
  by_cases c : (rowsS o w).2 = 0
  · rw [if_pos c, if_neg (not_not_intro c)]
    obtain ⟨k, m, rfl, hk2, hk8, hm2, hm17, hmk, hr⟩ := rowsS_good c
    have hlen : (rowsS (k : Int) w).1.length = k := by rw [hr, chunksS_length]
    have hhd : ((rowsS (k : Int) w).1.getD 0 []).length = m := by rw [hr]; exact chunks_head hmk (by omega)
    have hrd : rd_L1 (rowsS (k : Int) w).1 0 = (rowsS (k : Int) w).1.getD 0 [] := rfl
    have hlw := len_wrap (n := x.length) hm2 hm17 hn
    rw [if_pos (by omega), hrd, hhd]
    by_cases c2 : (m : Int) - 1 = x.length
    · rw [if_pos (hlw.2 c2), if_neg (not_not_intro c2)]
      by_cases c3 : f < 0
      · rw [if_pos c3, if_pos (.inl c3), thrumref15_linesP.j0, if_pos rfl]
      · rw [if_neg c3, thrumref15_linesP.j0]
        by_cases c4 : f > 30
        · rw [if_pos (decide_eq_true c4), if_pos (.inr c4)]
        · rw [if_neg (by simpa using c4), if_neg (show ¬ (f < 0 ∨ f > 30) by omega)]
          have := thrumref15_linesP.loop x f (rowsS (k : Int) w).1 hx (by rw [hr]; exact fun r h => chunks_v64 hmk hw h) (by omega) (rowsS (k : Int) w).1.length 0 [] (by omega) (by simp)
          rw [show ((0 : Nat) : Int) = 0 from rfl] at this
          rw [this, List.drop_zero, List.nil_append]
          obtain ⟨⟨ys, e2⟩, hq⟩ : ∃ p, seqV ((rowsS (k : Int) w).1.map fun row => tellL row x f) = p := ⟨_, rfl⟩
          have he := seqV_nil_of ((rowsS (k : Int) w).1.map fun row => tellL row x f)
          rw [hq] at he ⊢
          simp only [] at he ⊢
          by_cases c5 : e2 = 0
          · rw [if_pos c5, c5]
          · rw [if_neg c5, he c5]
    · rw [if_neg (fun h => c2 (hlw.1 h)), if_pos c2]
  · rw [if_neg c, if_pos c]
theorem thrumref15_lines.calls (a0 : Int) (A1 : Option Addr) (c1 : Nat) (l1 : List Int) (A2 : Option Addr) (c2 : Nat) (l2 : List Int) (a3 : Int) (r1 : List Int) (r2 : Int) (w : World) (hr1 : Kd.C (Kd.int .i64) w A1 l1.length l1) (hc1 : l1.length ≤ c1) (hr2 : Kd.C (Kd.int .i64) w A2 l2.length l2) (hc2 : l2.length ≤ c2) (h : thrumref15_lines.f a0 l1 l2 a3 = some (r1, r2)) :
    Calls Try.prog 23 #[.int .i64 a0, .slice A1 l1.length c1, .slice A2 l2.length c2, .int .i64 a3] w fun e w' => ∃ v0_ : Value, e = .returned (.tuple #[v0_, .int .i64 r2]) ∧ Kd.R (Kd.int .i64) 2 w' w.heap.size (fun _ => True) v0_ r1 ∧ Below w.heap.size w w' := by
  unfold thrumref15_lines.f at h
  split at h
  case isFalse => cases h
  rename_i hv
  exact thrumref15_linesP.calls ((rowsS a0 l1).1.length + 1 + 1) a0 A1 c1 l1 A2 c2 l2 a3 r1 r2 w hr1 hc1 hr2 hc2 ((thrumref15_linesP.is a0 l1 l2 a3 hv.1 hv.2 (Kd.C_max hr2)).trans h)


/-! ### thrumref13_BestP: function 26 -/
def thrumref13_BestP.l0 : Nat → List Int → Int → Int → Int → Option (Int × Int)
 | 0, _, _, _, _ => none
 | k + 1, x0, x4, x13, x14 => if x14 < x13 then (if 0 ≤ x14 then (if x14 < (x0.length : Int) then (if 0 ≤ x4 then (if x4 < (x0.length : Int) then (if (rd x0 x14) > (rd x0 x4) then (thrumref13_BestP.l0 k x0 x14 x13 (wrap64 (x14 + 1))) else (thrumref13_BestP.l0 k x0 x4 x13 (wrap64 (x14 + 1)))) else (none)) else (none)) else (none)) else (none)) else (some (x4, 0))
def thrumref13_BestP.f (k : Nat) (l0 : List Int) : Option (Int × Int) := if (l0.length : Int) = 0 then (some (0, 1)) else (if (l0.length : Int) > 4096 then (some (0, 3)) else (thrumref13_BestP.l0 k l0 0 (l0.length : Int) 0))
theorem thrumref13_BestP.mono_l : ∀ k, (∀ y0 y1 y2 y3, LeO (thrumref13_BestP.l0 k y0 y1 y2 y3) (thrumref13_BestP.l0 (k + 1) y0 y1 y2 y3))
 | 0 => fun _ _ _ _ r h => by simp [thrumref13_BestP.l0] at h
 | k + 1 => by
  have ih0 := thrumref13_BestP.mono_l k
  ·
   intro y0 y1 y2 y3
   unfold thrumref13_BestP.l0
   repeat' first
   | (with_reducible exact ih0 _ _ _ _)
   | (with_reducible exact LeO.refl _)
   | (with_reducible exact LeO.none _)
   | (with_reducible refine LeO.ite ?_ ?_)
   | (with_reducible refine LeO.bind ?_ (fun _ => ?_))
theorem thrumref13_BestP.mono : ∀ a0 k, LeO (thrumref13_BestP.f k a0) (thrumref13_BestP.f (k + 1) a0) := by
 intro a0 k
 have ih0 := thrumref13_BestP.mono_l k
 unfold thrumref13_BestP.f
 repeat' first
   | (with_reducible exact ih0 _ _ _ _)
   | (with_reducible exact LeO.refl _)
   | (with_reducible exact LeO.none _)
   | (with_reducible refine LeO.ite ?_ ?_)
   | (with_reducible refine LeO.bind ?_ (fun _ => ?_))
set_option maxHeartbeats 8000000 in
set_option maxRecDepth 100000 in
theorem thrumref13_BestP.calls (k : Nat) (A0 : Option Addr) (c0 : Nat) (l0 : List Int) (r1 : Int) (r2 : Int) (w : World) (hr0 : Kd.C (Kd.int .i64) w A0 l0.length l0) (hc0 : l0.length ≤ c0) (h : thrumref13_BestP.f k l0 = some (r1, r2)) :
  Calls Try.prog 26 #[.slice A0 l0.length c0] w fun e w' => e = .returned (.tuple #[.int .i64 r1, .int .i64 r2]) ∧ Drawn0 w w' := by
 have HR0 := ZM hr0
 have HC0 := ZM hc0
 clear hr0 hc0
 have H : (if (l0.length : Int) = 0 then (some (0, 1)) else (if (l0.length : Int) > 4096 then (some (0, 3)) else (thrumref13_BestP.l0 k l0 0 (l0.length : Int) 0))) = some (r1, r2) := h
 clear h
 by_cases c2 : (l0.length : Int) = 0
 ·
  rw [if_pos c2] at H
  have c2b0 : ((l0.length : Int) == 0) = true := beq_iff_eq.mpr c2
  have c2b1 : ((l0.length : Int) != 0) = false := bne_eq_false_iff_eq.mpr c2
  clear c2
  simp only [Option.some.injEq, Prod.mk.injEq] at H
  obtain ⟨rfl, rfl⟩ := H
  go_enter Try.func26, Try.ntmps26
  go_wp2
  repeat (go_quiet (fail); try go_wp2)
  go_ret2
  exact ⟨by first | rfl | (simp; done) | (simp [*]; done), by repeat (first | exact ddR _ | apply ddS)⟩
 rw [if_neg c2] at H
 have c2b0 : ((l0.length : Int) == 0) = false := beq_eq_false_iff_ne.mpr c2
 have c2b1 : ((l0.length : Int) != 0) = true := bne_iff_ne.mpr c2
 have c2b2 : ¬ (l0 = []) := fun h_ => c2 (by rw [h_]; rfl)
 by_cases c3 : (l0.length : Int) > 4096
 ·
  rw [if_pos c3] at H
  have c3b0 : decide (4096 < (l0.length : Int)) = true := decide_eq_true c3
  have c3b1 : decide (4096 < l0.length) = true := decide_eq_true (by omega)
  clear c3
  simp only [Option.some.injEq, Prod.mk.injEq] at H
  obtain ⟨rfl, rfl⟩ := H
  go_enter Try.func26, Try.ntmps26
  go_wp2
  repeat (go_quiet (fail); try go_wp2)
  go_ret2
  exact ⟨by first | rfl | (simp; done) | (simp [*]; done), by repeat (first | exact ddR _ | apply ddS)⟩
 rw [if_neg c3] at H
 have c3b0 : decide (4096 < (l0.length : Int)) = false := decide_eq_false c3
 have c3b1 : decide (4096 < l0.length) = false := decide_eq_false (by omega)
 clear c3
 have H' := ZM H
 clear H
 go_enter Try.func26, Try.ntmps26
 go_wp2
 repeat (go_quiet (fail); try go_wp2)
 go_loopg [4, 14] k (fun kq v4 v14 w' => ∃ (x4_1 : Int) (x14_1 : Int), v4 = .int .i64 x4_1 ∧ v14 = .int .i64 x14_1 ∧ Aside0 (thrumref13_BestP.l0 kq l0 x4_1 (l0.length : Int) x14_1 = some (r1, r2)) ∧ Aside0 (kq ≤ k) ∧ Drawn0 w w')
 case atStart => exact ⟨(0), (0), Z5, Z5, H', ⟨Nat.le_refl _⟩, by repeat (first | exact ddR _ | apply ddS)⟩
 case round =>
  clear H'
  try clear c2
  try clear c2b0
  try clear c2b1
  try clear c2b2
  try clear c3
  try clear c3b0
  try clear c3b1
  obtain ⟨x4_1, x14_1, rfl, rfl, HA, HK1, ⟨m1, rfl⟩⟩ := hrel
  cases gk with
  | zero => exact absurd HA.out (by simp [thrumref13_BestP.l0])
  | succ k1 =>
   have H := HA.out
   clear HA
   simp only [thrumref13_BestP.l0] at H
   by_cases c4 : x14_1 < (l0.length : Int)
   case neg =>
    rw [if_neg c4] at H
    have c4b0 : decide (x14_1 < (l0.length : Int)) = false := decide_eq_false c4
    clear c4
    simp only [Option.some.injEq, Prod.mk.injEq] at H
    obtain ⟨rfl, rfl⟩ := H
    go_wp2
    repeat (go_quiet (fail); try go_wp2)
    go_ret2
    exact ⟨by first | rfl | (simp; done) | (simp [*]; done), by repeat (first | exact ddR _ | apply ddS)⟩
   rw [if_pos c4] at H
   have c4b0 : decide (x14_1 < (l0.length : Int)) = true := decide_eq_true c4
   clear c4
   by_cases c5 : 0 ≤ x14_1
   case neg =>
    rw [if_neg c5] at H
    exact absurd H (by simp)
   rw [if_pos c5] at H
   have c5b0 : decide (0 ≤ x14_1) = true := decide_eq_true c5
   clear c5
   by_cases c6 : x14_1 < (l0.length : Int)
   case neg =>
    rw [if_neg c6] at H
    exact absurd H (by simp)
   rw [if_pos c6] at H
   have c6b0 : decide (x14_1 < (l0.length : Int)) = true := decide_eq_true c6
   clear c6
   by_cases c7 : 0 ≤ x4_1
   case neg =>
    rw [if_neg c7] at H
    exact absurd H (by simp)
   rw [if_pos c7] at H
   have c7b0 : decide (0 ≤ x4_1) = true := decide_eq_true c7
   clear c7
   by_cases c8 : x4_1 < (l0.length : Int)
   case neg =>
    rw [if_neg c8] at H
    exact absurd H (by simp)
   rw [if_pos c8] at H
   have c8b0 : decide (x4_1 < (l0.length : Int)) = true := decide_eq_true c8
   clear c8
   by_cases c9 : (rd l0 x14_1) > (rd l0 x4_1)
   case neg =>
    rw [if_neg c9] at H
    have c9b0 : decide ((rd l0 x4_1) < (rd l0 x14_1)) = false := decide_eq_false c9
    clear c9
    have H' := ZM H
    clear H
    have p300 : 0 ≤ (x14_1 : Int) := of_decide_eq_true Z3
    have q300 : x14_1 < (l0.length : Int) := of_decide_eq_true Z3
    obtain ⟨ad300, e300, hx300_0⟩ := Kd.at_int HR0.out x14_1 p300 q300
    cases e300
    replace p300 := eq_true p300
    replace q300 := eq_true q300
    have p301 : 0 ≤ (x4_1 : Int) := of_decide_eq_true Z3
    have q301 : x4_1 < (l0.length : Int) := of_decide_eq_true Z3
    obtain ⟨ad301, e301, hx301_0⟩ := Kd.at_int HR0.out x4_1 p301 q301
    obtain rfl : ad300 = ad301 := (by injection e301)
    replace p301 := eq_true p301
    replace q301 := eq_true q301
    go_wp2
    repeat (go_quiet (fail); try go_wp2)
    go_roundg k1
    case measure => have := HK1.out; omega
    case rel => exact ⟨(x4_1), (wrap64 (x14_1 + 1)), Z5, Z5, H', ⟨by have := HK1.out; omega⟩, by repeat (first | exact ddR _ | apply ddS)⟩
   rw [if_pos c9] at H
   have c9b0 : decide ((rd l0 x4_1) < (rd l0 x14_1)) = true := decide_eq_true c9
   clear c9
   have H' := ZM H
   clear H
   have p300 : 0 ≤ (x14_1 : Int) := of_decide_eq_true Z3
   have q300 : x14_1 < (l0.length : Int) := of_decide_eq_true Z3
   obtain ⟨ad300, e300, hx300_0⟩ := Kd.at_int HR0.out x14_1 p300 q300
   cases e300
   replace p300 := eq_true p300
   replace q300 := eq_true q300
   have p301 : 0 ≤ (x4_1 : Int) := of_decide_eq_true Z3
   have q301 : x4_1 < (l0.length : Int) := of_decide_eq_true Z3
   obtain ⟨ad301, e301, hx301_0⟩ := Kd.at_int HR0.out x4_1 p301 q301
   obtain rfl : ad300 = ad301 := (by injection e301)
   replace p301 := eq_true p301
   replace q301 := eq_true q301
   go_wp2
   repeat (go_quiet (fail); try go_wp2)
   go_roundg k1
   case measure => have := HK1.out; omega
   case rel => exact ⟨(x14_1), (wrap64 (x14_1 + 1)), Z5, Z5, H', ⟨by have := HK1.out; omega⟩, by repeat (first | exact ddR _ | apply ddS)⟩
theorem thrumref13_BestP.loop (x0 : List Int) (hb : x0.length ≤ 4096) : ∀ (d i : Nat) (a : Nat), d + i = x0.length → a < x0.length →
    thrumref13_BestP.l0 (d + 1) x0 (a : Int) (x0.length : Int) (i : Int) = some (bestGo (x0.drop i) i a (rd x0 a), 0) := by
  intro d
  induction d with
  | zero =>
    intro i a hd ha
    rw [thrumref13_BestP.l0, if_neg (by omega), List.drop_eq_nil_of_le (by omega)]; rfl
  | succ d ih =>
    intro i a hd ha
    have hi : i < x0.length := by omega
    rw [thrumref13_BestP.l0, if_pos (by omega), if_pos (by omega), if_pos (by omega), if_pos (by omega), if_pos (by omega), wrap64_of (by unfold I64; omega), show (i : Int) + 1 = ((i + 1 : Nat) : Int) by omega, List.drop_eq_getElem_cons hi, bestGo, show rd x0 (i : Int) = x0[i] from rd_nat hi]
    by_cases c : rd x0 a < x0[i]
    · rw [if_pos c, if_pos c, ih (i + 1) i (by omega) hi, show rd x0 (i : Int) = x0[i] from rd_nat hi]; rfl
    · rw [if_neg c, if_neg c, ih (i + 1) a (by omega) ha]; rfl
def thrumref13_Best.f (l0 : List Int) : Option (Int × Int) := some (bestF l0)
theorem thrumref13_Best.calls (A0 : Option Addr) (c0 : Nat) (l0 : List Int) (r1 : Int) (r2 : Int) (w : World) (hr0 : Kd.C (Kd.int .i64) w A0 l0.length l0) (hc0 : l0.length ≤ c0) (h : thrumref13_Best.f l0 = some (r1, r2)) :
    Calls Try.prog 26 #[.slice A0 l0.length c0] w fun e w' => e = .returned (.tuple #[.int .i64 r1, .int .i64 r2]) ∧ Drawn0 w w' := by
  refine thrumref13_BestP.calls (l0.length + 1) A0 c0 l0 r1 r2 w hr0 hc0 (Eq.trans ?_ h)
  unfold thrumref13_BestP.f thrumref13_Best.f bestF
  by_cases c : l0.length = 0
  · rw [if_pos (by omega), if_pos c]
  · rw [if_neg (by omega), if_neg c]
    by_cases c2 : l0.length > 4096
    · rw [if_pos (by omega), if_pos c2]
    · rw [if_neg (by omega), if_neg c2]
      exact thrumref13_BestP.loop l0 (by omega) l0.length 0 0 (by omega) (by omega)


/-! ### thrumref01_SubP: function 42 -/
def thrumref01_SubP.f (a0 : Int) (a1 : Int) : Option (Int × Int) := if a1 < 0 then (if a0 > (wrap64 (9223372036854775807 + a1)) then (some (0, 2)) else (if a1 > 0 then (if a0 < (wrap64 ((-9223372036854775808) + a1)) then (some (0, 2)) else (some (wrap64 (a0 - a1), 0))) else (some (wrap64 (a0 - a1), 0)))) else (if a1 > 0 then (if a0 < (wrap64 ((-9223372036854775808) + a1)) then (some (0, 2)) else (some (wrap64 (a0 - a1), 0))) else (some (wrap64 (a0 - a1), 0)))
set_option maxHeartbeats 8000000 in
set_option maxRecDepth 100000 in
theorem thrumref01_SubP.calls (a0 : Int) (a1 : Int) (r1 : Int) (r2 : Int) (w : World) (h : thrumref01_SubP.f a0 a1 = some (r1, r2)) :
  Calls Try.prog 42 #[.int .i64 a0, .int .i64 a1] w fun e w' => e = .returned (.tuple #[.int .i64 r1, .int .i64 r2]) ∧ Drawn0 w w' := by
 have H : (if a1 < 0 then (if a0 > (wrap64 (9223372036854775807 + a1)) then (some (0, 2)) else (if a1 > 0 then (if a0 < (wrap64 ((-9223372036854775808) + a1)) then (some (0, 2)) else (some (wrap64 (a0 - a1), 0))) else (some (wrap64 (a0 - a1), 0)))) else (if a1 > 0 then (if a0 < (wrap64 ((-9223372036854775808) + a1)) then (some (0, 2)) else (some (wrap64 (a0 - a1), 0))) else (some (wrap64 (a0 - a1), 0)))) = some (r1, r2) := h
 clear h
 by_cases c3 : a1 < 0
 case neg =>
  rw [if_neg c3] at H
  have c3b0 : decide (a1 < 0) = false := decide_eq_false c3
  clear c3
  by_cases c7 : a1 > 0
  case neg =>
   rw [if_neg c7] at H
   have c7b0 : decide (0 < a1) = false := decide_eq_false c7
   clear c7
   simp only [Option.some.injEq, Prod.mk.injEq] at H
   obtain ⟨rfl, rfl⟩ := H
   go_enter Try.func42, Try.ntmps42
   go_wp2
   go_ret2
   exact ⟨by first | rfl | (simp; done) | (simp [*]; done), by repeat (first | exact ddR _ | apply ddS)⟩
  rw [if_pos c7] at H
  have c7b0 : decide (0 < a1) = true := decide_eq_true c7
  clear c7
  by_cases c8 : a0 < (wrap64 ((-9223372036854775808) + a1))
  case neg =>
   rw [if_neg c8] at H
   have c8b0 : decide (a0 < (wrap64 ((-9223372036854775808) + a1))) = false := decide_eq_false c8
   clear c8
   simp only [Option.some.injEq, Prod.mk.injEq] at H
   obtain ⟨rfl, rfl⟩ := H
   go_enter Try.func42, Try.ntmps42
   go_wp2
   go_ret2
   exact ⟨by first | rfl | (simp; done) | (simp [*]; done), by repeat (first | exact ddR _ | apply ddS)⟩
  rw [if_pos c8] at H
  have c8b0 : decide (a0 < (wrap64 ((-9223372036854775808) + a1))) = true := decide_eq_true c8
  clear c8
  simp only [Option.some.injEq, Prod.mk.injEq] at H
  obtain ⟨rfl, rfl⟩ := H
  go_enter Try.func42, Try.ntmps42
  go_wp2
  go_ret2
  exact ⟨by first | rfl | (simp; done) | (simp [*]; done), by repeat (first | exact ddR _ | apply ddS)⟩
 rw [if_pos c3] at H
 have c3b0 : decide (a1 < 0) = true := decide_eq_true c3
 clear c3
 by_cases c4 : a0 > (wrap64 (9223372036854775807 + a1))
 ·
  rw [if_pos c4] at H
  have c4b0 : decide ((wrap64 (9223372036854775807 + a1)) < a0) = true := decide_eq_true c4
  clear c4
  simp only [Option.some.injEq, Prod.mk.injEq] at H
  obtain ⟨rfl, rfl⟩ := H
  go_enter Try.func42, Try.ntmps42
  go_wp2
  go_ret2
  exact ⟨by first | rfl | (simp; done) | (simp [*]; done), by repeat (first | exact ddR _ | apply ddS)⟩
 rw [if_neg c4] at H
 have c4b0 : decide ((wrap64 (9223372036854775807 + a1)) < a0) = false := decide_eq_false c4
 clear c4
 by_cases c5 : a1 > 0
 case neg =>
  rw [if_neg c5] at H
  have c5b0 : decide (0 < a1) = false := decide_eq_false c5
  clear c5
  simp only [Option.some.injEq, Prod.mk.injEq] at H
  obtain ⟨rfl, rfl⟩ := H
  go_enter Try.func42, Try.ntmps42
  go_wp2
  go_ret2
  exact ⟨by first | rfl | (simp; done) | (simp [*]; done), by repeat (first | exact ddR _ | apply ddS)⟩
 rw [if_pos c5] at H
 have c5b0 : decide (0 < a1) = true := decide_eq_true c5
 clear c5
 by_cases c6 : a0 < (wrap64 ((-9223372036854775808) + a1))
 case neg =>
  rw [if_neg c6] at H
  have c6b0 : decide (a0 < (wrap64 ((-9223372036854775808) + a1))) = false := decide_eq_false c6
  clear c6
  simp only [Option.some.injEq, Prod.mk.injEq] at H
  obtain ⟨rfl, rfl⟩ := H
  go_enter Try.func42, Try.ntmps42
  go_wp2
  go_ret2
  exact ⟨by first | rfl | (simp; done) | (simp [*]; done), by repeat (first | exact ddR _ | apply ddS)⟩
 rw [if_pos c6] at H
 have c6b0 : decide (a0 < (wrap64 ((-9223372036854775808) + a1))) = true := decide_eq_true c6
 clear c6
 simp only [Option.some.injEq, Prod.mk.injEq] at H
 obtain ⟨rfl, rfl⟩ := H
 go_enter Try.func42, Try.ntmps42
 go_wp2
 go_ret2
 exact ⟨by first | rfl | (simp; done) | (simp [*]; done), by repeat (first | exact ddR _ | apply ddS)⟩
def thrumref01_Sub.f (a0 a1 : Int) : Option (Int × Int) := if I64 a0 ∧ I64 a1 then some (res (a0 - a1)) else none
theorem thrumref01_Sub.of (a0 a1 : Int)  (h_ : I64 a0 ∧ I64 a1) : thrumref01_Sub.f a0 a1 = some (res (a0 - a1)) := if_pos h_
theorem thrumref01_Sub.calls (a0 : Int) (a1 : Int) (r1 : Int) (r2 : Int) (w : World) (h : thrumref01_Sub.f a0 a1 = some (r1, r2)) :
    Calls Try.prog 42 #[.int .i64 a0, .int .i64 a1] w fun e w' => e = .returned (.tuple #[.int .i64 r1, .int .i64 r2]) ∧ Drawn0 w w' := by
  unfold thrumref01_Sub.f at h
  split at h
  · rename_i hu
    refine thrumref01_SubP.calls a0 a1 r1 r2 w (Eq.trans ?_ h)
    unfold thrumref01_SubP.f
    obtain ⟨h0, h1⟩ := hu
    unfold I64 at h0 h1
    rcases Int.lt_trichotomy a1 0 with c | c | c
    · rw [if_pos c, wrap64_of (show I64 (9223372036854775807 + a1) by unfold I64; omega)]
      by_cases d : a0 > 9223372036854775807 + a1
      · rw [if_pos d, res_not (by unfold I64; omega)]
      · rw [if_neg d, if_neg (by omega), res_of (by unfold I64; omega), wrap64_of (by unfold I64; omega)]
    · rw [if_neg (by omega), if_neg (by omega), res_of (by unfold I64; omega), wrap64_of (by unfold I64; omega)]
    · rw [if_neg (by omega), if_pos (by omega), wrap64_of (show I64 (-9223372036854775808 + a1) by unfold I64; omega)]
      by_cases d : a0 < -9223372036854775808 + a1
      · rw [if_pos d, res_not (by unfold I64; omega)]
      · rw [if_neg d, res_of (by unfold I64; omega), wrap64_of (by unfold I64; omega)]
  · cases h


/-! ### thrumref01_NegP: function 65 -/
def thrumref01_NegP.f (a0 : Int) : Option (Int × Int) := (thrumref01_Sub.f 0 a0).bind fun bt302 => (some (bt302.1, bt302.2))
set_option maxHeartbeats 8000000 in
set_option maxRecDepth 100000 in
theorem thrumref01_NegP.calls (a0 : Int) (r1 : Int) (r2 : Int) (w : World) (h : thrumref01_NegP.f a0 = some (r1, r2)) :
  Calls Try.prog 65 #[.int .i64 a0] w fun e w' => e = .returned (.tuple #[.int .i64 r1, .int .i64 r2]) ∧ Drawn0 w w' := by
 have H : ((thrumref01_Sub.f 0 a0).bind fun bt302 => (some (bt302.1, bt302.2))) = some (r1, r2) := h
 clear h
 replace H := Option.bind_eq_some_iff.mp H
 obtain ⟨⟨t302, t303⟩, A20, H⟩ := H
 replace H : (some (t302, t303)) = some (r1, r2) := H
 have A2 := ZM A20
 clear A20
 simp only [Option.some.injEq, Prod.mk.injEq] at H
 obtain ⟨rfl, rfl⟩ := H
 go_enter Try.func65, Try.ntmps65
 go_wp2_with (first | ((with_reducible refine gate_callee (f := 42) rfl ?_); refine goesL_ (some 5) rfl rfl Try.func42 (by kernel_rfl) rfl #[.int .i64 0, .int .i64 a0] rfl Z2 ?_; (with_reducible refine (thrumref01_Sub.calls 0 a0 t302 t303 _ A2.out).mono ?_); rintro e w' ⟨rfl, ⟨nd, rfl⟩⟩; refine ⟨_, rfl, ?_⟩))
 go_ret2
 exact ⟨by first | rfl | (simp; done) | (simp [*]; done), by repeat (first | exact ddR _ | apply ddS)⟩
def thrumref01_Neg.f (a0 : Int) : Option (Int × Int) := if I64 a0 then some (res (-a0)) else none
theorem thrumref01_Neg.of (a0 : Int)  (h_ : I64 a0) : thrumref01_Neg.f a0 = some (res (-a0)) := if_pos h_
theorem thrumref01_Neg.calls (a0 : Int) (r1 : Int) (r2 : Int) (w : World) (h : thrumref01_Neg.f a0 = some (r1, r2)) :
    Calls Try.prog 65 #[.int .i64 a0] w fun e w' => e = .returned (.tuple #[.int .i64 r1, .int .i64 r2]) ∧ Drawn0 w w' := by
  unfold thrumref01_Neg.f at h
  split at h
  · rename_i hu
    refine thrumref01_NegP.calls a0 r1 r2 w (Eq.trans ?_ h)
    unfold thrumref01_NegP.f thrumref01_Sub.f
    rw [if_pos ⟨i64_zero, hu⟩]; simp
  · cases h


/-! ### thrumref13_RootP: function 83 -/
def thrumref13_RootP.l0 : Nat → Int → Int → Int → Option (Int)
 | 0, _, _, _ => none
 | k + 1, x0, x3, x4 => if x4 ≥ 0 then (if 0 ≤ x4 then (if (IntKind.u64.wrap ((IntKind.u64.wrap (x3 + (shl .u64 1 x4))) * (IntKind.u64.wrap (x3 + (shl .u64 1 x4))))) ≤ x0 then (thrumref13_RootP.l0 k x0 (IntKind.u64.wrap (x3 + (shl .u64 1 x4))) (wrap64 (x4 - 1))) else (thrumref13_RootP.l0 k x0 x3 (wrap64 (x4 - 1)))) else (none)) else (some x3)
def thrumref13_RootP.f (k : Nat) (a0 : Int) : Option (Int) := thrumref13_RootP.l0 k a0 0 31
theorem thrumref13_RootP.mono_l : ∀ k, (∀ y0 y1 y2, LeO (thrumref13_RootP.l0 k y0 y1 y2) (thrumref13_RootP.l0 (k + 1) y0 y1 y2))
 | 0 => fun _ _ _ r h => by simp [thrumref13_RootP.l0] at h
 | k + 1 => by
  have ih0 := thrumref13_RootP.mono_l k
  ·
   intro y0 y1 y2
   unfold thrumref13_RootP.l0
   repeat' first
   | (with_reducible exact ih0 _ _ _)
   | (with_reducible exact LeO.refl _)
   | (with_reducible exact LeO.none _)
   | (with_reducible refine LeO.ite ?_ ?_)
   | (with_reducible refine LeO.bind ?_ (fun _ => ?_))
theorem thrumref13_RootP.mono : ∀ a0 k, LeO (thrumref13_RootP.f k a0) (thrumref13_RootP.f (k + 1) a0) := by
 intro a0 k
 have ih0 := thrumref13_RootP.mono_l k
 unfold thrumref13_RootP.f
 repeat' first
   | (with_reducible exact ih0 _ _ _)
   | (with_reducible exact LeO.refl _)
   | (with_reducible exact LeO.none _)
   | (with_reducible refine LeO.ite ?_ ?_)
   | (with_reducible refine LeO.bind ?_ (fun _ => ?_))
set_option maxHeartbeats 8000000 in
set_option maxRecDepth 100000 in
theorem thrumref13_RootP.calls (k : Nat) (a0 : Int) (r : Int) (w : World) (h : thrumref13_RootP.f k a0 = some r) :
  Calls Try.prog 83 #[.int .u64 a0] w fun e w' => e = .returned (.int .u64 r) ∧ Drawn0 w w' := by
 have H : (thrumref13_RootP.l0 k a0 0 31) = some r := h
 clear h
 have H' := ZM H
 clear H
 go_enter Try.func83, Try.ntmps83
 go_wp2
 go_loopg [3, 4] k (fun kq v3 v4 w' => ∃ (x3_1 : Int) (x4_1 : Int), v3 = .int .u64 x3_1 ∧ v4 = .int .i64 x4_1 ∧ Aside0 (thrumref13_RootP.l0 kq a0 x3_1 x4_1 = some r) ∧ Aside0 (kq ≤ k) ∧ Drawn0 w w')
 case atStart => exact ⟨(0), (31), Z5, Z5, H', ⟨Nat.le_refl _⟩, by repeat (first | exact ddR _ | apply ddS)⟩
 case round =>
  clear H'
  obtain ⟨x3_1, x4_1, rfl, rfl, HA, HK1, ⟨m1, rfl⟩⟩ := hrel
  cases gk with
  | zero => exact absurd HA.out (by simp [thrumref13_RootP.l0])
  | succ k1 =>
   have H := HA.out
   clear HA
   simp only [thrumref13_RootP.l0] at H
   by_cases c2 : x4_1 ≥ 0
   case neg =>
    rw [if_neg c2] at H
    have c2b0 : decide (0 ≤ x4_1) = false := decide_eq_false c2
    clear c2
    obtain rfl := Option.some.inj H
    go_wp2
    go_ret
    exact ⟨by first | rfl | (simp; done) | (simp [*]; done), by repeat (first | exact ddR _ | apply ddS)⟩
   rw [if_pos c2] at H
   have c2b0 : decide (0 ≤ x4_1) = true := decide_eq_true c2
   clear c2
   by_cases c3 : 0 ≤ x4_1
   case neg =>
    rw [if_neg c3] at H
    exact absurd H (by simp)
   rw [if_pos c3] at H
   have c3b0 := eq_true c3
   have c3b1 : decide (0 ≤ x4_1) = true := decide_eq_true c3
   clear c3
   obtain ⟨ji4, hji4⟩ : ∃ j_ : Int, (shl .u64 1 x4_1) = j_ := ⟨_, rfl⟩
   replace H : (if (IntKind.u64.wrap ((IntKind.u64.wrap (x3_1 + (ji4))) * (IntKind.u64.wrap (x3_1 + (ji4))))) ≤ a0 then (thrumref13_RootP.l0 k1 a0 (IntKind.u64.wrap (x3_1 + (ji4))) (wrap64 (x4_1 - 1))) else (thrumref13_RootP.l0 k1 a0 x3_1 (wrap64 (x4_1 - 1)))) = some r := by first | (rw [hji4] at H; exact H) | (simp only [hji4] at H ⊢; exact H)
   have hji4_ : (IntKind.u64.wrap (1 * 2 ^ min x4_1.toNat 64)) = ji4 := hji4
   have hji4z : x4_1 ≤ 64 → (IntKind.u64.wrap (1 * 2 ^ x4_1.toNat)) = ji4 := shl_small hji4
   have hji4u : (IntKind.u64.wrap (2 ^ min x4_1.toNat 64)) = ji4 := by have h_ := hji4_; rw [Int.one_mul] at h_; exact h_
   have hji4v : x4_1 ≤ 64 → (IntKind.u64.wrap (2 ^ x4_1.toNat)) = ji4 := fun hle_ => by have h_ := hji4z hle_; rw [Int.one_mul] at h_; exact h_
   by_cases c5 : (IntKind.u64.wrap ((IntKind.u64.wrap (x3_1 + (ji4))) * (IntKind.u64.wrap (x3_1 + (ji4))))) ≤ a0
   case neg =>
    rw [if_neg c5] at H
    have c5b0 : decide ((IntKind.u64.wrap ((IntKind.u64.wrap (x3_1 + (ji4))) * (IntKind.u64.wrap (x3_1 + (ji4))))) ≤ a0) = false := decide_eq_false c5
    clear c5
    have H' := ZM H
    clear H
    go_wp2
    go_roundg k1
    case measure => have := HK1.out; omega
    case rel => exact ⟨(x3_1), (wrap64 (x4_1 - 1)), Z5, Z5, H', ⟨by have := HK1.out; omega⟩, by repeat (first | exact ddR _ | apply ddS)⟩
   rw [if_pos c5] at H
   have c5b0 : decide ((IntKind.u64.wrap ((IntKind.u64.wrap (x3_1 + (ji4))) * (IntKind.u64.wrap (x3_1 + (ji4))))) ≤ a0) = true := decide_eq_true c5
   clear c5
   have H' := ZM H
   clear H
   go_wp2
   go_roundg k1
   case measure => have := HK1.out; omega
   case rel => exact ⟨(IntKind.u64.wrap (x3_1 + (ji4))), (wrap64 (x4_1 - 1)), (by first | rfl | (simp; done) | (simp only [← hji4] <;> (first | rfl | simp)) | (simp [*]; done)), Z5, H', ⟨by have := HK1.out; omega⟩, by repeat (first | exact ddR _ | apply ddS)⟩
theorem thrumref13_RootP.loop (x0 : Int) (hx : U64 x0) : ∀ (k : Nat) (out : Int), k ≤ 32 → 0 ≤ out → out + 2 ^ k ≤ 4294967296 →
    thrumref13_RootP.l0 (k + 1) x0 out ((k : Int) - 1) = some (rootGo x0 k out) := by
  intro k
  induction k with
  | zero =>
    intro out hk h0 h1
    rw [thrumref13_RootP.l0, if_neg (by omega)]; rfl
  | succ k ih =>
    intro out hk h0 h1
    have hp := pow_pos_ k
    have e2 : (2 : Int) ^ (k + 1) = 2 ^ k + 2 ^ k := by rw [Int.pow_succ]; omega
    have hm0 : 0 ≤ (out + 2 ^ k) * (out + 2 ^ k) := Int.mul_nonneg (by omega) (by omega)
    have hm1 : (out + 2 ^ k) * (out + 2 ^ k) ≤ 4294967295 * 4294967295 := Int.mul_le_mul (by omega) (by omega) (by omega) (by omega)
    have hs : shl .u64 1 (((k + 1 : Nat) : Int) - 1) = 2 ^ k := by
      unfold shl
      rw [show (((k + 1 : Nat) : Int) - 1).toNat = k by omega, show min k IntKind.u64.bits = k from by show min k 64 = _; omega, wu]; omega
    have e1 : IntKind.u64.wrap (out + 2 ^ k) = out + 2 ^ k := by rw [wu]; exact Int.emod_eq_of_lt (by omega) (by omega)
    have e3 : IntKind.u64.wrap ((out + 2 ^ k) * (out + 2 ^ k)) = (out + 2 ^ k) * (out + 2 ^ k) := by rw [wu]; exact Int.emod_eq_of_lt hm0 (by omega)
    rw [thrumref13_RootP.l0, if_pos (by omega), if_pos (by omega), hs, e1, e3, wrap64_of (by unfold I64; omega), show ((k + 1 : Nat) : Int) - 1 - 1 = (k : Int) - 1 by omega, rootGo]
    by_cases c : (out + 2 ^ k) * (out + 2 ^ k) ≤ x0
    · rw [if_pos c, if_pos c]; exact ih _ (by omega) (by omega) (by omega)
    · rw [if_neg c, if_neg c]; exact ih _ (by omega) (by omega) (by omega)
def thrumref13_Root.f (a0 : Int) : Option Int := if U64 a0 then some (rootF a0) else none
theorem thrumref13_Root.of (a0 : Int)  (h_ : U64 a0) : thrumref13_Root.f a0 = some (rootF a0) := if_pos h_
theorem thrumref13_Root.calls (a0 : Int) (r : Int) (w : World) (h : thrumref13_Root.f a0 = some r) :
    Calls Try.prog 83 #[.int .u64 a0] w fun e w' => e = .returned (.int .u64 r) ∧ Drawn0 w w' := by
  unfold thrumref13_Root.f at h
  split at h
  case isFalse => cases h
  rename_i hu
  refine thrumref13_RootP.calls 33 a0 r w (Eq.trans ?_ h)
  exact thrumref13_RootP.loop a0 hu 32 0 (by omega) (by omega) (by decide)


end Go.Proofs.Ytihgcjagokippaa.HS
